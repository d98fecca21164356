/- Texts of this claim's proof put together: F31, HBelow, HItems, HScan, F58. -/
import Derived.Below
import Derived.Deep.Draws
import Derived.Deep.AppendLies
import Derived.Maps.AppendAt
import Derived.OwnWalk
import Derived.Laws.BytesArg
import Derived.Laws.MakeOwn
import Derived.Laws.OwnMore
import Derived.Deep.OwnRows
import Derived.Tactics
import Derived.Lib.ConvBytes
import Derived.Laws.Slices
import Derived.WalkKit
import Derived.KernelRfl
import Derived.RowKit3
import Derived.Deep.LoopGhost
import Derived.Deep.QuietTactic
import Derived.BigQuiet
import Derived.WideLaws
import Derived.Deep.DeepCutAuto
import Derived.Deep.CutBlock
import Derived.Deep.RegionHeld3
import Derived.Laws.Rows
import Derived.Lib.AppendStr
import Derived.ArgAppend
import Derived.Laws.IdiomCopy
import Derived.RowKit
import Derived.OrdersHeld
import Derived.Laws.BitsLemmas
import Derived.Laws.StructEq
import Derived.Test.YteiladccdenpbaaProg
import Derived.Shelf.RegionOpenPlain
import Derived.Shelf.Abstract
import Derived.RangeFuncNested
import Derived.RangeFuncBound
import Derived.RangeFuncCalls
import Derived.RangeFuncLeaves
import Derived.Shelf.RegionOpen
import Derived.OwnWalkIn
import Derived.TacticsInMore
import Derived.LoopNIn
import Derived.LoopIn
import Derived.Laws.EntriesVeiled
import Derived.RangeFuncBox
import Derived.ChangeArms
import Derived.DataReads
import Derived.DataElems
import Derived.SizedLaws
import Derived.Test.YteiladccdenpbaaRows
import Derived.ProofKit
import Derived.OpenShut
import Derived.ShutString
import Derived.ChangeOld
import Derived.Test.YteiladccdenpbaaKTreeFinds0
import Derived.Test.YteiladccdenpbaaKTreeFinds2
namespace Foot
end Foot
namespace Go.Proofs.Yteiladccdenpbaa
end Go.Proofs.Yteiladccdenpbaa
namespace Go.Proofs.Yteiladccdenpbaa.P
end Go.Proofs.Yteiladccdenpbaa.P
namespace Go.Proofs.Yteiladccdenpbaa.Pure
end Go.Proofs.Yteiladccdenpbaa.Pure
namespace Go.Proofs.Yteiladccdenpbaa.treeFinds
end Go.Proofs.Yteiladccdenpbaa.treeFinds
namespace Go.Proofs.YteiladccdenpbaaW.PrintLast
end Go.Proofs.YteiladccdenpbaaW.PrintLast
namespace Go.Proofs.YteiladccdenpbaaW.PrintMore
end Go.Proofs.YteiladccdenpbaaW.PrintMore
namespace Go.Proofs.YteiladccdenpbaaW.PrintWords
end Go.Proofs.YteiladccdenpbaaW.PrintWords
namespace Kd
end Kd
section
namespace Go.Proofs.Yteiladccdenpbaa.P
open Go.RowKit Go.Proofs.YteiladccdenpbaaW.PrintWords Go.Proofs.YteiladccdenpbaaW.PrintLast Go.Proofs.YteiladccdenpbaaW.PrintMore
attribute [local go_sem] max2_int min2_int max_two min_two max_three min_three max_four min_four
set_option linter.unusedVariables false
set_option linter.unusedSimpArgs false
def assartref07_Scan.l0 : Nat → Int → Int → List (S49) → List (S49) → Int → Option ((List (S49)))
 | 0, _, _, _, _, _ => none
 | k + 1, x2, x3, x9, x10, x11 => if x11 < (x9.length : Int) then (if 0 ≤ x11 then (if ((rd_T49 x9 x11).f0) ≥ x2 then (if ((rd_T49 x9 x11).f0) < x3 then (if x10.length < 8796093022208 then (assartref07_Scan.l0 k x2 x3 x9 (x10 ++ [(⟨(rd_T49 x9 x11).f0, (rd_T49 x9 x11).f1⟩ : S49)]) (wrap64 (x11 + 1))) else (none)) else (assartref07_Scan.l0 k x2 x3 x9 x10 (wrap64 (x11 + 1)))) else (assartref07_Scan.l0 k x2 x3 x9 x10 (wrap64 (x11 + 1)))) else (none)) else (some x10)
def assartref07_Scan.f (k : Nat) (l0_0 : List (S55)) (a0_1 : Int) (a1 : Int) (a2 : Int) (a3 : Int) : Option ((List (S49))) := (assartref07_List.f k l0_0 a0_1 a1).bind fun t267 => (assartref07_Scan.l0 k a2 a3 t267 ([] : List (S49)) 0)
set_option maxHeartbeats 8000000 in
set_option maxRecDepth 100000 in
theorem assartref07_Scan.calls (k : Nat) (A0_0 : Option Addr) (c0_0 : Nat) (l0_0 : List (S55)) (a0_1 : Int) (a1 : Int) (a2 : Int) (a3 : Int) (r : List (S49)) (w : World) (hr0_0 : Kd.C k55 w A0_0 l0_0.length l0_0) (hc0_0 : l0_0.length ≤ c0_0) (h : assartref07_Scan.f k l0_0 a0_1 a1 a2 a3 = some r) :
  Calls Try.prog 31 #[.agg #[.slice A0_0 l0_0.length c0_0, .int .i64 a0_1], .int .i64 a1, .int .i64 a2, .int .i64 a3] w fun e w' => ∃ v0_ : Value, e = .returned (v0_) ∧ Kd.R k49 49 w' w.heap.size (fun _ => True) v0_ r ∧ Below w.heap.size w w' := by
 have hu24 := Try.underlying24
 have hu49 := Try.underlying49
 have HR0_0 := Aside0.mk hr0_0
 have HC0_0 := Aside0.mk hc0_0
 clear hr0_0 hc0_0
 have HB := Aside0.mk (Below.refl w.heap.size w)
 have H : ((assartref07_List.f k l0_0 a0_1 a1).bind fun t267 => (assartref07_Scan.l0 k a2 a3 t267 ([] : List (S49)) 0)) = some r := h
 clear h
 replace H := Option.bind_eq_some_iff.mp H
 obtain ⟨t267, A50, H⟩ := H
 replace H : (assartref07_Scan.l0 k a2 a3 t267 ([] : List (S49)) 0) = some r := H
 have A5 := Aside0.mk A50
 clear A50
 have H' := Aside0.mk H
 clear H
 go_enter Try.func31, Try.ntmps31
 go_wp2_with (first | ((with_reducible refine gate_dst (N := 4) rfl ?_); refine box_event ?hg (N := 4) ?hd (cs := #[.slice A0_0 l0_0.length c0_0, .int .i64 a0_1]) (t := 24) ?hr ?_; (case hd => rfl); (case hg => rfl); (case hr => first | (go_simp; done) | (go_simp; rfl)); intro gb266 hg w6 hbox hb; have n0_ := Aside0.mk (below_step (by repeat (first | (with_reducible first | exact HB.out | apply below_alloc | apply pw_below_drewN | apply below_drew1) | exact HB.out)) hb); have n1_ := Aside0.mk (hbox); have n2_ := Aside0.mk ((by rw [hg]; exact (below_size (by repeat (first | (with_reducible first | exact HB.out | apply below_alloc | apply pw_below_drewN | apply below_drew1) | exact HB.out))) : w.heap.size ≤ gb266)); have n3_ := Aside0.mk ((by rw [hg]; exact (below_size (by repeat (first | (with_reducible first | exact HB.out | apply below_alloc | apply pw_below_drewN | apply below_drew1) | exact HB.out))) : w.heap.size ≤ gb266)); clear HB; have HB := n0_; have BK266 := n1_; have GW266 := n2_; have GE266 := n3_; clear n0_ n1_ n2_ n3_; clear hb hbox hg; have hcz7_0 : w6.cell? ⟨gb266, 0, none⟩ = some (.slice A0_0 l0_0.length c0_0) := (blk_cell BK266.out 0).trans rfl; have hcz7_1 : w6.cell? ⟨gb266, 1, none⟩ = some (.int .i64 a0_1) := (blk_cell BK266.out 1).trans rfl; have hfz7_0 := blk_frozen BK266.out 0; have hfz7_1 := blk_frozen BK266.out 1) | ((with_reducible refine gate_callee (f := 60) rfl ?_); refine goesL_ (some 14) rfl rfl Try.func60 (by kernel_rfl) rfl #[.agg #[.slice A0_0 l0_0.length c0_0, .int .i64 a0_1], .int .i64 a1] rfl (by (try simp only [List.map_toArray, List.map_cons, List.map_nil]); first | done | rfl | (simp only [List.length_drop, List.length_take]; rfl)) ?_; (with_reducible refine (assartref07_List.calls k (fun k_ => k_ < w.heap.size) _ _ l0_0 a0_1 a1 t267 _ ?side1 A5.out).mono ?_); (case side1 => exact Kd.V_mk HC0_0.out (Kd.F_below (Kd.C_F k55_heap HR0_0.out) (by repeat (first | (with_reducible first | exact HB.out | apply below_alloc | apply pw_below_drewN | apply below_drew1 | refine below_set ?_ GE266.out) | exact HB.out)))); rintro e w8 ⟨v268, rfl, ho0, hb⟩; refine ⟨_, rfl, ?_⟩; have n0_ := Aside0.mk (Kd.V_lower (Kd.V_mono (ok' := fun k_ => k_ ≠ gb266) ho0 (fun k_ hk_ => Or.elim hk_ (fun hs_ => fun e_ => Nat.not_le.2 hs_ (by rw [e_]; exact GW266.out)) (fun hn_ => (Kd.freshB (g := gb266) (o := .cells #[.slice A0_0 l0_0.length c0_0, .int .i64 a0_1] 24 (0, 0)) (by (with_reducible repeat (first | refine blk_drewN ?_ _ | refine blk_drew ?_ | refine blk_alloc ?_ _)); exact BK266.out) k_ hn_)))) (below_size (by repeat (first | (with_reducible first | exact HB.out | apply below_alloc | apply pw_below_drewN | apply below_drew1 | refine below_set ?_ GE266.out) | exact HB.out)))); have n1_ := Aside0.mk (blk_below (g := gb266) (o := .cells #[.slice A0_0 l0_0.length c0_0, .int .i64 a0_1] 24 (0, 0)) (by (with_reducible repeat (first | refine blk_drewN ?_ _ | refine blk_drew ?_ | refine blk_alloc ?_ _)); exact BK266.out) hb); have n2_ := Aside0.mk (below_step (by repeat (first | (with_reducible first | exact HB.out | apply below_alloc | apply pw_below_drewN | apply below_drew1 | refine below_set ?_ GE266.out) | exact HB.out)) hb); clear BK266; clear HB; have HO269 := n0_; have BK266 := n1_; have HB := n2_; clear n0_ n1_ n2_; (try clear hb); (try clear hb2); (try clear hk); (try clear hi); (try clear ho0)))
 go_loopg [10, 11] k (fun kq v10 v11 w' => ∃ (x10_1 : List (S49)) (x11_1 : Int), v11 = .int .i64 x11_1 ∧ Aside0 (assartref07_Scan.l0 kq a2 a3 t267 x10_1 x11_1 = some r) ∧ Aside0 (kq ≤ k) ∧ Aside0 (Kd.V k49 49 w' w.heap.size (fun k_ => some k_ ≠ (v10 : Value).ownBlock ∧ k_ ≠ gb266) v268 t267) ∧ Aside0 (Kd.R k49 49 w' w.heap.size (fun _ => True) v10 x10_1) ∧ Aside0 (w'.heap[gb266]? = some (.cells #[(.slice A0_0 l0_0.length c0_0), .int .i64 a0_1] 24 (0, 0))) ∧ Aside0 (Below w.heap.size w w'))
 case atStart => exact ⟨(([] : List (S49))), (0), (by first | rfl | (simp; done) | (simp [*]; done)), H', ⟨Nat.le_refl _⟩, ⟨by (with_reducible repeat (first | apply Kd.V_alloc | apply Kd.V_drewN | apply Kd.V_drew)); exact Kd.V_mono HO269.out (fun _ hk => ⟨(by simp [Value.ownBlock]), hk⟩)⟩, ⟨by first | exact Kd.R_nil _ _ _ _ _ | exact Kd.N_nil _ _ _ _ _ | exact Kd.V_nil _ _ _ _ _ | exact Kd.Q_nil _ _ _ _ _ | exact Kd.S_nil _ _ _ _ _⟩, ⟨by (with_reducible repeat (first | refine blk_drewN ?_ _ | refine blk_drew ?_ | refine blk_alloc ?_ _)); exact BK266.out⟩, ⟨by repeat (first | (with_reducible first | exact HB.out | apply below_alloc | apply pw_below_drewN | apply below_drew1 | refine below_set ?_ GE266.out) | exact HB.out)⟩⟩
 case round =>
  clear H'
  try clear p2
  try clear c3
  try clear c6
  try clear hcz7_0
  try clear hcz7_1
  try clear hfz7_0
  try clear hfz7_1
  obtain ⟨x10_1, x11_1, rfl, HA, HK1, HO_9, HO_10, BK266, HB⟩ := hrel
  cases gk with
  | zero => exact absurd HA.out (by simp [assartref07_Scan.l0])
  | succ k1 =>
   have H := HA.out
   clear HA
   simp only [assartref07_Scan.l0] at H
   by_cases c9 : x11_1 < (t267.length : Int)
   ·rw [if_pos c9] at H
    have c9b0 : decide (x11_1 < (t267.length : Int)) = true := decide_eq_true c9
    clear c9
    by_cases c10 : 0 ≤ x11_1
    ·rw [if_pos c10] at H
     have c10b0 : decide (0 ≤ x11_1) = true := decide_eq_true c10
     clear c10
     by_cases c11 : ((rd_T49 t267 x11_1).f0) ≥ a2
     ·rw [if_pos c11] at H
      have c11b0 : decide (a2 ≤ ((rd_T49 t267 x11_1).f0)) = true := decide_eq_true c11
      clear c11
      by_cases c12 : ((rd_T49 t267 x11_1).f0) < a3
      ·rw [if_pos c12] at H
       have c12b0 : decide (((rd_T49 t267 x11_1).f0) < a3) = true := decide_eq_true c12
       clear c12
       by_cases c13 : x10_1.length < 8796093022208
       ·rw [if_pos c13] at H
        have LMc13 := Aside0.mk c13
        clear c13
        obtain ⟨y273, hy273⟩ : ∃ y_ : List (S49), y_ = (x10_1 ++ [(⟨(rd_T49 t267 x11_1).f0, (rd_T49 t267 x11_1).f1⟩ : S49)]) := ⟨_, rfl⟩
        replace H : (assartref07_Scan.l0 k1 a2 a3 t267 y273 (wrap64 (x11_1 + 1))) = some r := by first | (rw [hy273]; with_reducible exact H) | (have H2_ := (Option.bind_some _ _).symm.trans H; rw [hy273]; with_reducible exact H2_) | (have H2_ := (Option.bind_some _ _).symm.trans H; with_reducible exact H2_) | with_reducible exact H | (rw [hy273]; exact H) | exact H
        have Ny273 := Aside0.mk hy273
        clear hy273
        have H' := Aside0.mk H
        clear H
        obtain ⟨Ao14, co14, eo14⟩ := Kd.V_slice HO_9.out
        subst eo14
        have p270 : 0 ≤ (x11_1 : Int) := of_decide_eq_true (by first | (with_reducible assumption) | assumption)
        have q270 : x11_1 < (t267.length : Int) := of_decide_eq_true (by first | (with_reducible assumption) | assumption)
        obtain ⟨ad270, e270, hx270_0, hx270_1⟩ := at_T49 (Kd.V_reads' HO_9.out).2.2 x11_1 p270 q270
        cases e270
        replace p270 := eq_true p270
        replace q270 := eq_true q270
        have p271 : 0 ≤ (x11_1 : Int) := of_decide_eq_true (by first | (with_reducible assumption) | assumption)
        have q271 : x11_1 < (t267.length : Int) := of_decide_eq_true (by first | (with_reducible assumption) | assumption)
        obtain ⟨ad271, e271, hx271_0, hx271_1⟩ := at_T49 (Kd.V_reads' HO_9.out).2.2 x11_1 p271 q271
        obtain rfl : ad270 = ad271 := (by injection e271)
        replace p271 := eq_true p271
        replace q271 := eq_true q271
        have p272 : 0 ≤ (x11_1 : Int) := of_decide_eq_true (by first | (with_reducible assumption) | assumption)
        have q272 : x11_1 < (t267.length : Int) := of_decide_eq_true (by first | (with_reducible assumption) | assumption)
        obtain ⟨ad272, e272, hx272_0, hx272_1⟩ := at_T49 (Kd.V_reads' HO_9.out).2.2 x11_1 p272 q272
        obtain rfl : ad270 = ad272 := (by injection e272)
        replace p272 := eq_true p272
        replace q272 := eq_true q272
        go_wp2_with (first | ((with_reducible refine gate_builtin (b := .append) (xs := #[.tmp 37, .tmp 42]) rfl ?_); at_builtin; refine Kd.R_append k49 (w0 := w) w.heap.size rfl (.tmp 37) (.tmp 42) 43 49 (.agg #[(.int .i64 0), (.int .i64 0)]) 16 rfl Try.underlying43 info49 rfl (by decide) (by omega) u10 x10_1 (⟨(rd_T49 t267 x11_1).f0, (rd_T49 t267 x11_1).f1⟩ : S49) [.int .i64 ((rd_T49 t267 x11_1).f0), .int .i64 ((rd_T49 t267 x11_1).f1)] (fun _ => True) (fun _ => False) rfl rfl ?aP (fun _ hk => hk.elim) ?aF ?aO ?aB ?aS ?aL ?_; (case aP => exact k49_mkM _ _ _ (⟨(rd_T49 t267 x11_1).f0, (rd_T49 t267 x11_1).f1⟩ : S49)); (case aB => exact (by repeat (first | (with_reducible first | exact HB.out | apply below_alloc | apply pw_below_drewN | apply below_drew1 | refine below_set ?_ GE266.out) | exact HB.out))); (case aF => exact (fun _ _ => trivial)); (case aO => exact (by (with_reducible repeat (first | apply Kd.R_alloc | apply Kd.R_drewN | apply Kd.R_drew)); exact HO_10.out)); (case aS => exact (below_size (by repeat (first | (with_reducible first | exact HB.out | apply below_alloc | apply pw_below_drewN | apply below_drew1 | refine below_set ?_ GE266.out) | exact HB.out)))); (case aL => have := LMc13.out; omega); intro v274 w15 ho hb hg hat; rw [← Ny273.out] at ho; have n0_ := Aside0.mk (Kd.V_afterv (ok := (fun k_ => k_ ≠ gb266)) (by (with_reducible repeat (first | apply Kd.V_alloc | apply Kd.V_drewN | apply Kd.V_drew)); exact Kd.V_mono HO_9.out (fun _ hk => ⟨hk.2, hk.1⟩)) hg hat); have n1_ := Aside0.mk (blk_grown (g := gb266) (o := .cells #[.slice A0_0 l0_0.length c0_0, .int .i64 a0_1] 24 (0, 0)) (by (with_reducible repeat (first | refine blk_drewN ?_ _ | refine blk_drew ?_ | refine blk_alloc ?_ _)); exact BK266.out) hg (Kd.R_ne HO_10.out BK266.out (by decide))); have n2_ := Aside0.mk (hb); have n3_ := Aside0.mk (ho); clear HO_9; clear BK266; clear HB; clear HO_10; have HO_9 := n0_; have BK266 := n1_; have HB := n2_; have HO275 := n3_; clear n0_ n1_ n2_ n3_; clear ho hb hg hat))
        go_roundg k1
        case measure => have := HK1.out; omega
        case rel => exact ⟨(y273), (wrap64 (x11_1 + 1)), (by first | rfl | (simp; done) | (simp [*]; done)), H', ⟨by have := HK1.out; omega⟩, ⟨by (with_reducible repeat (first | apply Kd.V_alloc | apply Kd.V_drewN | apply Kd.V_drew)); exact Kd.V_mono HO_9.out (fun _ hk => ⟨hk.2, hk.1⟩)⟩, ⟨by (with_reducible repeat (first | apply Kd.R_alloc | apply Kd.R_drewN | apply Kd.R_drew)); exact HO275.out⟩, ⟨by (with_reducible repeat (first | refine blk_drewN ?_ _ | refine blk_drew ?_ | refine blk_alloc ?_ _)); exact BK266.out⟩, ⟨by repeat (first | (with_reducible first | exact HB.out | apply below_alloc | apply pw_below_drewN | apply below_drew1 | refine below_set ?_ GE266.out) | exact HB.out)⟩⟩
       ·rw [if_neg c13] at H
        exact absurd H (by simp)
      ·rw [if_neg c12] at H
       have c12b0 : decide (((rd_T49 t267 x11_1).f0) < a3) = false := decide_eq_false c12
       clear c12
       have H' := Aside0.mk H
       clear H
       obtain ⟨Ao16, co16, eo16⟩ := Kd.V_slice HO_9.out
       subst eo16
       have p270 : 0 ≤ (x11_1 : Int) := of_decide_eq_true (by first | (with_reducible assumption) | assumption)
       have q270 : x11_1 < (t267.length : Int) := of_decide_eq_true (by first | (with_reducible assumption) | assumption)
       obtain ⟨ad270, e270, hx270_0, hx270_1⟩ := at_T49 (Kd.V_reads' HO_9.out).2.2 x11_1 p270 q270
       cases e270
       replace p270 := eq_true p270
       replace q270 := eq_true q270
       have p271 : 0 ≤ (x11_1 : Int) := of_decide_eq_true (by first | (with_reducible assumption) | assumption)
       have q271 : x11_1 < (t267.length : Int) := of_decide_eq_true (by first | (with_reducible assumption) | assumption)
       obtain ⟨ad271, e271, hx271_0, hx271_1⟩ := at_T49 (Kd.V_reads' HO_9.out).2.2 x11_1 p271 q271
       obtain rfl : ad270 = ad271 := (by injection e271)
       replace p271 := eq_true p271
       replace q271 := eq_true q271
       go_wp2
       go_roundg k1
       case measure => have := HK1.out; omega
       case rel => exact ⟨(x10_1), (wrap64 (x11_1 + 1)), (by first | rfl | (simp; done) | (simp [*]; done)), H', ⟨by have := HK1.out; omega⟩, ⟨by (with_reducible repeat (first | apply Kd.V_alloc | apply Kd.V_drewN | apply Kd.V_drew)); exact HO_9.out⟩, ⟨by (with_reducible repeat (first | apply Kd.R_alloc | apply Kd.R_drewN | apply Kd.R_drew)); exact HO_10.out⟩, ⟨by (with_reducible repeat (first | refine blk_drewN ?_ _ | refine blk_drew ?_ | refine blk_alloc ?_ _)); exact BK266.out⟩, ⟨by repeat (first | (with_reducible first | exact HB.out | apply below_alloc | apply pw_below_drewN | apply below_drew1 | refine below_set ?_ GE266.out) | exact HB.out)⟩⟩
     ·rw [if_neg c11] at H
      have c11b0 : decide (a2 ≤ ((rd_T49 t267 x11_1).f0)) = false := decide_eq_false c11
      clear c11
      have H' := Aside0.mk H
      clear H
      obtain ⟨Ao17, co17, eo17⟩ := Kd.V_slice HO_9.out
      subst eo17
      have p270 : 0 ≤ (x11_1 : Int) := of_decide_eq_true (by first | (with_reducible assumption) | assumption)
      have q270 : x11_1 < (t267.length : Int) := of_decide_eq_true (by first | (with_reducible assumption) | assumption)
      obtain ⟨ad270, e270, hx270_0, hx270_1⟩ := at_T49 (Kd.V_reads' HO_9.out).2.2 x11_1 p270 q270
      cases e270
      replace p270 := eq_true p270
      replace q270 := eq_true q270
      go_wp2
      go_roundg k1
      case measure => have := HK1.out; omega
      case rel => exact ⟨(x10_1), (wrap64 (x11_1 + 1)), (by first | rfl | (simp; done) | (simp [*]; done)), H', ⟨by have := HK1.out; omega⟩, ⟨by (with_reducible repeat (first | apply Kd.V_alloc | apply Kd.V_drewN | apply Kd.V_drew)); exact HO_9.out⟩, ⟨by (with_reducible repeat (first | apply Kd.R_alloc | apply Kd.R_drewN | apply Kd.R_drew)); exact HO_10.out⟩, ⟨by (with_reducible repeat (first | refine blk_drewN ?_ _ | refine blk_drew ?_ | refine blk_alloc ?_ _)); exact BK266.out⟩, ⟨by repeat (first | (with_reducible first | exact HB.out | apply below_alloc | apply pw_below_drewN | apply below_drew1 | refine below_set ?_ GE266.out) | exact HB.out)⟩⟩
    ·rw [if_neg c10] at H
     exact absurd H (by simp)
   ·rw [if_neg c9] at H
    have c9b0 : decide (x11_1 < (t267.length : Int)) = false := decide_eq_false c9
    clear c9
    obtain rfl := Option.some.inj H
    obtain ⟨Ao18, co18, eo18⟩ := Kd.V_slice HO_9.out
    subst eo18
    go_wp2
    go_ret
    exact ⟨_, by first | rfl | (simp [errW_none, errW_some] <;> rfl) | (simp [*, errW_none, errW_some] <;> rfl), by (with_reducible repeat (first | apply Kd.R_alloc | apply Kd.R_drewN | apply Kd.R_drew)); exact HO_10.out, by repeat (first | (with_reducible first | exact HB.out | apply below_alloc | apply pw_below_drewN | apply below_drew1 | refine below_set ?_ GE266.out) | exact HB.out)⟩
end Go.Proofs.Yteiladccdenpbaa.P
end
section
namespace Go.Proofs.Yteiladccdenpbaa.P
open Go.RowKit Go.Shelf Go.Proofs.YteiladccdenpbaaW.PrintWords Go.Proofs.YteiladccdenpbaaW.PrintLast Go.Proofs.YteiladccdenpbaaW.PrintMore
attribute [local go_sem] Oper.semAt_some
set_option linter.unusedVariables false
set_option linter.unusedSimpArgs false
theorem w64s (i : Nat) (h : i < 1000000) : wrap64 ((i : Int) + 1) = ((i + 1 : Nat) : Int) := by
  unfold wrap64
  omega
theorem add_add_ (a : Addr) (x y : Nat) : (a.add x).add y = a.add (x + y) := by
  unfold Addr.add
  by_cases hx : x = 0 <;> by_cases hy : y = 0 <;> simp [hx, hy, Nat.add_assoc]
def catO (f : Int → Option (List S49)) : List S49 → Option (List S49)
  | [] => some []
  | x :: xs => (f x.f1).bind fun a => (catO f xs).bind fun b => some (a ++ b)
def itemsL : Nat → List S55 → Int → Int → Option (List S49)
  | 0, _, _, _ => none
  | k + 1, l, lo, p =>
    if 0 ≤ p ∧ p < (l.length : Int) then
      (node_At.f (rd_T55 l p).f2.f0 (rd_T55 l p).f2.f1 lo).bind fun r =>
        if 0 ≤ r.1 ∧ r.1 ≤ ((rd_T55 l p).f2.f1.length : Int) then
          (if (rd_T55 l p).f2.f0 = true then some ((rd_T55 l p).f2.f1.drop r.1.toNat) else catO (itemsL k l lo) ((rd_T55 l p).f2.f1.drop r.1.toNat))
        else none
    else none
def keepT : Obj → Bool
  | .cells _ t _ => t != 43 && t != 49
  | _ => false
def KpT (n₀ : Nat) (W W' : World) : Prop := Below n₀ W W' ∧ ∀ (k : Nat) (o : Obj), W.heap[k]? = some o → keepT o = true → W'.heap[k]? = some o
theorem KpT.t {n₀ : Nat} {A B C : World} (h : KpT n₀ A B) (k : KpT n₀ B C) : KpT n₀ A C := ⟨h.1.trans k.1, fun i o hi ho => k.2 i o (h.2 i o hi ho) ho⟩
theorem KpT.refl (n₀ : Nat) (A : World) : KpT n₀ A A := ⟨Below.refl _ _, fun _ _ h _ => h⟩
theorem KpT.below {n₀ : Nat} {A B : World} (h : Below A.heap.size A B) (hn : n₀ ≤ A.heap.size) : KpT n₀ A B := ⟨h.mono hn, fun i o hi _ => (h.block i (Array.getElem?_eq_some_iff.1 hi).1).trans hi⟩
theorem grown_below {A B : World} (h : Below A.heap.size A B) : A.grownBy B none := ⟨h.os, h.tape, h.output, h.size, fun k hk _ => h.block k hk⟩
theorem abides_below {β : Type} {B : Nat} {J : β → World → Prop} (hJ : AbidesFrom B J) {s : β} {X Y : World} (hs : J s X) (h : Below X.heap.size X Y) : J s Y := hJ s X Y none hs (grown_below h) (fun r e => by cases e)
structure Bx (w0 : World) (A : Option Addr) (c : Nat) (ls : List S55) (kp lo : Int) (ly gh gl gy gb : Nat) (W : World) : Prop where
  h : W.heap[gh]? = some (.cells #[.slice A ls.length c, .int .i64 kp] 24 (0, 0))
  l : W.heap[gl]? = some (.cells #[.int .i64 lo] 3 (0, 0))
  y : W.heap[gy]? = some (.cells #[.func (.yield ly) #[] #[]] 120 (0, 0))
  b : W.heap[gb]? = some (.cells #[.func (.func 86) #[] #[.pointer (some ⟨gh, 0, none⟩), .pointer (some ⟨gl, 0, none⟩), .pointer (some ⟨gy, 0, none⟩), .pointer (some ⟨gb, 0, none⟩)]] 119 (0, 0))
  w : Below w0.heap.size w0 W
theorem Bx.kp {w0 : World} {A : Option Addr} {c : Nat} {ls : List S55} {kp lo : Int} {ly gh gl gy gb : Nat} {W W' : World} (h : Bx w0 A c ls kp lo ly gh gl gy gb W) (hk : KpT w0.heap.size W W') : Bx w0 A c ls kp lo ly gh gl gy gb W' :=
  ⟨hk.2 _ _ h.h rfl, hk.2 _ _ h.l rfl, hk.2 _ _ h.y rfl, hk.2 _ _ h.b rfl, h.w.trans hk.1⟩
theorem Bx.below {w0 : World} {A : Option Addr} {c : Nat} {ls : List S55} {kp lo : Int} {ly gh gl gy gb : Nat} {W W' : World} (h : Bx w0 A c ls kp lo ly gh gl gy gb W) (hk : Below W.heap.size W W') : Bx w0 A c ls kp lo ly gh gl gy gb W' :=
  h.kp (KpT.below hk h.w.size)
set_option maxHeartbeats 4000000 in
set_option maxRecDepth 100000 in
theorem below_in (w0 : World) (A : Option Addr) (c : Nat) (ls : List S55) (kp lo : Int) (ly gh gl gy gb : Nat) (hC : Kd.C k55 w0 A ls.length ls) (N B : Nat) (J Jx : List S49 → World → Prop)
    (hJ : AbidesFrom B J) (hJx : AbidesFrom B Jx)
    (hY : ∀ m pre x W, J pre W → pre.length < N → YieldAt Fence.wide m Try.prog ly #[.agg #[.int .i64 (S49.f0 x), .int .i64 (S49.f1 x)]] W fun e W' =>
      (e = .returned (.bool true) ∧ J (pre ++ [x]) W' ∧ KpT w0.heap.size W W') ∨ (e = .returned (.bool false) ∧ Jx (pre ++ [x]) W')) (k : Nat) :
    ∀ (n : Nat) (p : Int) (pre out : List S49) (W : World), Bx w0 A c ls kp lo ly gh gl gy gb W → J pre W → itemsL k ls lo p = some out → pre.length + out.length ≤ N →
      CallsIn Fence.wide n Try.prog 86 #[.int .i64 p, .pointer (some ⟨gh, 0, none⟩), .pointer (some ⟨gl, 0, none⟩), .pointer (some ⟨gy, 0, none⟩), .pointer (some ⟨gb, 0, none⟩)] W fun e W' =>
        (e = .returned (.bool true) ∧ J (pre ++ out) W' ∧ KpT w0.heap.size W W') ∨ (e = .returned (.bool false) ∧ ∃ q, q <+: out ∧ Jx (pre ++ q) W') := by
  induction k with
  | zero => intro n p pre out W hb hj h _; simp [itemsL] at h
  | succ k ih =>
  intro n p pre out W hb hj h hN
  have hdd : ∀ k : Nat, (Fence.wide.depth.isSome = true → 1 ≤ k) := fun k h => by cases h
  rw [itemsL] at h
  have hp : 0 ≤ p ∧ p < (ls.length : Int) := by
    by_cases hc : 0 ≤ p ∧ p < (ls.length : Int)
    · exact hc
    · rw [if_neg hc] at h; cases h
  rw [if_pos hp] at h
  obtain ⟨⟨fr, is⟩, hat, h⟩ := Option.bind_eq_some_iff.1 h
  obtain ⟨hp0, hp1⟩ := hp
  obtain ⟨ad, A3, c3, rfl, x0, x1, x2, x3, hl3, hi3⟩ := at_T55 hC p hp0 hp1
  generalize hnd : (rd_T55 ls p).f2 = nd at *
  have hf : 0 ≤ fr ∧ fr ≤ (nd.f1.length : Int) := by
    by_cases hc : 0 ≤ fr ∧ fr ≤ (nd.f1.length : Int)
    · exact hc
    · simp only [] at h; rw [if_neg hc] at h; cases h
  simp only [] at h
  rw [if_pos hf] at h
  obtain ⟨hf0, hf1⟩ := hf
  have HB := Aside0.mk hb
  have HJ := Aside0.mk hj
  have HH := Aside0.mk h
  have HAT := Aside0.mk hat
  have HLEN : Aside0 (nd.f1.length < 1000000) := by
    refine ⟨?_⟩
    unfold node_At.f at hat
    by_cases hc : rising nd.f1 = true ∧ nd.f1.length < 1000000
    · exact hc.2
    · rw [if_neg hc] at hat; cases hat
  have HL3 := Aside0.mk hl3
  have HI3 := Aside0.mk hi3
  have HN := Aside0.mk hN
  have y0 := (hb.w.cell (World.block_lt_of_cell? w0 _ x0)).trans x0
  have y1 := (hb.w.cell (World.block_lt_of_cell? w0 _ x1)).trans x1
  have y2 := (hb.w.cell (World.block_lt_of_cell? w0 _ x2)).trans x2
  have y3 := (hb.w.cell (World.block_lt_of_cell? w0 _ x3)).trans x3
  have b0 : W.cell? ⟨gh, 0, none⟩ = some (.slice (some ad) ls.length c) := (blk_cell hb.h 0).trans rfl
  have b1 : W.cell? ⟨gl, 0, none⟩ = some (.int .i64 lo) := (blk_cell hb.l 0).trans rfl
  have l0 := HB.out.l
  have b1' := World.block_lt_of_cell? W _ b1
  clear hb hj h hat hl3 hi3 hN x0 x1 x2 x3 hC l0
  refine callsIn_of_wp Try.func86 rfl trivial ?_ rfl
  simp only [Try.ntmps86, List.size_toArray, List.length_cons, List.length_nil, Nat.reduceAdd, Nat.reduceSub, Array.replicate_succ, Array.replicate_zero, List.push_toArray, List.append_toArray, List.nil_append, List.cons_append]
  have hu24 := Try.underlying24
  have hu53 := Try.underlying53
  have hu49 := Try.underlying49
  gi_wp2
  refine ⟨trivial, hdd _, ?_⟩
  have HC7 : Kd.C k49 (W.alloc (.cells #[.bool nd.f0, .slice A3 nd.f1.length c3] 53)) A3 nd.f1.length nd.f1 := Kd.C_alloc (Kd.C_below HI3.out HB.out.w) _
  refine (callsIn_wide.2 (node_At.calls nd.f0 A3 c3 nd.f1 lo fr is _ HC7 HL3.out HAT.out)).mono ?_
  rintro e w1 ⟨rfl, hb1⟩
  have hbW : Below W.heap.size W w1 := ((Below.refl W.heap.size W).alloc (Nat.le_refl _) _).trans (hb1.mono (by simp))
  have hb7 : w1.heap[W.heap.size]? = some (.cells #[.bool nd.f0, .slice A3 nd.f1.length c3] 53 (0, 0)) := (hb1.block _ (by simp)).trans (World.alloc_heap_new W _)
  have HK1 := Aside0.mk (KpT.below hbW HB.out.w.size)
  have HB1 := Aside0.mk (HB.out.below hbW)
  have HJ1 := Aside0.mk (abides_below hJ HJ.out hbW)
  have H7 := Aside0.mk hb7
  have g0 : w1.cell? ⟨W.heap.size, 0, none⟩ = some (.bool nd.f0) := (blk_cell hb7 0).trans rfl
  have g1 : w1.cell? ⟨W.heap.size, 1, none⟩ = some (.slice A3 nd.f1.length c3) := (blk_cell hb7 1).trans rfl
  have HC1 := Aside0.mk (Kd.C_below HI3.out (HB1.out.w))
  have HW := Aside0.mk HB.out.w.size
  clear hb1 hbW hb7 HC7 HB HJ y0 y1 y2 y3 b0 b1 b1' HAT
  generalize W.heap.size = g7 at *
  obtain ⟨fi, rfl⟩ : ∃ fi : Nat, fr = (fi : Int) := ⟨fr.toNat, by omega⟩
  clear hf0
  have hfi : fi ≤ nd.f1.length := by omega
  by_cases hce : fi = nd.f1.length
  · have ho : out = [] := by
      have := HH.out
      rw [show nd.f1.drop ((fi : Int)).toNat = [] by rw [Int.toNat_natCast, hce]; exact List.drop_length] at this
      cases hl : nd.f0 <;> rw [hl] at this
      · simpa [catO] using this.symm
      · simpa using this.symm
    have HO := Aside0.mk ho
    have hz : nd.f1.length - fi = 0 := by omega
    clear ho hce hf1
    gi_wp2
    all_goals (gi_loopw [30] (fun p wr => p = .int .i64 0 ∧ wr = w1) (fun p wr => 0))
    case atStart => exact ⟨rfl, rfl⟩
    case atStart => exact ⟨rfl, rfl⟩
    all_goals obtain ⟨rfl, rfl⟩ := hrel
    all_goals gi_wp2
    all_goals go_ret
    all_goals exact .inl ⟨rfl, by rw [HO.out, List.append_nil]; exact HJ1.out, HK1.out⟩
  · have hlt : fi < nd.f1.length := by omega
    have hne : ¬ c3 = fi := by have := HL3.out; omega
    obtain ⟨ad3, hA3, -, -⟩ := at_T49 HC1.out (fi : Int) (by omega) (by omega)
    subst hA3
    clear hce hf1
    gi_wp2
    gi_loopw [30] (fun p wr => ∃ (i : Nat) (dn td : List S49), p = .int .i64 i ∧ i ≤ nd.f1.length - fi ∧ Aside0 (Bx w0 (some ad) c ls kp lo ly gh gl gy gb wr) ∧ Aside0 (J (pre ++ dn) wr) ∧ Aside0 (KpT w0.heap.size W wr) ∧ Aside0 (wr.heap[g7]? = some (.cells #[.bool nd.f0, .slice (some ad3) nd.f1.length c3] 53 (0, 0))) ∧ Aside0 (out = dn ++ td) ∧
      Aside0 ((if nd.f0 = true then some (nd.f1.drop (fi + i)) else catO (itemsL k ls lo) (nd.f1.drop (fi + i))) = some td)) (fun p wr => nd.f1.length - fi - (intOf p).toNat)
    case atStart => exact ⟨0, [], out, rfl, Nat.zero_le _, HB1, by rw [List.append_nil]; exact HJ1, HK1, H7, ⟨rfl⟩, by rw [Int.toNat_natCast] at HH; exact HH⟩
    case round =>
      obtain ⟨i, dn, td, rfl, hi, HBr, HJr, HKr, H7r, HOr, HTr⟩ := hrel
      have r0 : wr.cell? ⟨g7, 0, none⟩ = some (.bool nd.f0) := (blk_cell H7r.out 0).trans rfl
      have r1 : wr.cell? ⟨gy, 0, none⟩ = some (.func (.yield ly) #[] #[]) := (blk_cell HBr.out.y 0).trans rfl
      have r2 : wr.cell? ⟨gb, 0, none⟩ = some (.func (.func 86) #[] #[.pointer (some ⟨gh, 0, none⟩), .pointer (some ⟨gl, 0, none⟩), .pointer (some ⟨gy, 0, none⟩), .pointer (some ⟨gb, 0, none⟩)]) := (blk_cell HBr.out.b 0).trans rfl
      have s1 := World.block_lt_of_cell? wr _ r0
      have s2 := World.block_lt_of_cell? wr _ r1
      have s3 := World.block_lt_of_cell? wr _ r2
      by_cases hend : i < nd.f1.length - fi
      · obtain ⟨_, hA, z0, z1⟩ := at_T49 (Kd.C_below HI3.out HBr.out.w) ((fi + i : Nat) : Int) (by omega) (by omega)
        cases hA
        rw [Int.toNat_natCast] at z0 z1
        have hdrop : nd.f1.drop (fi + i) = rd_T49 nd.f1 ((fi + i : Nat) : Int) :: nd.f1.drop (fi + i + 1) := by
          rw [List.drop_eq_getElem_cons (by omega)]
          congr 1
          simp only [rd_T49, Int.toNat_natCast, List.getD_eq_getElem?_getD, List.getElem?_eq_getElem (show fi + i < nd.f1.length by omega), Option.getD_some]
        rw [show ad3.add ((fi + i) * 2) = (ad3.add (fi * 2)).add (i * 2) by rw [add_add_]; congr 1; omega] at z0 z1
        generalize rd_T49 nd.f1 ((fi + i : Nat) : Int) = x at *
        cases hlf : nd.f0 <;> rw [hlf] at r0
        ·
          have hT := HTr.out
          rw [hlf, if_neg Bool.false_ne_true, hdrop] at hT
          simp only [catO] at hT
          obtain ⟨ta, hta, hT⟩ := Option.bind_eq_some_iff.1 hT
          obtain ⟨tb, htb, hT⟩ := Option.bind_eq_some_iff.1 hT
          obtain rfl := Option.some.inj hT
          have HTA := Aside0.mk hta
          have HTB := Aside0.mk htb
          clear hT hta htb HTr
          have hbx : Below wr.heap.size wr (wr.alloc (.cells #[.int .i64 x.f0, .int .i64 x.f1] 49)) := (Below.refl _ wr).alloc (Nat.le_refl _) _
          have HIH := Aside0.mk (ih (n - 1) x.f1 (pre ++ dn) ta _ (HBr.out.below hbx) (abides_below hJ HJr.out hbx) HTA.out (by have := HN.out; rw [HOr.out] at this; simp only [List.length_append] at this ⊢; omega))
          have HK2 := Aside0.mk (HKr.out.t (KpT.below hbx HBr.out.w.size))
          have HB2 := Aside0.mk (HBr.out.below hbx)
          have H72 := Aside0.mk ((hbx.block _ s1).trans H7r.out)
          clear hbx
          gi_wp2
          refine ⟨trivial, hdd _, ?_⟩
          refine HIH.out.mono ?_
          rintro e W3 (⟨rfl, hJ3, hK3⟩ | ⟨rfl, q, hq, hx3⟩)
          · have HJ3 := Aside0.mk hJ3
            have HK3 := Aside0.mk hK3
            clear hJ3 hK3
            gi_wp2
            go_roundw
            case rel => exact ⟨i + 1, dn ++ ta, tb, congrArg _ (w64s i (by have := HLEN.out; omega)), by omega, ⟨HB2.out.kp HK3.out⟩, ⟨by rw [← List.append_assoc]; exact HJ3.out⟩, ⟨HK2.out.t HK3.out⟩, ⟨by rw [← hlf]; exact HK3.out.2 _ _ H72.out rfl⟩, ⟨by rw [HOr.out, List.append_assoc]⟩, ⟨by rw [if_neg Bool.false_ne_true]; exact HTB.out⟩⟩
            case measure => rw [w64s i (by have := HLEN.out; omega)]; simp only [intOf]; omega
          · gi_wp2
            go_ret
            obtain ⟨r, hr'⟩ := hq
            exact .inr ⟨rfl, dn ++ q, ⟨r ++ tb, by rw [HOr.out, ← hr']; simp [List.append_assoc]⟩, by rw [← List.append_assoc]; exact hx3⟩
        · have hT := HTr.out
          rw [hlf, if_pos rfl, hdrop] at hT
          obtain rfl := Option.some.inj hT
          clear hT HTr
          have hNl : pre.length + (dn ++ x :: nd.f1.drop (fi + i + 1)).length ≤ N := by rw [← HOr.out]; exact HN.out
          obtain ⟨fn, tmps, assign, body, hy, hR⟩ := hY (n - 1) (pre ++ dn) x (wr.alloc (.cells #[.int .i64 x.f0, .int .i64 x.f1] 49)) (abides_below hJ HJr.out ((Below.refl _ wr).alloc (Nat.le_refl _) _)) (by simp only [List.length_append, List.length_cons] at hNl ⊢; omega)
          clear hNl
          have hbx : Below wr.heap.size wr (wr.alloc (.cells #[.int .i64 x.f0, .int .i64 x.f1] 49)) := (Below.refl _ wr).alloc (Nat.le_refl _) _
          have HK2 := Aside0.mk (HKr.out.t (KpT.below hbx HBr.out.w.size))
          have HB2 := Aside0.mk (HBr.out.below hbx)
          have H72 := Aside0.mk ((hbx.block _ s1).trans H7r.out)
          clear hbx
          gi_wp2
          refine ⟨hdd _, ?_⟩
          refine hR.mono ?_
          rintro e W3 (⟨rfl, hJ3, hK3⟩ | ⟨rfl, hx3⟩)
          · have HJ3 := Aside0.mk hJ3
            have HK3 := Aside0.mk hK3
            clear hJ3 hK3
            gi_wp2
            go_roundw
            case rel => exact ⟨i + 1, dn ++ [x], nd.f1.drop (fi + i + 1), congrArg _ (w64s i (by have := HLEN.out; omega)), by omega, ⟨HB2.out.kp HK3.out⟩, ⟨by rw [← List.append_assoc]; exact HJ3.out⟩, ⟨HK2.out.t HK3.out⟩, ⟨by rw [← hlf]; exact HK3.out.2 _ _ H72.out rfl⟩, ⟨by rw [HOr.out, List.append_assoc]; rfl⟩, ⟨rfl⟩⟩
            case measure => rw [w64s i (by have := HLEN.out; omega)]; simp only [intOf]; omega
          · gi_wp2
            go_ret
            exact .inr ⟨rfl, dn ++ [x], ⟨nd.f1.drop (fi + i + 1), by rw [HOr.out]; simp [List.append_assoc]⟩, by rw [← List.append_assoc]; exact hx3⟩
      · obtain rfl : i = nd.f1.length - fi := by omega
        have ht : td = [] := by
          have := HTr.out
          rw [show nd.f1.drop (fi + (nd.f1.length - fi)) = [] from List.drop_eq_nil_of_le (by omega)] at this
          cases hl : nd.f0 <;> rw [hl] at this
          · simpa [catO] using this.symm
          · simpa using this.symm
        have HT0 := Aside0.mk ht
        clear ht
        gi_wp2
        go_ret
        exact .inl ⟨rfl, by rw [HOr.out, HT0.out, List.append_nil]; exact HJr.out, HKr.out⟩
end Go.Proofs.Yteiladccdenpbaa.P
end
section
namespace Go.Proofs.Yteiladccdenpbaa.P
open Go.RowKit Go.Shelf Go.Proofs.YteiladccdenpbaaW.PrintWords Go.Proofs.YteiladccdenpbaaW.PrintLast Go.Proofs.YteiladccdenpbaaW.PrintMore
attribute [local go_sem] Oper.semAt_some
set_option linter.unusedVariables false
set_option linter.unusedSimpArgs false
def itemsF (l : List S55) (root lo : Int) : Option (List S49) := if 0 ≤ root then itemsL 30 l lo root else some []
set_option maxHeartbeats 4000000 in
set_option maxRecDepth 100000 in
theorem items1_in (w0 : World) (A : Option Addr) (c : Nat) (ls : List S55) (kp lo root : Int) (ly gh gl gr : Nat) (hC : Kd.C k55 w0 A ls.length ls) (B : Nat) (J Jx : List S49 → World → Prop)
    (hJ : AbidesFrom B J) (hJx : AbidesFrom B Jx) (out : List S49) (ho : itemsF ls root lo = some out)
    (hY : ∀ m pre x W, J pre W → pre.length < out.length → YieldAt Fence.wide m Try.prog ly #[.agg #[.int .i64 (S49.f0 x), .int .i64 (S49.f1 x)]] W fun e W' =>
      (e = .returned (.bool true) ∧ J (pre ++ [x]) W' ∧ KpT w0.heap.size W W') ∨ (e = .returned (.bool false) ∧ Jx (pre ++ [x]) W'))
    (n : Nat) (W : World) (h1 : W.heap[gh]? = some (.cells #[.slice A ls.length c, .int .i64 kp] 24 (0, 0))) (h2 : W.heap[gl]? = some (.cells #[.int .i64 lo] 3 (0, 0))) (h3 : W.heap[gr]? = some (.cells #[.int .i64 root] 3 (0, 0)))
    (h4 : Below w0.heap.size w0 W) (h0 : J [] W) :
    CallsIn Fence.wide n Try.prog 85 #[.func (.yield ly) #[] #[], .pointer (some ⟨gh, 0, none⟩), .pointer (some ⟨gl, 0, none⟩), .pointer (some ⟨gr, 0, none⟩)] W fun e W' => (∃ v, e = .returned v) ∧
      ((∃ ys, ys = out ∧ J ys W') ∨ (∃ pre, pre <+: out ∧ Jx pre W')) := by
  have hdd : ∀ k : Nat, (Fence.wide.depth.isSome = true → 1 ≤ k) := fun k h => by cases h
  have b3 : W.cell? ⟨gr, 0, none⟩ = some (.int .i64 root) := (blk_cell h3 0).trans rfl
  have b3' := World.block_lt_of_cell? W _ b3
  have H1 := Aside0.mk h1
  have H2 := Aside0.mk h2
  have H3 := Aside0.mk h3
  have H4 := Aside0.mk h4
  have H0 := Aside0.mk h0
  have HO := Aside0.mk ho
  clear h1 h2 h3 h4 h0 ho
  refine callsIn_of_wp Try.func85 rfl trivial ?_ rfl
  simp only [Try.ntmps85, List.size_toArray, List.length_cons, List.length_nil, Nat.reduceAdd, Nat.reduceSub, Array.replicate_succ, Array.replicate_zero, List.push_toArray, List.append_toArray, List.nil_append, List.cons_append]
  have HX := Aside0.mk (show Below W.heap.size W ((W.alloc (.cells #[.func (.yield ly) #[] #[]] 120)).alloc (.cells #[(.func (.func 86) #[] #[.pointer (some ⟨gh, 0, none⟩), .pointer (some ⟨gl, 0, none⟩), .pointer (some ⟨W.heap.size, 0, none⟩), .pointer (some ⟨W.heap.size + 1, 0, none⟩)])] 119)) from (((Below.refl W.heap.size W).alloc (Nat.le_refl _) _).alloc (by simp) _))
  have Q3 : Aside0 (((W.alloc (.cells #[.func (.yield ly) #[] #[]] 120)).alloc (.cells #[(.func (.func 86) #[] #[.pointer (some ⟨gh, 0, none⟩), .pointer (some ⟨gl, 0, none⟩), .pointer (some ⟨W.heap.size, 0, none⟩), .pointer (some ⟨W.heap.size + 1, 0, none⟩)])] 119)).heap[W.heap.size + 1]? = some (.cells #[(.func (.func 86) #[] #[.pointer (some ⟨gh, 0, none⟩), .pointer (some ⟨gl, 0, none⟩), .pointer (some ⟨W.heap.size, 0, none⟩), .pointer (some ⟨W.heap.size + 1, 0, none⟩)])] 119 (0, 0))) := by
    have := World.alloc_heap_new (W.alloc (.cells #[.func (.yield ly) #[] #[]] 120)) (.cells #[(.func (.func 86) #[] #[.pointer (some ⟨gh, 0, none⟩), .pointer (some ⟨gl, 0, none⟩), .pointer (some ⟨W.heap.size, 0, none⟩), .pointer (some ⟨W.heap.size + 1, 0, none⟩)])] 119)
    exact ⟨by rwa [World.size_alloc] at this⟩
  have Q6 : Aside0 (((W.alloc (.cells #[.func (.yield ly) #[] #[]] 120)).alloc (.cells #[(.func (.func 86) #[] #[.pointer (some ⟨gh, 0, none⟩), .pointer (some ⟨gl, 0, none⟩), .pointer (some ⟨W.heap.size, 0, none⟩), .pointer (some ⟨W.heap.size + 1, 0, none⟩)])] 119)).heap[W.heap.size]? = some (.cells #[.func (.yield ly) #[] #[]] 120 (0, 0))) := ⟨blk_alloc (World.alloc_heap_new W _) _⟩
  have q5 : ((W.alloc (.cells #[.func (.yield ly) #[] #[]] 120)).alloc (.cells #[(.func (.func 86) #[] #[.pointer (some ⟨gh, 0, none⟩), .pointer (some ⟨gl, 0, none⟩), .pointer (some ⟨W.heap.size, 0, none⟩), .pointer (some ⟨W.heap.size + 1, 0, none⟩)])] 119)).cell? ⟨gr, 0, none⟩ = some (.int .i64 root) := (HX.out.cell b3').trans b3
  have HB := Aside0.mk (show Bx w0 A c ls kp lo ly gh gl W.heap.size (W.heap.size + 1) ((W.alloc (.cells #[.func (.yield ly) #[] #[]] 120)).alloc (.cells #[(.func (.func 86) #[] #[.pointer (some ⟨gh, 0, none⟩), .pointer (some ⟨gl, 0, none⟩), .pointer (some ⟨W.heap.size, 0, none⟩), .pointer (some ⟨W.heap.size + 1, 0, none⟩)])] 119)) from ⟨(HX.out.block _ (Array.getElem?_eq_some_iff.1 H1.out).1).trans H1.out, (HX.out.block _ (Array.getElem?_eq_some_iff.1 H2.out).1).trans H2.out, Q6.out, Q3.out, H4.out.trans (HX.out.mono H4.out.size)⟩)
  have HJ1 := Aside0.mk (abides_below hJ H0.out HX.out)
  by_cases hr : 0 ≤ root
  · have hi : itemsL 30 ls lo root = some out := by have := HO.out; rw [itemsF, if_pos hr] at this; exact this
    have HI := Aside0.mk hi
    clear hi
    gi_wp2
    refine ⟨trivial, hdd _, ?_⟩
    refine (below_in w0 A c ls kp lo ly gh gl W.heap.size (W.heap.size + 1) hC out.length B J Jx hJ hJx hY 30 (n - 1) root [] out _ HB.out HJ1.out HI.out (by simp)).mono ?_
    rintro e W3 (⟨rfl, hJ3, hK3⟩ | ⟨rfl, q, hq, hx3⟩)
    · gi_wp2
      go_end0
      exact ⟨⟨_, rfl⟩, .inl (by simpa using hJ3)⟩
    · gi_wp2
      go_end0
      exact ⟨⟨_, rfl⟩, .inr ⟨q, hq, by simpa using hx3⟩⟩
  · have hi : out = [] := by have := HO.out; rw [itemsF, if_neg hr] at this; exact (Option.some.inj this).symm
    have HI := Aside0.mk hi
    clear hi
    gi_wp2
    go_end0
    exact ⟨⟨_, rfl⟩, .inl (by rw [HI.out]; exact HJ1.out)⟩
set_option maxHeartbeats 1000000 in
theorem items_in (F : Fence) (n : Nat) (hf : F.fn 61) (hro : F.round = none) (A : Option Addr) (c m : Nat) (kp root lo : Int) (w : World) :
    CallsIn F n Try.prog 61 #[.agg #[.slice A m c, .int .i64 kp], .int .i64 root, .int .i64 lo] w fun e w' => e = .returned (.func (.func 85) #[] #[.pointer (some ⟨w.heap.size, 0, none⟩), .pointer (some ⟨w.heap.size + 2, 0, none⟩), .pointer (some ⟨w.heap.size + 1, 0, none⟩)]) ∧ w' = ((w.alloc (.cells #[.slice A m c, .int .i64 kp] 24)).alloc (.cells #[.int .i64 root] 3)).alloc (.cells #[.int .i64 lo] 3) := by
  refine callsIn_of_wp Try.func61 rfl hf ?_ hro
  have hu24 := Try.underlying24
  simp only [Try.ntmps61, List.size_toArray, List.length_cons, List.length_nil, Nat.reduceAdd, Nat.reduceSub, Array.replicate_succ, Array.replicate_zero, List.push_toArray, List.append_toArray, List.nil_append, List.cons_append]
  gi_wp2
  go_ret
  exact ⟨rfl, rfl⟩
theorem items_stops (w0 w : World) (A : Option Addr) (c : Nat) (ls : List S55) (kp lo root : Int) (n gh gl gr : Nat) (hC : Kd.C k55 w0 A ls.length ls) (out : List S49) (ho : itemsF ls root lo = some out)
    (h1 : w.heap[gh]? = some (.cells #[.slice A ls.length c, .int .i64 kp] 24 (0, 0))) (h2 : w.heap[gl]? = some (.cells #[.int .i64 lo] 3 (0, 0))) (h3 : w.heap[gr]? = some (.cells #[.int .i64 root] 3 (0, 0)))
    (h4 : Below w0.heap.size w0 w) :
    SeqStopsK Fence.wide n Try.prog 85 #[.pointer (some ⟨gh, 0, none⟩), .pointer (some ⟨gl, 0, none⟩), .pointer (some ⟨gr, 0, none⟩)] (fun x : S49 => #[Value.agg #[.int .i64 x.f0, .int .i64 x.f1]]) (KpT w0.heap.size) (fun ys => ys = out) (fun pre => pre <+: out) out.length w := by
  intro l J Jx W hW hJ hJx hY h0
  refine items1_in w0 A c ls kp lo root l gh gl gr hC _ J Jx hJ hJx out ho ?_ n W ?_ ?_ ?_ (h4.trans (hW.mono h4.size)) h0
  · intro m pre x X hj hl
    obtain ⟨fn, tmps, assign, body, hy, hR⟩ := hY pre x X hj hl
    exact ⟨fn, tmps, assign, body, hy, hR.1, fun c cs _ => hR.2 c cs (fun d h => by cases h)⟩
  · exact (hW.block _ (Array.getElem?_eq_some_iff.1 h1).1).trans h1
  · exact (hW.block _ (Array.getElem?_eq_some_iff.1 h2).1).trans h2
  · exact (hW.block _ (Array.getElem?_eq_some_iff.1 h3).1).trans h3
end Go.Proofs.Yteiladccdenpbaa.P
end
section
namespace Go.Proofs.Yteiladccdenpbaa.P
open Go.RowKit Go.Shelf Go.Proofs.YteiladccdenpbaaW.PrintWords Go.Proofs.YteiladccdenpbaaW.PrintLast Go.Proofs.YteiladccdenpbaaW.PrintMore
attribute [local go_sem] Oper.semAt_some
set_option linter.unusedVariables false
set_option linter.unusedSimpArgs false
def cellsI (x : S49) : List Value := [.int .i64 x.f0, .int .i64 x.f1]
def cellsL (l : List S49) : List Value := l.flatMap cellsI
theorem cellsL_snoc (l : List S49) (x : S49) : cellsL (l ++ [x]) = cellsL l ++ cellsI x := by simp [cellsL]
theorem cellsL_len (l : List S49) : (cellsL l).length = l.length * 2 := by
  induction l with
  | nil => rfl
  | cons x l ih =>
    show (cellsI x ++ cellsL l).length = _
    rw [List.length_append, ih, List.length_cons]
    show 2 + _ = _
    omega
theorem cellsL_at (l : List S49) (j : Nat) (p : S49) (h : l[j]? = some p) : ((cellsL l).drop (j * 2)).take 2 = cellsI p := by
  induction l generalizing j with
  | nil => simp at h
  | cons x l ih =>
    show ((cellsI x ++ cellsL l).drop (j * 2)).take 2 = _
    cases j with
    | zero => simp at h; subst h; rfl
    | succ j =>
      rw [List.getElem?_cons_succ] at h
      rw [show (j + 1) * 2 = 2 + j * 2 by omega, ← List.drop_drop, show (cellsI x ++ cellsL l).drop 2 = cellsL l from rfl]
      exact ih j h
theorem cellsL_reps (R : S49 → List Value → Prop) (hR : ∀ x, R x (cellsI x)) (l : List S49) : Reps R 2 l (cellsL l) :=
  ⟨cellsL_len l, fun j p hp => by rw [cellsL_at l j p hp]; exact hR p⟩
theorem cell_two_new (w : World) (x y : Value) (t : TypeId) : ∀ j u, [x, y][j]? = some u → (w.alloc (.cells #[x, y] t)).cell? ((⟨w.heap.size, 0, none⟩ : Addr).add j) = some u := by
  intro j u hj
  match j, hj with
  | 0, hj =>
    simp at hj
    subst hj
    simp [Addr.add]
  | 1, hj =>
    simp at hj
    subst hj
    simp [Addr.add]
theorem kp_appended {W w1 : World} {n₀ B : Nat} {v v' : Value} {k m : Nat} {xs ys : List Value} {tmp : Obj}
    (hv : Boxed W B 43 v) (hrow : W.ownsRow n₀ 49 2 v k xs) (hn₀ : n₀ ≤ W.heap.size) (hB : n₀ ≤ B)
    (hown' : w1.ownsRow n₀ 49 2 v' m ys) (hgrow : (W.alloc tmp).grownBy w1 v.ownBlock) : KpT n₀ W (w1.setCell ⟨B, 0, none⟩ v') := by
  refine ⟨(hv.appended (by decide) hrow hn₀ hB hown' hgrow).2.2.2.2, fun i o hi ho => ?_⟩
  have hlt := (Array.getElem?_eq_some_iff.1 hi).1
  have hne : i ≠ B := fun e => by
    subst e
    rw [show W.heap[i]? = _ from hv] at hi
    cases hi
    cases ho
  have hnr : some i ≠ v.ownBlock := fun e => by
    obtain ⟨cs, hc⟩ := own_typed hrow i e.symm
    rw [hc] at hi
    cases hi
    cases ho
  rw [Below.heap_setCell _ _ _ _ hne, hgrow.block i (by simp; omega) hnr, Below.heap_alloc _ _ _ hlt]
  exact hi
theorem kp_putObj {n₀ : Nat} (W : World) (l : Nat) (o o' : Obj) (hl : n₀ ≤ l) (h : W.heap[l]? = some o) (hc : o.isCells = false) : KpT n₀ W (W.putObj l o') := by
  have hlt := (Array.getElem?_eq_some_iff.1 h).1
  refine ⟨(Below.refl n₀ W).grown (grownBy_putObj' W l o') (by omega) (fun k e => by cases e; omega), fun i p hi hp => ?_⟩
  have hne : i ≠ l := fun e => by
    subst e
    rw [h] at hi
    cases hi
    cases o <;> first | (simp [Obj.isCells] at hc; done) | (simp [keepT] at hp; done)
  exact (World.putObj_heap_other hne).trans hi
def tree_Scan.f (l0_0 : List S55) (a0_1 a1 a2 a3 : Int) : Option (List S49) :=
  (itemsF l0_0 a1 a2).bind fun out => if out.length < 1000000000 then some (out.takeWhile fun x => decide (x.f0 < a3)) else none
theorem take_all {l : List S49} {hi : Int} (h : ∀ x ∈ l, x.f0 < hi) : l.takeWhile (fun x => decide (x.f0 < hi)) = l := by
  induction l with
  | nil => rfl
  | cons x l ih => rw [List.takeWhile_cons, if_pos (decide_eq_true (h x (List.mem_cons_self ..))), ih fun y hy => h y (List.mem_cons_of_mem _ hy)]
theorem take_pre {l p : List S49} {x : S49} {hi : Int} (h : ∀ x ∈ p, x.f0 < hi) (hx : hi ≤ x.f0) (hp : p ++ [x] <+: l) : l.takeWhile (fun x => decide (x.f0 < hi)) = p := by
  obtain ⟨r, rfl⟩ := hp
  rw [List.append_assoc, List.takeWhile_append_of_pos fun y hy => decide_eq_true (h y hy)]
  simp [List.takeWhile_cons, show ¬ x.f0 < hi by omega]
set_option maxHeartbeats 8000000 in
set_option maxRecDepth 100000 in
theorem tree_Scan.calls (A0_0 : Option Addr) (c0_0 : Nat) (l0_0 : List (S55)) (a0_1 : Int) (a1 : Int) (a2 : Int) (a3 : Int) (r : List (S49)) (w : World) (hr0_0 : Kd.C k55 w A0_0 l0_0.length l0_0) (hc0_0 : l0_0.length ≤ c0_0) (h : tree_Scan.f l0_0 a0_1 a1 a2 a3 = some r) :
    Calls Try.prog 30 #[.agg #[.slice A0_0 l0_0.length c0_0, .int .i64 a0_1], .int .i64 a1, .int .i64 a2, .int .i64 a3] w fun e w' => ∃ v0_ : Value, e = .returned (v0_) ∧ Kd.R k49 49 w' w.heap.size (fun _ => True) v0_ r ∧ Below w.heap.size w w' := by
  refine (callsIn_wide (n := 3)).1 ?_
  obtain ⟨out, hout, h⟩ := Option.bind_eq_some_iff.1 h
  have hlen : out.length < 1000000000 := by
    by_cases hc : out.length < 1000000000
    · exact hc
    · rw [if_neg hc] at h; cases h
  rw [if_pos hlen] at h
  have HT := Aside0.mk (Option.some.inj h)
  have HO := Aside0.mk hout
  have HL := Aside0.mk hlen
  have HR := Aside0.mk hr0_0
  clear h hout hlen hr0_0 hc0_0
  have hu24 := Try.underlying24
  have hu49 := Try.underlying49
  obtain ⟨i0, hi, hz0, hz1, hz2⟩ := info_parts info49
  have hdd : ∀ k : Nat, (Fence.wide.depth.isSome = true → 1 ≤ k) := fun k h => by cases h
  refine callsIn_of_wp_marks Try.func30 rfl trivial ?_ rfl
  simp only [Try.ntmps30, List.size_toArray, List.length_cons, List.length_nil, Nat.reduceAdd, Nat.reduceSub, Array.replicate_succ, Array.replicate_zero, List.push_toArray, List.append_toArray, List.nil_append, List.cons_append]
  gi_wp2
  refine ⟨trivial, ?_⟩
  refine (items_in Fence.wide 2 trivial rfl A0_0 c0_0 l0_0.length a0_1 a1 a2 _).mono ?_
  rintro e w' ⟨rfl, rfl⟩
  have bh : ∀ (X : World) (o : Obj) (k : Nat) (hk : k = X.heap.size), (X.alloc o).heap[k]? = some o := fun X o k hk => by rw [hk]; exact World.alloc_heap_new X o
  obtain ⟨W6, hW6⟩ : ∃ W6, ((((((w.alloc (.cells #[.slice A0_0 l0_0.length c0_0, .int .i64 a0_1] 24)).alloc (.cells #[.int .i64 a3] 3)).alloc (.cells #[.slice none 0 0] 43)).alloc (.cells #[.slice A0_0 l0_0.length c0_0, .int .i64 a0_1] 24)).alloc (.cells #[.int .i64 a1] 3)).alloc (.cells #[.int .i64 a2] 3)) = W6 := ⟨_, rfl⟩
  have h1 : W6.heap[w.heap.size + 1]? = some (.cells #[.int .i64 a3] 3 (0, 0)) := by rw [← hW6]; exact blk_alloc (blk_alloc (blk_alloc (blk_alloc (bh _ _ _ (by simp)) _) _) _) _
  have h2 : W6.heap[w.heap.size + 2]? = some (.cells #[.slice none 0 0] 43 (0, 0)) := by rw [← hW6]; exact blk_alloc (blk_alloc (blk_alloc (bh _ _ _ (by simp)) _) _) _
  have h3 : W6.heap[w.heap.size + 3]? = some (.cells #[.slice A0_0 l0_0.length c0_0, .int .i64 a0_1] 24 (0, 0)) := by rw [← hW6]; exact blk_alloc (blk_alloc (bh _ _ _ (by simp)) _) _
  have h4 : W6.heap[w.heap.size + 4]? = some (.cells #[.int .i64 a1] 3 (0, 0)) := by rw [← hW6]; exact blk_alloc (bh _ _ _ (by simp)) _
  have h5 : W6.heap[w.heap.size + 5]? = some (.cells #[.int .i64 a2] 3 (0, 0)) := by rw [← hW6]; exact bh _ _ _ (by simp)
  have hB : Below w.heap.size w W6 := by
    rw [← hW6]
    refine Below.alloc (Below.alloc (Below.alloc (Below.alloc (Below.alloc ((Below.refl _ w).alloc (Nat.le_refl _) _) ?_ _) ?_ _) ?_ _) ?_ _) ?_ _
    all_goals (simp only [World.size_alloc]; omega)
  have hs6 : W6.heap.size = w.heap.size + 6 := by rw [← hW6]; simp
  simp only [World.size_alloc, Nat.add_assoc, Nat.reduceAdd] at hW6 ⊢
  rw [hW6]
  have hown0 : W6.ownsRow w.heap.size 49 2 (.slice none 0 0) ([] : List S49).length (cellsL []) := World.ownsRow_nil _ _ _ _
  gi_wp2
  refine wpIn_rangeFunc_ownH rfl (by omega) (gf := 85) (lb := #[.pointer (some ⟨w.heap.size + 3, 0, none⟩), .pointer (some ⟨w.heap.size + 5, 0, none⟩), .pointer (some ⟨w.heap.size + 4, 0, none⟩)]) rfl trivial (enters_of Try.func85 (by kernel_rfl) rfl)
    (items_stops w W6 A0_0 c0_0 l0_0 a0_1 a2 a1 2 (w.heap.size + 3) (w.heap.size + 5) (w.heap.size + 4) HR.out out HO.out h3 h5 h4 hB) (fun h k => KpT.t h k) (fun W l o o' hl h hc _ => kp_putObj W l o o' (by omega) h hc) (Below.refl _ _) (fun _ => rfl)
    (fun pre W => ((∃ v, Boxed W (w.heap.size + 2) 43 v ∧ W.ownsRow w.heap.size 49 2 v pre.length (cellsL pre) ∧ (∀ x ∈ pre, x.f0 < a3)) ∧ Boxed W (w.heap.size + 1) 3 (.int .i64 a3)) ∧ Below w.heap.size w W)
    (fun c pre W => c = .exit 0 ∧ ∃ pre' x, pre = pre' ++ [x] ∧ a3 ≤ S49.f0 x ∧ ((∃ v, Boxed W (w.heap.size + 2) 43 v ∧ W.ownsRow w.heap.size 49 2 v pre'.length (cellsL pre') ∧ (∀ x ∈ pre', x.f0 < a3)) ∧ Boxed W (w.heap.size + 1) 3 (.int .i64 a3)) ∧ Below w.heap.size w W)
    ?hI ?hIx ⟨⟨⟨_, h2, hown0, fun x hx => by cases hx⟩, h1⟩, hB⟩
    (fun x a' W => ∃ B, W.heap[B]? = some (.cells #[.int .i64 x.f0, .int .i64 x.f1] 49 (0, 0)) ∧ a' = { tmps := #[.agg #[.slice A0_0 l0_0.length c0_0, .int .i64 a0_1], .int .i64 a1, .int .i64 a2, .int .i64 a3, .pointer (some ⟨w.heap.size, 0, none⟩), undef, undef, .pointer (some ⟨w.heap.size + 1, 0, none⟩), .slice none 0 0, .pointer (some ⟨w.heap.size + 2, 0, none⟩), .pointer (some ⟨B, 0, none⟩), .agg #[.slice A0_0 l0_0.length c0_0, .int .i64 a0_1], .int .i64 a1, .int .i64 a2, .func (.func 85) #[] #[.pointer (some ⟨w.heap.size + 3, 0, none⟩), .pointer (some ⟨w.heap.size + 5, 0, none⟩), .pointer (some ⟨w.heap.size + 4, 0, none⟩)], .agg #[.int .i64 x.f0, .int .i64 x.f1], undef, undef, undef, undef, undef, undef, undef, undef, undef], defers := [] })
    ?hAx ?assign ?body ?done ?stop
  case hI => exact OwnFrom.and (OwnFrom.and (Own.from (holdsRow_own w.heap.size (w.heap.size + 2) 43 49 2 (fun pre : List S49 => pre.length) (fun pre => cellsL pre) (fun pre v => ∀ x ∈ pre, x.f0 < a3)) _) (Own.from (boxed_own _ _ _) _)) (ownFrom_below (Nat.le_refl _) (by omega))
  case hIx =>
    rintro c s X Y row ⟨hc, pre', x, he, hx, hi⟩ hg hr
    exact ⟨hc, pre', x, he, hx, OwnFrom.and (OwnFrom.and (Own.from (holdsRow_own w.heap.size (w.heap.size + 2) 43 49 2 (fun pre : List S49 => pre.length) (fun pre => cellsL pre) (fun pre v => ∀ x ∈ pre, x.f0 < a3)) _) (Own.from (boxed_own (w.heap.size + 1) 3 (fun _ : List S49 => Value.int .i64 a3)) _)) (ownFrom_below (n₀ := w.heap.size) (w₀ := w) (B := W6.heap.size) (Nat.le_refl _) (by omega)) pre' X Y row hi hg hr⟩
  case hAx =>
    rintro x a' s X Y row ⟨B, hB, ha⟩ hg hr
    refine ⟨B, (hg.block B (Array.getElem?_eq_some_iff.1 hB).1 (fun e => ?_)).trans hB, ha⟩
    obtain ⟨_, o, ho, hc⟩ := hr B e.symm
    rw [hB] at ho
    cases ho
    cases hc
  case assign =>
    rintro l pre x W K ⟨⟨⟨v, hv, hrow, hlt⟩, hhi⟩, hbW⟩ hK
    have hbx : Below W.heap.size W (W.alloc (.cells #[.int .i64 x.f0, .int .i64 x.f1] 49)) := (Below.refl W.heap.size W).alloc (Nat.le_refl _) _
    have hKK := hK _ _ ((KeepsOthers.alloc W (.cells #[.int .i64 x.f0, .int .i64 x.f1] 49)).from _) (KpT.below hbx hbW.size) ⟨⟨⟨v, hv.alloc _, hrow.alloc _, hlt⟩, hhi.alloc _⟩, hbW.trans (hbx.mono hbW.size)⟩ ⟨W.heap.size, World.alloc_heap_new W _, rfl⟩
    have HKK := Aside0.mk hKK
    clear hKK hK hv hrow hhi
    gi_wp2
    exact HKK.out
  case body =>
    rintro l pre x a' W hl hrec ⟨⟨⟨v, hv, hrow, hlt⟩, hhi⟩, hbW⟩ ⟨Bk, hBk, rfl⟩ hlen
    have hc := hv.cell
    have hc2 := hhi.cell
    have x0 : W.cell? ⟨Bk, 0, none⟩ = some (.int .i64 x.f0) := (blk_cell hBk 0).trans rfl
    have x1 : W.cell? ⟨Bk, 1, none⟩ = some (.int .i64 x.f1) := (blk_cell hBk 1).trans rfl
    have HV := Aside0.mk hv
    have HROW := Aside0.mk hrow
    have HHI := Aside0.mk hhi
    have HLT := Aside0.mk hlt
    have HLEN := Aside0.mk hlen
    clear hv hrow hhi hlt hlen hBk hrec
    by_cases hx : a3 ≤ x.f0
    · gi_wp2
      exact ⟨KeepsFrom.refl _ _, rfl, pre, x, rfl, hx, ⟨⟨v, HV.out, HROW.out, HLT.out⟩, HHI.out⟩, hbW⟩
    · gi_wp2_with (gi_at_builtin; refine wpListIn_append_own _ rfl _ _ 43 rfl w.heap.size 49 i0 (.agg #[.int .i64 0, .int .i64 0]) 2 16 Try.underlying43 hi hz0 hz1 hz2 rfl (by decide) _ _ _ rfl (HROW.out.alloc _) ⟨W.heap.size, 0, none⟩ 1 1 [.int .i64 x.f0, .int .i64 x.f1] rfl rfl (cell_two_new _ _ _ _) (by simp [Value.oneCell']) (by have := HLEN.out; have := HL.out; simp only [maxLen]; omega) (by have := HLEN.out; have := HL.out; omega) (by have := hbW.size; simp; omega) ?_; intro v' w1 hown' hgrow _; obtain ⟨g', cap', rfl⟩ := ownsRow_succ hown'; obtain ⟨hv1, hv2, hr2, hk2, hb2⟩ := HV.out.appended (by decide) HROW.out hbW.size (by omega) hown' hgrow; have hkp := Aside0.mk (kp_appended HV.out HROW.out hbW.size (by omega) hown' hgrow); have hc1 := hv1.cell; have hf1 := hv1.frozen; have HV2 := Aside0.mk hv2; have HR2 := Aside0.mk hr2; have HK2 := Aside0.mk hk2; clear hv1 hv2 hr2 hk2 hown' hgrow)
      exact ⟨HK2.out.from _, hkp.out, ⟨⟨⟨_, HV2.out, by rw [List.length_append, cellsL_snoc]; exact HR2.out, fun y hy => by
        rcases List.mem_append.1 hy with h | h
        · exact HLT.out y h
        · rw [List.mem_singleton.1 h]; omega⟩, hkp.out.2 _ _ HHI.out rfl⟩, hbW.trans hb2⟩⟩
  case done =>
    rintro D ys W hD rfl ⟨⟨⟨v, hv, hrow, hlt⟩, hhi⟩, hbW⟩ hK
    have hc := hv.cell
    have HROW := Aside0.mk hrow
    have HK := Aside0.mk hK
    have er : ys = r := by have := HT.out; rwa [take_all hlt] at this
    have ER := Aside0.mk er
    clear hv hrow hhi hlt hK er
    gi_wp2
    refine ⟨by simp, .inl ⟨_, _, rfl, run_takeDeferred HK.out, ?_⟩⟩
    refine ⟨_, results_tmp rfl _ _ _, v, rfl, ?_, hbW.trans (belowK_b (w := w) (Nat.le_refl _) W D _ _ (by omega) HK.out rfl rfl)⟩
    rw [← ER.out]
    exact ⟨fun k _ => trivial, cellsL ys, ownsRow_putObj HROW.out _ HK.out rfl, cellsL_reps _ (fun x => k49_mkM _ _ _ x) ys⟩
  case stop =>
    rintro D c pre W hD hp ⟨rfl, ys, x, rfl, hx, ⟨⟨v, hv, hrow, hlt⟩, hhi⟩, hbW⟩ hK
    have hc := hv.cell
    have HROW := Aside0.mk hrow
    have HK := Aside0.mk hK
    have er : ys = r := by have := HT.out; rwa [take_pre hlt hx hp] at this
    have ER := Aside0.mk er
    clear hv hrow hhi hlt hK er hp
    gi_wp2
    refine ⟨by simp, .inl ⟨_, _, rfl, run_takeDeferred HK.out, ?_⟩⟩
    refine ⟨_, results_tmp rfl _ _ _, v, rfl, ?_, hbW.trans (belowK_b (w := w) (Nat.le_refl _) W D _ _ (by omega) HK.out rfl rfl)⟩
    rw [← ER.out]
    exact ⟨fun k _ => trivial, cellsL ys, ownsRow_putObj HROW.out _ HK.out rfl, cellsL_reps _ (fun x => k49_mkM _ _ _ x) ys⟩
end Go.Proofs.Yteiladccdenpbaa.P
end
section
namespace Go.Proofs.Yteiladccdenpbaa.P
open Go.RowKit Go.Proofs.YteiladccdenpbaaW.PrintWords Go.Proofs.YteiladccdenpbaaW.PrintLast Go.Proofs.YteiladccdenpbaaW.PrintMore
attribute [local go_sem] max2_int min2_int max_two min_two max_three min_three max_four min_four
set_option linter.unusedVariables false
set_option linter.unusedSimpArgs false
mutual
def tree_whole.j0 : Nat → Int → List (S49) → Bool → List (S55) → Int → Bool → List (S49) → Option (Int × Int × Bool)
 | 0, _, _, _, _, _, _, _ => none
 | k + 1, x2, x9, x36, x102000, x102001, x105000, x105001 => if x36 = true then (if 0 < (x9.length : Int) then (if 0 ≤ (wrap64 ((x9.length : Int) - 1)) then (if (wrap64 ((x9.length : Int) - 1)) < (x9.length : Int) then (if x105000 = true then (some ((rd_T49 x9 0).f0, (rd_T49 x9 (wrap64 ((x9.length : Int) - 1))).f0, (x2 == 1))) else (some ((rd_T49 x9 0).f0, (rd_T49 x9 (wrap64 ((x9.length : Int) - 1))).f0, false))) else (none)) else (none)) else (none)) else (if 0 < (x9.length : Int) then (tree_whole.l0 k x2 x9 (x9.length : Int) 0 x102000 x102001 ((rd_T49 x9 0).f0) 0) else (none))
def tree_whole.l0 : Nat → Int → List (S49) → Int → Int → List (S55) → Int → Int → Int → Option (Int × Int × Bool)
 | 0, _, _, _, _, _, _, _, _ => none
 | k + 1, x2, x60, x61, x62, x102000, x102001, x110000, x110001 => if x62 < x61 then (if 0 ≤ x62 then (if x62 < (x60.length : Int) then ((tree_whole.f k x102000 x102001 ((rd_T49 x60 x62).f1) (wrap64 (x2 - 1))).bind fun bt112 => (if bt112.2.2 = true then (if bt112.1 = ((rd_T49 x60 x62).f0) then (if x62 > 0 then (if x110001 ≥ ((rd_T49 x60 x62).f0) then (some (x110000, x110001, false)) else (tree_whole.l0 k x2 x60 x61 (wrap64 (x62 + 1)) x102000 x102001 x110000 bt112.2.1)) else (tree_whole.l0 k x2 x60 x61 (wrap64 (x62 + 1)) x102000 x102001 x110000 bt112.2.1)) else (some (x110000, x110001, false))) else (some (x110000, x110001, false)))) else (none)) else (none)) else (some (x110000, x110001, true))
def tree_whole.f : Nat → List (S55) → Int → Int → Int → Option (Int × Int × Bool)
 | 0, _, _, _, _ => none
 | k + 1, l0_0, a0_1, a1, a2 => if 0 ≤ a1 then (if a1 < (l0_0.length : Int) then (if ((rd_T55 l0_0 a1).f0) = 0 then (some (0, 0, false)) else (if (rd_T55 l0_0 a1).f2.f0 = true then (tree_whole.j0 k a2 ((rd_T55 l0_0 a1).f2.f1) true l0_0 a0_1 ((rd_T55 l0_0 a1).f2.f0) ((rd_T55 l0_0 a1).f2.f1)) else (tree_whole.j0 k a2 ((rd_T55 l0_0 a1).f2.f1) (a2 == 1) l0_0 a0_1 ((rd_T55 l0_0 a1).f2.f0) ((rd_T55 l0_0 a1).f2.f1)))) else (none)) else (none)
end
def tree_whole.T6 : Bool × List (List Nat × List Nat) := (true, [([], []), ([0], [0]), ([1], [1]), ([2], [2]), ([], []), ([], []), ([5], [5]), ([6], [6]), ([4, 7], [4, 7]), ([8], [8]), ([9], [9]), ([3, 10], [3, 10]), ([], []), ([12], [12]), ([13], [13]), ([14], [14]), ([15, 14], [14, 15]), ([14, 16], [14, 16]), ([11, 14, 0, 1, 2, 3, 4, 5, 6, 7, 8, 9, 10, 11], [11]), ([17, 18, 0, 1, 2, 3, 4, 5, 6, 7, 8, 9, 10, 11, 12, 13, 14, 15, 16, 17, 18], [17])])
def tree_whole.B6 : List Nat := [0, 1, 3, 7, 0, 0, 32, 96, 240, 496, 1008, 2047, 0, 4096, 12288, 28672, 61440, 126976, 32767, 524287]
theorem tree_whole.tab6 : rtab .any (opsOf Try.f58 6) = tree_whole.T6 := by kernel_rfl
theorem tree_whole.bits6 : waitsOk tree_whole.T6.2 tree_whole.B6 = true := by kernel_rfl
set_option maxHeartbeats 8000000 in
set_option maxRecDepth 100000 in
theorem tree_whole.calls (k : Nat) : ∀ (A0_0 : Option Addr) (c0_0 : Nat) (l0_0 : List (S55)) (a0_1 : Int) (a1 : Int) (a2 : Int) (r1 : Int) (r2 : Int) (r3 : Bool) (w : World) (hr0_0 : Kd.C k55 w A0_0 l0_0.length l0_0) (hc0_0 : l0_0.length ≤ c0_0) (h : tree_whole.f k l0_0 a0_1 a1 a2 = some (r1, r2, r3)),
  Calls Try.prog 58 #[.agg #[.slice A0_0 l0_0.length c0_0, .int .i64 a0_1], .int .i64 a1, .int .i64 a2] w fun e w' => e = .returned (.tuple #[.agg #[.int .i64 r1, .int .i64 r2], .bool r3]) ∧ Below w.heap.size w w' := by
 induction k using Nat.strongRecOn with
 | _ k ih =>
 intro A0_0 c0_0 l0_0 a0_1 a1 a2 r1 r2 r3 w hr0_0 hc0_0 h
 cases k with
 | zero => exact absurd h (by simp [tree_whole.f])
 | succ k =>
 simp only [tree_whole.f] at h
 have hu24 := Try.underlying24
 have hu92 := Try.underlying92
 have hu53 := Try.underlying53
 have hu49 := Try.underlying49
 have HR0_0 := Aside0.mk hr0_0
 have HC0_0 := Aside0.mk hc0_0
 clear hr0_0 hc0_0
 have HB := Aside0.mk (Below.refl w.heap.size w)
 have H : (if 0 ≤ a1 then (if a1 < (l0_0.length : Int) then (if ((rd_T55 l0_0 a1).f0) = 0 then (some (0, 0, false)) else (if (rd_T55 l0_0 a1).f2.f0 = true then (tree_whole.j0 k a2 ((rd_T55 l0_0 a1).f2.f1) true l0_0 a0_1 ((rd_T55 l0_0 a1).f2.f0) ((rd_T55 l0_0 a1).f2.f1)) else (tree_whole.j0 k a2 ((rd_T55 l0_0 a1).f2.f1) (a2 == 1) l0_0 a0_1 ((rd_T55 l0_0 a1).f2.f0) ((rd_T55 l0_0 a1).f2.f1)))) else (none)) else (none)) = some (r1, r2, r3) := h
 clear h
 by_cases c4 : 0 ≤ a1
 ·rw [if_pos c4] at H
  have c4b0 : decide (0 ≤ a1) = true := decide_eq_true c4
  clear c4
  by_cases c5 : a1 < (l0_0.length : Int)
  ·rw [if_pos c5] at H
   have c5b0 : decide (a1 < (l0_0.length : Int)) = true := decide_eq_true c5
   clear c5
   by_cases c6 : ((rd_T55 l0_0 a1).f0) = 0
   ·rw [if_pos c6] at H
    have c6b0 : (((rd_T55 l0_0 a1).f0) == 0) = true := beq_iff_eq.mpr c6
    have c6b1 : (((rd_T55 l0_0 a1).f0) != 0) = false := bne_eq_false_iff_eq.mpr c6
    clear c6
    simp only [Option.some.injEq, Prod.mk.injEq] at H
    obtain ⟨rfl, rfl, rfl⟩ := H
    go_enter Try.func58, Try.ntmps58
    go_wp2_with (first | ((with_reducible refine gate_dst (N := 3) rfl ?_); refine box_event ?hg (N := 3) ?hd (cs := #[.slice A0_0 l0_0.length c0_0, .int .i64 a0_1]) (t := 24) ?hr ?_; (case hd => rfl); (case hg => rfl); (case hr => first | (go_simp; done) | (go_simp; rfl)); intro gb101 hg w7 hbox hb; have n0_ := Aside0.mk (below_step (by repeat (first | (with_reducible first | exact HB.out | apply below_alloc | apply pw_below_drewN | apply below_drew1) | exact HB.out)) hb); have n1_ := Aside0.mk (hbox); have n2_ := Aside0.mk ((by rw [hg]; exact (below_size (by repeat (first | (with_reducible first | exact HB.out | apply below_alloc | apply pw_below_drewN | apply below_drew1) | exact HB.out))) : w.heap.size ≤ gb101)); have n3_ := Aside0.mk ((by rw [hg]; exact (below_size (by repeat (first | (with_reducible first | exact HB.out | apply below_alloc | apply pw_below_drewN | apply below_drew1) | exact HB.out))) : w.heap.size ≤ gb101)); clear HB; have HB := n0_; have BK101 := n1_; have GW101 := n2_; have GE101 := n3_; clear n0_ n1_ n2_ n3_; clear hb hbox hg) | ((with_reducible refine gate_dst (N := 6) rfl ?_); refine box_event ?hg (N := 6) ?hd (cs := #[.int .i64 0, .int .i64 0]) (t := 92) ?hr ?_; (case hd => rfl); (case hg => rfl); (case hr => first | (go_simp; done) | (go_simp; rfl)); intro gb102 hg w8 hbox hb; have n0_ := Aside0.mk (blk_below (g := gb101) (o := .cells #[.slice A0_0 l0_0.length c0_0, .int .i64 a0_1] 24 (0, 0)) (by (with_reducible repeat (first | refine blk_drewN ?_ _ | refine blk_drew ?_ | refine blk_alloc ?_ _)); exact BK101.out) hb); have n1_ := Aside0.mk (below_step (by repeat (first | (with_reducible first | exact HB.out | apply below_alloc | apply pw_below_drewN | apply below_drew1 | refine below_set ?_ GE101.out) | exact HB.out)) hb); have n2_ := Aside0.mk (hbox); have n3_ := Aside0.mk ((by rw [hg]; exact (below_size (by repeat (first | (with_reducible first | exact HB.out | apply below_alloc | apply pw_below_drewN | apply below_drew1 | refine below_set ?_ GE101.out) | exact HB.out))) : w.heap.size ≤ gb102)); have n4_ := Aside0.mk ((by rw [hg]; exact (below_size (by repeat (first | (with_reducible first | exact HB.out | apply below_alloc | apply pw_below_drewN | apply below_drew1 | refine below_set ?_ GE101.out) | exact HB.out))) : w.heap.size ≤ gb102)); have n5_ := Aside0.mk ((by rw [hg]; exact Nat.ne_of_lt (blk_lt (g := gb101) (o := .cells #[.slice A0_0 l0_0.length c0_0, .int .i64 a0_1] 24 (0, 0)) (by (with_reducible repeat (first | refine blk_drewN ?_ _ | refine blk_drew ?_ | refine blk_alloc ?_ _)); exact BK101.out)) : gb101 ≠ gb102)); have n6_ := Aside0.mk ((by rw [hg]; exact Nat.ne_of_gt (blk_lt (g := gb101) (o := .cells #[.slice A0_0 l0_0.length c0_0, .int .i64 a0_1] 24 (0, 0)) (by (with_reducible repeat (first | refine blk_drewN ?_ _ | refine blk_drew ?_ | refine blk_alloc ?_ _)); exact BK101.out)) : gb102 ≠ gb101)); clear BK101; clear HB; have BK101 := n0_; have HB := n1_; have BK102 := n2_; have GW102 := n3_; have GE102 := n4_; have NB101_102 := n5_; have NB102_101 := n6_; clear n0_ n1_ n2_ n3_ n4_ n5_ n6_; clear hb hbox hg; have hnb9 := NB101_102.out; have hnc9 := NB102_101.out; have hcz10_0 : w8.cell? ⟨gb101, 0, none⟩ = some (.slice A0_0 l0_0.length c0_0) := (blk_cell BK101.out 0).trans rfl; have hcz10_1 : w8.cell? ⟨gb101, 1, none⟩ = some (.int .i64 a0_1) := (blk_cell BK101.out 1).trans rfl; have hfz10_0 := blk_frozen BK101.out 0; have hfz10_1 := blk_frozen BK101.out 1; have p103 : 0 ≤ (a1 : Int) := of_decide_eq_true (by first | (with_reducible assumption) | assumption); have q103 : a1 < (l0_0.length : Int) := of_decide_eq_true (by first | (with_reducible assumption) | assumption); obtain ⟨ad103, A103_3, c103_3, e103, hx103_0, hx103_1, hx103_2, hx103_3, hl103_3, hi103_3⟩ := at_T55 HR0_0.out a1 p103 q103; cases e103; replace hx103_0 := (HB.out.cell (World.block_lt_of_cell? w _ hx103_0)).trans hx103_0; replace hx103_1 := (HB.out.cell (World.block_lt_of_cell? w _ hx103_1)).trans hx103_1; replace hx103_2 := (HB.out.cell (World.block_lt_of_cell? w _ hx103_2)).trans hx103_2; replace hx103_3 := (HB.out.cell (World.block_lt_of_cell? w _ hx103_3)).trans hx103_3; have HR103_3 := Aside0.mk hi103_3; have HC103_3 := Aside0.mk hl103_3; clear hi103_3 hl103_3; replace p103 := eq_true p103; replace q103 := eq_true q103) | ((with_reducible refine gate_dst (N := 8) rfl ?_); refine box_event ?hg (N := 8) ?hd (cs := #[.bool false, .slice none 0 0]) (t := 53) ?hr ?_; (case hd => rfl); (case hg => rfl); (case hr => first | (go_simp; done) | (go_simp; rfl)); intro gb104 hg w11 hbox hb; have n0_ := Aside0.mk (blk_below (g := gb101) (o := .cells #[.slice (some ad103) l0_0.length c0_0, .int .i64 a0_1] 24 (0, 0)) (by (with_reducible repeat (first | refine blk_drewN ?_ _ | refine blk_drew ?_ | refine blk_alloc ?_ _)); exact BK101.out) hb); have n1_ := Aside0.mk (blk_below (g := gb102) (o := .cells #[.int .i64 0, .int .i64 0] 92 (0, 0)) (by (with_reducible repeat (first | refine blk_drewN ?_ _ | refine blk_drew ?_ | refine blk_alloc ?_ _)); exact BK102.out) hb); have n2_ := Aside0.mk (below_step (by repeat (first | (with_reducible first | exact HB.out | apply below_alloc | apply pw_below_drewN | apply below_drew1 | refine below_set ?_ GE101.out | refine below_set ?_ GE102.out) | exact HB.out)) hb); have n3_ := Aside0.mk (hbox); have n4_ := Aside0.mk ((by rw [hg]; exact (below_size (by repeat (first | (with_reducible first | exact HB.out | apply below_alloc | apply pw_below_drewN | apply below_drew1 | refine below_set ?_ GE101.out | refine below_set ?_ GE102.out) | exact HB.out))) : w.heap.size ≤ gb104)); have n5_ := Aside0.mk ((by rw [hg]; exact (below_size (by repeat (first | (with_reducible first | exact HB.out | apply below_alloc | apply pw_below_drewN | apply below_drew1 | refine below_set ?_ GE101.out | refine below_set ?_ GE102.out) | exact HB.out))) : w.heap.size ≤ gb104)); have n6_ := Aside0.mk ((by rw [hg]; exact Nat.ne_of_lt (blk_lt (g := gb101) (o := .cells #[.slice (some ad103) l0_0.length c0_0, .int .i64 a0_1] 24 (0, 0)) (by (with_reducible repeat (first | refine blk_drewN ?_ _ | refine blk_drew ?_ | refine blk_alloc ?_ _)); exact BK101.out)) : gb101 ≠ gb104)); have n7_ := Aside0.mk ((by rw [hg]; exact Nat.ne_of_gt (blk_lt (g := gb101) (o := .cells #[.slice (some ad103) l0_0.length c0_0, .int .i64 a0_1] 24 (0, 0)) (by (with_reducible repeat (first | refine blk_drewN ?_ _ | refine blk_drew ?_ | refine blk_alloc ?_ _)); exact BK101.out)) : gb104 ≠ gb101)); have n8_ := Aside0.mk ((by rw [hg]; exact Nat.ne_of_lt (blk_lt (g := gb102) (o := .cells #[.int .i64 0, .int .i64 0] 92 (0, 0)) (by (with_reducible repeat (first | refine blk_drewN ?_ _ | refine blk_drew ?_ | refine blk_alloc ?_ _)); exact BK102.out)) : gb102 ≠ gb104)); have n9_ := Aside0.mk ((by rw [hg]; exact Nat.ne_of_gt (blk_lt (g := gb102) (o := .cells #[.int .i64 0, .int .i64 0] 92 (0, 0)) (by (with_reducible repeat (first | refine blk_drewN ?_ _ | refine blk_drew ?_ | refine blk_alloc ?_ _)); exact BK102.out)) : gb104 ≠ gb102)); clear BK101; clear BK102; clear HB; have BK101 := n0_; have BK102 := n1_; have HB := n2_; have BK104 := n3_; have GW104 := n4_; have GE104 := n5_; have NB101_104 := n6_; have NB104_101 := n7_; have NB102_104 := n8_; have NB104_102 := n9_; clear n0_ n1_ n2_ n3_ n4_ n5_ n6_ n7_ n8_ n9_; clear hb hbox hg; have hnb12 := NB104_101.out; have hnc12 := NB101_104.out; have hnb13 := NB104_102.out; have hnc13 := NB102_104.out; have hcz14_0 : w11.cell? ⟨gb104, 0, none⟩ = some (.bool false) := (blk_cell BK104.out 0).trans rfl; have hcz14_1 : w11.cell? ⟨gb104, 1, none⟩ = some (.slice none 0 0) := (blk_cell BK104.out 1).trans rfl; have hfz14_0 := blk_frozen BK104.out 0; have hfz14_1 := blk_frozen BK104.out 1; have hcz15_0 : w11.cell? ⟨gb101, 0, none⟩ = some (.slice (some ad103) l0_0.length c0_0) := (blk_cell BK101.out 0).trans rfl; have hcz15_1 : w11.cell? ⟨gb101, 1, none⟩ = some (.int .i64 a0_1) := (blk_cell BK101.out 1).trans rfl; have hfz15_0 := blk_frozen BK101.out 0; have hfz15_1 := blk_frozen BK101.out 1; have p105 : 0 ≤ (a1 : Int) := of_decide_eq_true (by first | (with_reducible assumption) | assumption); have q105 : a1 < (l0_0.length : Int) := of_decide_eq_true (by first | (with_reducible assumption) | assumption); obtain ⟨ad105, A105_3, c105_3, e105, hx105_0, hx105_1, hx105_2, hx105_3, hl105_3, hi105_3⟩ := at_T55 HR0_0.out a1 p105 q105; obtain rfl : ad103 = ad105 := (by injection e105); have hn105_0 : ad103.block ≠ gb104 := Nat.ne_of_lt (Nat.lt_of_lt_of_le (by have := World.block_lt_of_cell? _ _ hx105_0; first | rwa [add_block] at this | exact this) GW104.out); have hn105_1 : ad103.block ≠ gb104 := Nat.ne_of_lt (Nat.lt_of_lt_of_le (by have := World.block_lt_of_cell? _ _ hx105_0; first | rwa [add_block] at this | exact this) GW104.out); replace hx105_0 := (HB.out.cell (World.block_lt_of_cell? w _ hx105_0)).trans hx105_0; replace hx105_1 := (HB.out.cell (World.block_lt_of_cell? w _ hx105_1)).trans hx105_1; replace hx105_2 := (HB.out.cell (World.block_lt_of_cell? w _ hx105_2)).trans hx105_2; replace hx105_3 := (HB.out.cell (World.block_lt_of_cell? w _ hx105_3)).trans hx105_3; have HR105_3 := Aside0.mk hi105_3; have HC105_3 := Aside0.mk hl105_3; clear hi105_3 hl105_3; replace hx105_0 := (cell_far (p := ⟨gb104, 0, none⟩) (by first | (rw [add_block]; exact hn105_0) | (show (Addr.add _ _).block ≠ _; rw [add_block]; exact hn105_0) | exact hn105_0) (.bool ((rd_T55 l0_0 a1).f2.f0))).trans hx105_0; replace hx105_1 := (cell_far (p := ⟨gb104, 0, none⟩) (by first | (rw [add_block]; exact hn105_0) | (show (Addr.add _ _).block ≠ _; rw [add_block]; exact hn105_0) | exact hn105_0) (.bool ((rd_T55 l0_0 a1).f2.f0))).trans hx105_1; replace hx105_2 := (cell_far (p := ⟨gb104, 0, none⟩) (by first | (rw [add_block]; exact hn105_0) | (show (Addr.add _ _).block ≠ _; rw [add_block]; exact hn105_0) | exact hn105_0) (.bool ((rd_T55 l0_0 a1).f2.f0))).trans hx105_2; replace hx105_3 := (cell_far (p := ⟨gb104, 0, none⟩) (by first | (rw [add_block]; exact hn105_0) | (show (Addr.add _ _).block ≠ _; rw [add_block]; exact hn105_0) | exact hn105_0) (.bool ((rd_T55 l0_0 a1).f2.f0))).trans hx105_3; replace hx105_0 := (cell_far (p := ⟨gb104, 1, none⟩) (by first | (rw [add_block]; exact hn105_1) | (show (Addr.add _ _).block ≠ _; rw [add_block]; exact hn105_1) | exact hn105_1) (.slice A103_3 ((rd_T55 l0_0 a1).f2.f1).length c103_3)).trans hx105_0; replace hx105_1 := (cell_far (p := ⟨gb104, 1, none⟩) (by first | (rw [add_block]; exact hn105_1) | (show (Addr.add _ _).block ≠ _; rw [add_block]; exact hn105_1) | exact hn105_1) (.slice A103_3 ((rd_T55 l0_0 a1).f2.f1).length c103_3)).trans hx105_1; replace hx105_2 := (cell_far (p := ⟨gb104, 1, none⟩) (by first | (rw [add_block]; exact hn105_1) | (show (Addr.add _ _).block ≠ _; rw [add_block]; exact hn105_1) | exact hn105_1) (.slice A103_3 ((rd_T55 l0_0 a1).f2.f1).length c103_3)).trans hx105_2; replace hx105_3 := (cell_far (p := ⟨gb104, 1, none⟩) (by first | (rw [add_block]; exact hn105_1) | (show (Addr.add _ _).block ≠ _; rw [add_block]; exact hn105_1) | exact hn105_1) (.slice A103_3 ((rd_T55 l0_0 a1).f2.f1).length c103_3)).trans hx105_3; clear hn105_0; clear hn105_1; replace p105 := eq_true p105; replace q105 := eq_true q105; have hcz16_0 : w11.cell? ⟨gb102, 0, none⟩ = some (.int .i64 0) := (blk_cell BK102.out 0).trans rfl; have hcz16_1 : w11.cell? ⟨gb102, 1, none⟩ = some (.int .i64 0) := (blk_cell BK102.out 1).trans rfl; have hfz16_0 := blk_frozen BK102.out 0; have hfz16_1 := blk_frozen BK102.out 1))
    refine bodyPost_ret (results_ct rfl _ _ gb102 92 #[.int .i64 0, .int .i64 0] (0, 0) _ rfl (by (with_reducible repeat (first | refine blk_drewN ?_ _ | refine blk_drew ?_ | refine blk_alloc ?_ _)); refine blk_put (cs := #[.int .i64 0, .int .i64 0]) ?_ 1 _ rfl; (with_reducible repeat (first | refine blk_drewN ?_ _ | refine blk_drew ?_ | refine blk_alloc ?_ _)); refine blk_put (cs := #[.int .i64 0, .int .i64 0]) ?_ 0 _ rfl; (with_reducible repeat (first | refine blk_drewN ?_ _ | refine blk_drew ?_ | refine blk_alloc ?_ _)); refine blk_far ?_ NB102_104.out _; (with_reducible repeat (first | refine blk_drewN ?_ _ | refine blk_drew ?_ | refine blk_alloc ?_ _)); refine blk_far ?_ NB102_104.out _; (with_reducible repeat (first | refine blk_drewN ?_ _ | refine blk_drew ?_ | refine blk_alloc ?_ _)); exact BK102.out) Try.underlying92 rfl (by kernel_rfl)) rfl ?_
    exact ⟨by first | rfl | (simp [errW_none, errW_some] <;> rfl) | (simp [*, errW_none, errW_some] <;> rfl), by repeat (first | (with_reducible first | exact HB.out | apply below_alloc | apply pw_below_drewN | apply below_drew1 | refine below_set ?_ GE101.out | refine below_set ?_ GE102.out | refine below_set ?_ GE104.out) | exact HB.out)⟩
   ·rw [if_neg c6] at H
    have c6b0 : (((rd_T55 l0_0 a1).f0) == 0) = false := beq_eq_false_iff_ne.mpr c6
    have c6b1 : (((rd_T55 l0_0 a1).f0) != 0) = true := bne_iff_ne.mpr c6
    have HC17 := Aside0.mk H
    clear H
    go_enter Try.func58, Try.ntmps58
    go_upto_region 5 with (first | ((with_reducible refine gate_dst (N := 3) rfl ?_); refine box_event ?hg (N := 3) ?hd (cs := #[.slice A0_0 l0_0.length c0_0, .int .i64 a0_1]) (t := 24) ?hr ?_; (case hd => rfl); (case hg => rfl); (case hr => first | (go_simp; done) | (go_simp; rfl)); intro gb101 hg w18 hbox hb; have n0_ := Aside0.mk (below_step (by repeat (first | (with_reducible first | exact HB.out | apply below_alloc | apply pw_below_drewN | apply below_drew1) | exact HB.out)) hb); have n1_ := Aside0.mk (hbox); have n2_ := Aside0.mk ((by rw [hg]; exact (below_size (by repeat (first | (with_reducible first | exact HB.out | apply below_alloc | apply pw_below_drewN | apply below_drew1) | exact HB.out))) : w.heap.size ≤ gb101)); have n3_ := Aside0.mk ((by rw [hg]; exact (below_size (by repeat (first | (with_reducible first | exact HB.out | apply below_alloc | apply pw_below_drewN | apply below_drew1) | exact HB.out))) : w.heap.size ≤ gb101)); clear HB; have HB := n0_; have BK101 := n1_; have GW101 := n2_; have GE101 := n3_; clear n0_ n1_ n2_ n3_; clear hb hbox hg) | ((with_reducible refine gate_dst (N := 6) rfl ?_); refine box_event ?hg (N := 6) ?hd (cs := #[.int .i64 0, .int .i64 0]) (t := 92) ?hr ?_; (case hd => rfl); (case hg => rfl); (case hr => first | (go_simp; done) | (go_simp; rfl)); intro gb102 hg w19 hbox hb; have n0_ := Aside0.mk (blk_below (g := gb101) (o := .cells #[.slice A0_0 l0_0.length c0_0, .int .i64 a0_1] 24 (0, 0)) (by (with_reducible repeat (first | refine blk_drewN ?_ _ | refine blk_drew ?_ | refine blk_alloc ?_ _)); exact BK101.out) hb); have n1_ := Aside0.mk (below_step (by repeat (first | (with_reducible first | exact HB.out | apply below_alloc | apply pw_below_drewN | apply below_drew1 | refine below_set ?_ GE101.out) | exact HB.out)) hb); have n2_ := Aside0.mk (hbox); have n3_ := Aside0.mk ((by rw [hg]; exact (below_size (by repeat (first | (with_reducible first | exact HB.out | apply below_alloc | apply pw_below_drewN | apply below_drew1 | refine below_set ?_ GE101.out) | exact HB.out))) : w.heap.size ≤ gb102)); have n4_ := Aside0.mk ((by rw [hg]; exact (below_size (by repeat (first | (with_reducible first | exact HB.out | apply below_alloc | apply pw_below_drewN | apply below_drew1 | refine below_set ?_ GE101.out) | exact HB.out))) : w.heap.size ≤ gb102)); have n5_ := Aside0.mk ((by rw [hg]; exact Nat.ne_of_lt (blk_lt (g := gb101) (o := .cells #[.slice A0_0 l0_0.length c0_0, .int .i64 a0_1] 24 (0, 0)) (by (with_reducible repeat (first | refine blk_drewN ?_ _ | refine blk_drew ?_ | refine blk_alloc ?_ _)); exact BK101.out)) : gb101 ≠ gb102)); have n6_ := Aside0.mk ((by rw [hg]; exact Nat.ne_of_gt (blk_lt (g := gb101) (o := .cells #[.slice A0_0 l0_0.length c0_0, .int .i64 a0_1] 24 (0, 0)) (by (with_reducible repeat (first | refine blk_drewN ?_ _ | refine blk_drew ?_ | refine blk_alloc ?_ _)); exact BK101.out)) : gb102 ≠ gb101)); clear BK101; clear HB; have BK101 := n0_; have HB := n1_; have BK102 := n2_; have GW102 := n3_; have GE102 := n4_; have NB101_102 := n5_; have NB102_101 := n6_; clear n0_ n1_ n2_ n3_ n4_ n5_ n6_; clear hb hbox hg; have hnb20 := NB101_102.out; have hnc20 := NB102_101.out; have hcz21_0 : w19.cell? ⟨gb101, 0, none⟩ = some (.slice A0_0 l0_0.length c0_0) := (blk_cell BK101.out 0).trans rfl; have hcz21_1 : w19.cell? ⟨gb101, 1, none⟩ = some (.int .i64 a0_1) := (blk_cell BK101.out 1).trans rfl; have hfz21_0 := blk_frozen BK101.out 0; have hfz21_1 := blk_frozen BK101.out 1; have p103 : 0 ≤ (a1 : Int) := of_decide_eq_true (by first | (with_reducible assumption) | assumption); have q103 : a1 < (l0_0.length : Int) := of_decide_eq_true (by first | (with_reducible assumption) | assumption); obtain ⟨ad103, A103_3, c103_3, e103, hx103_0, hx103_1, hx103_2, hx103_3, hl103_3, hi103_3⟩ := at_T55 HR0_0.out a1 p103 q103; cases e103; replace hx103_0 := (HB.out.cell (World.block_lt_of_cell? w _ hx103_0)).trans hx103_0; replace hx103_1 := (HB.out.cell (World.block_lt_of_cell? w _ hx103_1)).trans hx103_1; replace hx103_2 := (HB.out.cell (World.block_lt_of_cell? w _ hx103_2)).trans hx103_2; replace hx103_3 := (HB.out.cell (World.block_lt_of_cell? w _ hx103_3)).trans hx103_3; have HR103_3 := Aside0.mk hi103_3; have HC103_3 := Aside0.mk hl103_3; clear hi103_3 hl103_3; replace p103 := eq_true p103; replace q103 := eq_true q103) | ((with_reducible refine gate_dst (N := 8) rfl ?_); refine box_event ?hg (N := 8) ?hd (cs := #[.bool false, .slice none 0 0]) (t := 53) ?hr ?_; (case hd => rfl); (case hg => rfl); (case hr => first | (go_simp; done) | (go_simp; rfl)); intro gb104 hg w22 hbox hb; have n0_ := Aside0.mk (blk_below (g := gb101) (o := .cells #[.slice (some ad103) l0_0.length c0_0, .int .i64 a0_1] 24 (0, 0)) (by (with_reducible repeat (first | refine blk_drewN ?_ _ | refine blk_drew ?_ | refine blk_alloc ?_ _)); exact BK101.out) hb); have n1_ := Aside0.mk (blk_below (g := gb102) (o := .cells #[.int .i64 0, .int .i64 0] 92 (0, 0)) (by (with_reducible repeat (first | refine blk_drewN ?_ _ | refine blk_drew ?_ | refine blk_alloc ?_ _)); exact BK102.out) hb); have n2_ := Aside0.mk (below_step (by repeat (first | (with_reducible first | exact HB.out | apply below_alloc | apply pw_below_drewN | apply below_drew1 | refine below_set ?_ GE101.out | refine below_set ?_ GE102.out) | exact HB.out)) hb); have n3_ := Aside0.mk (hbox); have n4_ := Aside0.mk ((by rw [hg]; exact (below_size (by repeat (first | (with_reducible first | exact HB.out | apply below_alloc | apply pw_below_drewN | apply below_drew1 | refine below_set ?_ GE101.out | refine below_set ?_ GE102.out) | exact HB.out))) : w.heap.size ≤ gb104)); have n5_ := Aside0.mk ((by rw [hg]; exact (below_size (by repeat (first | (with_reducible first | exact HB.out | apply below_alloc | apply pw_below_drewN | apply below_drew1 | refine below_set ?_ GE101.out | refine below_set ?_ GE102.out) | exact HB.out))) : w.heap.size ≤ gb104)); have n6_ := Aside0.mk ((by rw [hg]; exact Nat.ne_of_lt (blk_lt (g := gb101) (o := .cells #[.slice (some ad103) l0_0.length c0_0, .int .i64 a0_1] 24 (0, 0)) (by (with_reducible repeat (first | refine blk_drewN ?_ _ | refine blk_drew ?_ | refine blk_alloc ?_ _)); exact BK101.out)) : gb101 ≠ gb104)); have n7_ := Aside0.mk ((by rw [hg]; exact Nat.ne_of_gt (blk_lt (g := gb101) (o := .cells #[.slice (some ad103) l0_0.length c0_0, .int .i64 a0_1] 24 (0, 0)) (by (with_reducible repeat (first | refine blk_drewN ?_ _ | refine blk_drew ?_ | refine blk_alloc ?_ _)); exact BK101.out)) : gb104 ≠ gb101)); have n8_ := Aside0.mk ((by rw [hg]; exact Nat.ne_of_lt (blk_lt (g := gb102) (o := .cells #[.int .i64 0, .int .i64 0] 92 (0, 0)) (by (with_reducible repeat (first | refine blk_drewN ?_ _ | refine blk_drew ?_ | refine blk_alloc ?_ _)); exact BK102.out)) : gb102 ≠ gb104)); have n9_ := Aside0.mk ((by rw [hg]; exact Nat.ne_of_gt (blk_lt (g := gb102) (o := .cells #[.int .i64 0, .int .i64 0] 92 (0, 0)) (by (with_reducible repeat (first | refine blk_drewN ?_ _ | refine blk_drew ?_ | refine blk_alloc ?_ _)); exact BK102.out)) : gb104 ≠ gb102)); clear BK101; clear BK102; clear HB; have BK101 := n0_; have BK102 := n1_; have HB := n2_; have BK104 := n3_; have GW104 := n4_; have GE104 := n5_; have NB101_104 := n6_; have NB104_101 := n7_; have NB102_104 := n8_; have NB104_102 := n9_; clear n0_ n1_ n2_ n3_ n4_ n5_ n6_ n7_ n8_ n9_; clear hb hbox hg; have hnb23 := NB104_101.out; have hnc23 := NB101_104.out; have hnb24 := NB104_102.out; have hnc24 := NB102_104.out; have hcz25_0 : w22.cell? ⟨gb104, 0, none⟩ = some (.bool false) := (blk_cell BK104.out 0).trans rfl; have hcz25_1 : w22.cell? ⟨gb104, 1, none⟩ = some (.slice none 0 0) := (blk_cell BK104.out 1).trans rfl; have hfz25_0 := blk_frozen BK104.out 0; have hfz25_1 := blk_frozen BK104.out 1; have hcz26_0 : w22.cell? ⟨gb101, 0, none⟩ = some (.slice (some ad103) l0_0.length c0_0) := (blk_cell BK101.out 0).trans rfl; have hcz26_1 : w22.cell? ⟨gb101, 1, none⟩ = some (.int .i64 a0_1) := (blk_cell BK101.out 1).trans rfl; have hfz26_0 := blk_frozen BK101.out 0; have hfz26_1 := blk_frozen BK101.out 1; have p105 : 0 ≤ (a1 : Int) := of_decide_eq_true (by first | (with_reducible assumption) | assumption); have q105 : a1 < (l0_0.length : Int) := of_decide_eq_true (by first | (with_reducible assumption) | assumption); obtain ⟨ad105, A105_3, c105_3, e105, hx105_0, hx105_1, hx105_2, hx105_3, hl105_3, hi105_3⟩ := at_T55 HR0_0.out a1 p105 q105; obtain rfl : ad103 = ad105 := (by injection e105); have hn105_0 : ad103.block ≠ gb104 := Nat.ne_of_lt (Nat.lt_of_lt_of_le (by have := World.block_lt_of_cell? _ _ hx105_0; first | rwa [add_block] at this | exact this) GW104.out); have hn105_1 : ad103.block ≠ gb104 := Nat.ne_of_lt (Nat.lt_of_lt_of_le (by have := World.block_lt_of_cell? _ _ hx105_0; first | rwa [add_block] at this | exact this) GW104.out); replace hx105_0 := (HB.out.cell (World.block_lt_of_cell? w _ hx105_0)).trans hx105_0; replace hx105_1 := (HB.out.cell (World.block_lt_of_cell? w _ hx105_1)).trans hx105_1; replace hx105_2 := (HB.out.cell (World.block_lt_of_cell? w _ hx105_2)).trans hx105_2; replace hx105_3 := (HB.out.cell (World.block_lt_of_cell? w _ hx105_3)).trans hx105_3; have HR105_3 := Aside0.mk hi105_3; have HC105_3 := Aside0.mk hl105_3; clear hi105_3 hl105_3; replace hx105_0 := (cell_far (p := ⟨gb104, 0, none⟩) (by first | (rw [add_block]; exact hn105_0) | (show (Addr.add _ _).block ≠ _; rw [add_block]; exact hn105_0) | exact hn105_0) (.bool ((rd_T55 l0_0 a1).f2.f0))).trans hx105_0; replace hx105_1 := (cell_far (p := ⟨gb104, 0, none⟩) (by first | (rw [add_block]; exact hn105_0) | (show (Addr.add _ _).block ≠ _; rw [add_block]; exact hn105_0) | exact hn105_0) (.bool ((rd_T55 l0_0 a1).f2.f0))).trans hx105_1; replace hx105_2 := (cell_far (p := ⟨gb104, 0, none⟩) (by first | (rw [add_block]; exact hn105_0) | (show (Addr.add _ _).block ≠ _; rw [add_block]; exact hn105_0) | exact hn105_0) (.bool ((rd_T55 l0_0 a1).f2.f0))).trans hx105_2; replace hx105_3 := (cell_far (p := ⟨gb104, 0, none⟩) (by first | (rw [add_block]; exact hn105_0) | (show (Addr.add _ _).block ≠ _; rw [add_block]; exact hn105_0) | exact hn105_0) (.bool ((rd_T55 l0_0 a1).f2.f0))).trans hx105_3; replace hx105_0 := (cell_far (p := ⟨gb104, 1, none⟩) (by first | (rw [add_block]; exact hn105_1) | (show (Addr.add _ _).block ≠ _; rw [add_block]; exact hn105_1) | exact hn105_1) (.slice A103_3 ((rd_T55 l0_0 a1).f2.f1).length c103_3)).trans hx105_0; replace hx105_1 := (cell_far (p := ⟨gb104, 1, none⟩) (by first | (rw [add_block]; exact hn105_1) | (show (Addr.add _ _).block ≠ _; rw [add_block]; exact hn105_1) | exact hn105_1) (.slice A103_3 ((rd_T55 l0_0 a1).f2.f1).length c103_3)).trans hx105_1; replace hx105_2 := (cell_far (p := ⟨gb104, 1, none⟩) (by first | (rw [add_block]; exact hn105_1) | (show (Addr.add _ _).block ≠ _; rw [add_block]; exact hn105_1) | exact hn105_1) (.slice A103_3 ((rd_T55 l0_0 a1).f2.f1).length c103_3)).trans hx105_2; replace hx105_3 := (cell_far (p := ⟨gb104, 1, none⟩) (by first | (rw [add_block]; exact hn105_1) | (show (Addr.add _ _).block ≠ _; rw [add_block]; exact hn105_1) | exact hn105_1) (.slice A103_3 ((rd_T55 l0_0 a1).f2.f1).length c103_3)).trans hx105_3; clear hn105_0; clear hn105_1; replace p105 := eq_true p105; replace q105 := eq_true q105))
    (try simp only [Act.put, List.setIfInBounds_toArray, List.set_cons_zero, List.set_cons_succ])
    go_cut [36] (fun v36 wc => ∃ (kq : Nat) (x36_16 : Bool), v36 = .bool x36_16 ∧ Aside0 (tree_whole.j0 kq a2 ((rd_T55 l0_0 a1).f2.f1) x36_16 l0_0 a0_1 ((rd_T55 l0_0 a1).f2.f0) ((rd_T55 l0_0 a1).f2.f1) = some (r1, r2, r3)) ∧ Aside0 (kq ≤ k) ∧ Aside0 (wc.heap[gb101]? = some (.cells #[(.slice (some ad103) l0_0.length c0_0), .int .i64 a0_1] 24 (0, 0))) ∧ Aside0 (wc.heap[gb102]? = some (.cells #[.int .i64 0, .int .i64 0] 92 (0, 0))) ∧ Aside0 (wc.heap[gb104]? = some (.cells #[.bool ((rd_T55 l0_0 a1).f2.f0), (.slice A103_3 ((rd_T55 l0_0 a1).f2.f1).length c103_3)] 53 (0, 0))) ∧ Aside0 (Below w.heap.size w wc))
    case first =>
     have H := HC17.out
     clear HC17
     obtain ⟨bq27, hbq27⟩ : ∃ b_ : Bool, b_ = ((rd_T55 l0_0 a1).f2.f0) := ⟨_, rfl⟩
     replace H : (if bq27 = true then (tree_whole.j0 k a2 ((rd_T55 l0_0 a1).f2.f1) true l0_0 a0_1 bq27 ((rd_T55 l0_0 a1).f2.f1)) else (tree_whole.j0 k a2 ((rd_T55 l0_0 a1).f2.f1) (a2 == 1) l0_0 a0_1 bq27 ((rd_T55 l0_0 a1).f2.f1))) = some (r1, r2, r3) := by rw [← hbq27] at H; exact H
     have Nbq27 := Aside0.mk hbq27
     clear hbq27
     (try rw [← Nbq27.out])
     by_cases c28 : bq27 = true
     ·subst c28
      have H1 : (tree_whole.j0 k a2 ((rd_T55 l0_0 a1).f2.f1) true l0_0 a0_1 true ((rd_T55 l0_0 a1).f2.f1)) = some (r1, r2, r3) := by rw [if_pos rfl] at H; exact H
      clear H
      have H := H1
      clear H1
      have H' := Aside0.mk H
      clear H
      have hnb29 := NB104_101.out
      have hnc29 := NB101_104.out
      have hnb30 := NB104_102.out
      have hnc30 := NB102_104.out
      have hcz31_0 : w22.cell? ⟨gb104, 0, none⟩ = some (.bool false) := (blk_cell BK104.out 0).trans rfl
      have hcz31_1 : w22.cell? ⟨gb104, 1, none⟩ = some (.slice none 0 0) := (blk_cell BK104.out 1).trans rfl
      have hfz31_0 := blk_frozen BK104.out 0
      have hfz31_1 := blk_frozen BK104.out 1
      go_wp2
      go_meet
      case rel => exact ⟨_, (true), (by first | rfl | (simp; done) | (simp [*]; done)), (by first | exact H' | (rw [← Nbq27.out]; exact H')), ⟨by first | omega | exact Nat.le_refl _⟩, ⟨by (with_reducible repeat (first | refine blk_drewN ?_ _ | refine blk_drew ?_ | refine blk_alloc ?_ _)); refine blk_far ?_ NB101_104.out _; (with_reducible repeat (first | refine blk_drewN ?_ _ | refine blk_drew ?_ | refine blk_alloc ?_ _)); refine blk_far ?_ NB101_104.out _; (with_reducible repeat (first | refine blk_drewN ?_ _ | refine blk_drew ?_ | refine blk_alloc ?_ _)); exact BK101.out⟩, ⟨by (with_reducible repeat (first | refine blk_drewN ?_ _ | refine blk_drew ?_ | refine blk_alloc ?_ _)); refine blk_far ?_ NB102_104.out _; (with_reducible repeat (first | refine blk_drewN ?_ _ | refine blk_drew ?_ | refine blk_alloc ?_ _)); refine blk_far ?_ NB102_104.out _; (with_reducible repeat (first | refine blk_drewN ?_ _ | refine blk_drew ?_ | refine blk_alloc ?_ _)); exact BK102.out⟩, ⟨by (with_reducible repeat (first | refine blk_drewN ?_ _ | refine blk_drew ?_ | refine blk_alloc ?_ _)); refine blk_put (cs := #[.bool (true), .slice none 0 0]) ?_ 1 _ (by first | rfl | (rw [← Nbq27.out]; rfl)); (with_reducible repeat (first | refine blk_drewN ?_ _ | refine blk_drew ?_ | refine blk_alloc ?_ _)); refine blk_put (cs := #[.bool false, .slice none 0 0]) ?_ 0 _ rfl; (with_reducible repeat (first | refine blk_drewN ?_ _ | refine blk_drew ?_ | refine blk_alloc ?_ _)); exact BK104.out⟩, ⟨by repeat (first | (with_reducible first | exact HB.out | apply below_alloc | apply pw_below_drewN | apply below_drew1 | refine below_set ?_ GE101.out | refine below_set ?_ GE102.out | refine below_set ?_ GE104.out) | exact HB.out)⟩⟩
     ·replace c28 := Bool.eq_false_iff.mpr c28
      subst c28
      have H1 : (tree_whole.j0 k a2 ((rd_T55 l0_0 a1).f2.f1) (a2 == 1) l0_0 a0_1 false ((rd_T55 l0_0 a1).f2.f1)) = some (r1, r2, r3) := by rw [if_neg (show ¬ (false = true) by decide)] at H; exact H
      clear H
      have H := H1
      clear H1
      have H' := Aside0.mk H
      clear H
      have hnb32 := NB104_101.out
      have hnc32 := NB101_104.out
      have hnb33 := NB104_102.out
      have hnc33 := NB102_104.out
      have hcz34_0 : w22.cell? ⟨gb104, 0, none⟩ = some (.bool false) := (blk_cell BK104.out 0).trans rfl
      have hcz34_1 : w22.cell? ⟨gb104, 1, none⟩ = some (.slice none 0 0) := (blk_cell BK104.out 1).trans rfl
      have hfz34_0 := blk_frozen BK104.out 0
      have hfz34_1 := blk_frozen BK104.out 1
      go_wp2
      go_meet
      case rel => exact ⟨_, ((a2 == 1)), (by first | rfl | (simp; done) | (simp [*]; done)), (by first | exact H' | (rw [← Nbq27.out]; exact H')), ⟨by first | omega | exact Nat.le_refl _⟩, ⟨by (with_reducible repeat (first | refine blk_drewN ?_ _ | refine blk_drew ?_ | refine blk_alloc ?_ _)); refine blk_far ?_ NB101_104.out _; (with_reducible repeat (first | refine blk_drewN ?_ _ | refine blk_drew ?_ | refine blk_alloc ?_ _)); refine blk_far ?_ NB101_104.out _; (with_reducible repeat (first | refine blk_drewN ?_ _ | refine blk_drew ?_ | refine blk_alloc ?_ _)); exact BK101.out⟩, ⟨by (with_reducible repeat (first | refine blk_drewN ?_ _ | refine blk_drew ?_ | refine blk_alloc ?_ _)); refine blk_far ?_ NB102_104.out _; (with_reducible repeat (first | refine blk_drewN ?_ _ | refine blk_drew ?_ | refine blk_alloc ?_ _)); refine blk_far ?_ NB102_104.out _; (with_reducible repeat (first | refine blk_drewN ?_ _ | refine blk_drew ?_ | refine blk_alloc ?_ _)); exact BK102.out⟩, ⟨by (with_reducible repeat (first | refine blk_drewN ?_ _ | refine blk_drew ?_ | refine blk_alloc ?_ _)); refine blk_put (cs := #[.bool (false), .slice none 0 0]) ?_ 1 _ (by first | rfl | (rw [← Nbq27.out]; rfl)); (with_reducible repeat (first | refine blk_drewN ?_ _ | refine blk_drew ?_ | refine blk_alloc ?_ _)); refine blk_put (cs := #[.bool false, .slice none 0 0]) ?_ 0 _ rfl; (with_reducible repeat (first | refine blk_drewN ?_ _ | refine blk_drew ?_ | refine blk_alloc ?_ _)); exact BK104.out⟩, ⟨by repeat (first | (with_reducible first | exact HB.out | apply below_alloc | apply pw_below_drewN | apply below_drew1 | refine below_set ?_ GE101.out | refine below_set ?_ GE102.out | refine below_set ?_ GE104.out) | exact HB.out)⟩⟩
    case rest =>
     clear HC17
     try clear c1
     try clear p1
     try clear q1
     try clear hx1
     try clear c2
     try clear p2
     try clear q2
     try clear c3
     try clear c4
     try clear c4b0
     try clear c5
     try clear c5b0
     try clear c6
     try clear c6b0
     try clear c6b1
     try clear c9
     try clear c10
     try clear p10
     try clear q10
     try clear hx10
     try clear c12
     try clear c13
     try clear c20
     try clear c23
     try clear c24
     try clear q27
     try clear c28
     try clear c29
     try clear c30
     try clear c32
     try clear c33
     try clear hcz10_0
     try clear hcz10_1
     try clear hcz14_0
     try clear hcz14_1
     try clear hcz15_0
     try clear hcz15_1
     try clear hcz16_0
     try clear hcz16_1
     try clear hcz21_0
     try clear hcz21_1
     try clear hcz25_0
     try clear hcz25_1
     try clear hcz26_0
     try clear hcz26_1
     try clear hcz31_0
     try clear hcz31_1
     try clear hcz34_0
     try clear hcz34_1
     try clear hfz10_0
     try clear hfz10_1
     try clear hfz14_0
     try clear hfz14_1
     try clear hfz15_0
     try clear hfz15_1
     try clear hfz16_0
     try clear hfz16_1
     try clear hfz21_0
     try clear hfz21_1
     try clear hfz25_0
     try clear hfz25_1
     try clear hfz26_0
     try clear hfz26_1
     try clear hfz31_0
     try clear hfz31_1
     try clear hfz34_0
     try clear hfz34_1
     try clear hx103_0
     try clear hx103_1
     try clear hx103_2
     try clear hx103_3
     try clear hx105_0
     try clear hx105_1
     try clear hx105_2
     try clear hx105_3
     try clear p103
     try clear p105
     try clear q103
     try clear q105
     obtain ⟨kq, x36_16, rfl, HA, HJ16, BK101, BK102, BK104, HB⟩ := hcut
     cases kq with
     | zero => exact absurd HA.out (by simp [tree_whole.j0])
     | succ kj16 =>
      have H := HA.out
      clear HA
      simp only [tree_whole.j0] at H
      by_cases c35 : x36_16 = true
      ·subst c35
       have H1 : (if 0 < (((rd_T55 l0_0 a1).f2.f1).length : Int) then (if 0 ≤ (wrap64 ((((rd_T55 l0_0 a1).f2.f1).length : Int) - 1)) then (if (wrap64 ((((rd_T55 l0_0 a1).f2.f1).length : Int) - 1)) < (((rd_T55 l0_0 a1).f2.f1).length : Int) then (if ((rd_T55 l0_0 a1).f2.f0) = true then (some ((rd_T49 ((rd_T55 l0_0 a1).f2.f1) 0).f0, (rd_T49 ((rd_T55 l0_0 a1).f2.f1) (wrap64 ((((rd_T55 l0_0 a1).f2.f1).length : Int) - 1))).f0, (a2 == 1))) else (some ((rd_T49 ((rd_T55 l0_0 a1).f2.f1) 0).f0, (rd_T49 ((rd_T55 l0_0 a1).f2.f1) (wrap64 ((((rd_T55 l0_0 a1).f2.f1).length : Int) - 1))).f0, false))) else (none)) else (none)) else (none)) = some (r1, r2, r3) := by rw [if_pos rfl] at H; exact H
       clear H
       have H := H1
       clear H1
       by_cases c36 : 0 < (((rd_T55 l0_0 a1).f2.f1).length : Int)
       ·rw [if_pos c36] at H
        have c36b0 : decide (0 < (((rd_T55 l0_0 a1).f2.f1).length : Int)) = true := decide_eq_true c36
        have c36b1 : decide (0 < ((rd_T55 l0_0 a1).f2.f1).length) = true := decide_eq_true (by omega)
        clear c36
        obtain ⟨ji37, hji37⟩ : ∃ j_ : Int, (wrap64 ((((rd_T55 l0_0 a1).f2.f1).length : Int) - 1)) = j_ := ⟨_, rfl⟩
        replace H : (if 0 ≤ (ji37) then (if (ji37) < (((rd_T55 l0_0 a1).f2.f1).length : Int) then (if ((rd_T55 l0_0 a1).f2.f0) = true then (some ((rd_T49 ((rd_T55 l0_0 a1).f2.f1) 0).f0, (rd_T49 ((rd_T55 l0_0 a1).f2.f1) (ji37)).f0, (a2 == 1))) else (some ((rd_T49 ((rd_T55 l0_0 a1).f2.f1) 0).f0, (rd_T49 ((rd_T55 l0_0 a1).f2.f1) (ji37)).f0, false))) else (none)) else (none)) = some (r1, r2, r3) := by first | (rw [hji37] at H; exact H) | (simp only [hji37] at H ⊢; exact H)
        have hji37w : (IntKind.i64.wrap ((((rd_T55 l0_0 a1).f2.f1).length : Int) - 1)) = ji37 := (i64_w _).trans hji37
        by_cases c38 : 0 ≤ (ji37)
        ·rw [if_pos c38] at H
         have c38b0 : decide (0 ≤ (ji37)) = true := decide_eq_true c38
         clear c38
         by_cases c39 : (ji37) < (((rd_T55 l0_0 a1).f2.f1).length : Int)
         ·rw [if_pos c39] at H
          have c39b0 : decide ((ji37) < (((rd_T55 l0_0 a1).f2.f1).length : Int)) = true := decide_eq_true c39
          clear c39
          by_cases c40 : ((rd_T55 l0_0 a1).f2.f0) = true
          ·rw [if_pos c40] at H
           have c40b0 : ((rd_T55 l0_0 a1).f2.f0) = true := c40
           clear c40
           simp only [Option.some.injEq, Prod.mk.injEq] at H
           obtain ⟨rfl, rfl, rfl⟩ := H
           try go_wp2
           have n0_ := Aside0.mk (blk_drew BK101.out)
           have n1_ := Aside0.mk (blk_drew BK102.out)
           have n2_ := Aside0.mk (blk_drew BK104.out)
           have n3_ := Aside0.mk (below_drew1 HB.out)
           clear BK101
           clear BK102
           clear BK104
           clear HB
           have BK101 := n0_
           have BK102 := n1_
           have BK104 := n2_
           have HB := n3_
           clear n0_ n1_ n2_ n3_
           have p106 : 0 ≤ (0 : Int) := (by omega)
           have q106 : 0 < (((rd_T55 l0_0 a1).f2.f1).length : Int) := of_decide_eq_true (by first | (with_reducible assumption) | assumption)
           obtain ⟨ad106, e106, hx106_0, hx106_1⟩ := at_T49 HR103_3.out 0 p106 q106
           have hw106_1 := hx106_1
           (try rw [show ((0 : Int)).toNat = 0 from rfl] at hw106_1)
           (try rw [show 0 * 2 = 0 from rfl] at hw106_1)
           (try rw [Addr.add_zero'] at hw106_1)
           have hw106_0 := hx106_0
           (try rw [show ((0 : Int)).toNat = 0 from rfl] at hw106_0)
           (try rw [show 0 * 2 = 0 from rfl] at hw106_0)
           (try rw [Addr.add_zero'] at hw106_0)
           cases e106
           have qi106 : (0 < ((rd_T55 l0_0 a1).f2.f1).length) = True := eq_true (by omega)
           (try rw [show ((0 : Int)).toNat = 0 from rfl] at hx106_0)
           (try rw [show 0 * 2 = 0 from rfl] at hx106_0)
           (try rw [Addr.add_zero'] at hx106_0)
           (try rw [show ((0 : Int)).toNat = 0 from rfl] at hx106_1)
           (try rw [show 0 * 2 = 0 from rfl] at hx106_1)
           (try rw [Addr.add_zero'] at hx106_1)
           replace hx106_0 := (HB.out.cell (World.block_lt_of_cell? w _ hx106_0)).trans hx106_0
           replace hx106_1 := (HB.out.cell (World.block_lt_of_cell? w _ hx106_1)).trans hx106_1
           replace p106 := eq_true p106
           replace q106 := eq_true q106
           have p107 : 0 ≤ ((ji37) : Int) := of_decide_eq_true (by first | (with_reducible assumption) | assumption)
           have q107 : (ji37) < (((rd_T55 l0_0 a1).f2.f1).length : Int) := of_decide_eq_true (by first | (with_reducible assumption) | assumption)
           obtain ⟨ad107, e107, hx107_0, hx107_1⟩ := at_T49 HR103_3.out (ji37) p107 q107
           have hw107_1 := hx107_1
           have hw107_0 := hx107_0
           obtain rfl : ad106 = ad107 := (by injection e107)
           replace hx107_0 := (HB.out.cell (World.block_lt_of_cell? w _ hx107_0)).trans hx107_0
           replace hx107_1 := (HB.out.cell (World.block_lt_of_cell? w _ hx107_1)).trans hx107_1
           replace p107 := eq_true p107
           replace q107 := eq_true q107
           refine start_ (n := 20) (S := fun w' => w'.cell? ⟨gb104, 0, none⟩ = some (.bool ((rd_T55 l0_0 a1).f2.f0)) ∧ w'.cell? ⟨gb104, 1, none⟩ = some (.slice (some ad106) ((rd_T55 l0_0 a1).f2.f1).length c103_3) ∧ w'.cell? ad106 = some (.int .i64 ((rd_T49 ((rd_T55 l0_0 a1).f2.f1) 0).f0)) ∧ w'.cell? ⟨ad106.block, ad106.off + 1, none⟩ = some (.int .i64 ((rd_T49 ((rd_T55 l0_0 a1).f2.f1) 0).f1)) ∧ w'.cell? (ad106.add (((ji37)).toNat * 2)) = some (.int .i64 ((rd_T49 ((rd_T55 l0_0 a1).f2.f1) (ji37)).f0)) ∧ w'.cell? ⟨(ad106.add (((ji37)).toNat * 2)).block, (ad106.add (((ji37)).toNat * 2)).off + 1, none⟩ = some (.int .i64 ((rd_T49 ((rd_T55 l0_0 a1).f2.f1) (ji37)).f1))) (ds := []) #[false, false, false, false, false, false, false, false, false, false, false, false, false, false, false, false, false, false, false, false] (by kernel_rfl) rfl rfl ⟨(blk_cell BK104.out 0).trans rfl, (blk_cell BK104.out 1).trans rfl, ((HB.out.cell (World.block_lt_of_cell? w _ hw106_0)).trans hw106_0), ((HB.out.cell (World.block_lt_of_cell? w _ hw106_1)).trans hw106_1), ((HB.out.cell (World.block_lt_of_cell? w _ hw107_0)).trans hw107_0), ((HB.out.cell (World.block_lt_of_cell? w _ hw107_1)).trans hw107_1)⟩ (fun hHeld => ?_); refine with_tabW tree_whole.tab6 tree_whole.bits6 (fun HT_ HW_ => ?_)
           generalize wc.drew = w41 at BK101 BK102 BK104 HB hx106_0 hx106_1 hx107_0 hx107_1 hHeld ⊢
           refine pure_ (i := 0) (N := some 37) (v := ?_) (a' := ?_) #[true, false, false, false, false, false, false, false, false, false, false, false, false, false, false, false, false, false, false, false] rfl rfl (any_of HT_.out (by kernel_rfl)) (fun _ _ _ h => h) (Or.inl ⟨by rfl, ?_⟩) ?_ ?_
           rotate_left
           ·intro w'
            go_simp
            with_reducible rfl
           rotate_left
           ·simp only [Act.put, List.setIfInBounds_toArray, List.set_cons_zero, List.set_cons_succ, i64_w, i32_w]
            rfl
           refine pure_ (i := 1) (N := some 38) (v := ?_) (a' := ?_) #[true, true, false, false, false, false, false, false, false, false, false, false, false, false, false, false, false, false, false, false] rfl rfl (any_of HT_.out (by kernel_rfl)) (fun _ _ _ h => h) (Or.inl ⟨by rfl, ?_⟩) ?_ ?_
           rotate_left
           ·intro w'
            go_simp
            with_reducible rfl
           rotate_left
           ·simp only [Act.put, List.setIfInBounds_toArray, List.set_cons_zero, List.set_cons_succ, i64_w, i32_w]
            rfl
           refine pure_ (i := 2) (N := some 39) (v := ?_) (a' := ?_) #[true, true, true, false, false, false, false, false, false, false, false, false, false, false, false, false, false, false, false, false] rfl rfl (any_of HT_.out (by kernel_rfl)) (fun _ _ _ h => h) (Or.inl ⟨by rfl, ?_⟩) ?_ ?_
           rotate_left
           ·intro w'
            go_simp
            with_reducible rfl
           rotate_left
           ·simp only [Act.put, List.setIfInBounds_toArray, List.set_cons_zero, List.set_cons_succ, i64_w, i32_w]
            rfl
           refine pure_ (i := 4) (N := some 41) (v := ?_) (a' := ?_) #[true, true, true, false, true, false, false, false, false, false, false, false, false, false, false, false, false, false, false, false] rfl rfl (any_of HT_.out (by kernel_rfl)) (fun _ _ _ h => h) (Or.inl ⟨by rfl, ?_⟩) ?_ ?_
           rotate_left
           ·intro w'
            go_simp
            with_reducible rfl
           rotate_left
           ·simp only [Act.put, List.setIfInBounds_toArray, List.set_cons_zero, List.set_cons_succ, i64_w, i32_w]
            rfl
           refine pure_ (i := 5) (N := some 42) (v := ?_) (a' := ?_) #[true, true, true, false, true, true, false, false, false, false, false, false, false, false, false, false, false, false, false, false] rfl rfl (any_of HT_.out (by kernel_rfl)) (fun _ _ _ h => h) (Or.inl ⟨by rfl, ?_⟩) ?_ ?_
           rotate_left
           ·intro w'
            go_simp
            with_reducible rfl
           rotate_left
           ·simp only [Act.put, List.setIfInBounds_toArray, List.set_cons_zero, List.set_cons_succ, i64_w, i32_w]
            rfl
           refine pure_ (i := 6) (N := some 43) (v := ?_) (a' := ?_) #[true, true, true, false, true, true, true, false, false, false, false, false, false, false, false, false, false, false, false, false] rfl rfl (any_of HT_.out (by kernel_rfl)) (fun _ _ _ h => h) (Or.inl ⟨by rfl, ?_⟩) ?_ ?_
           rotate_left
           ·intro w'
            go_simp
            with_reducible rfl
           rotate_left
           ·simp only [Act.put, List.setIfInBounds_toArray, List.set_cons_zero, List.set_cons_succ, i64_w, i32_w]
            rfl
           refine pure_ (i := 7) (N := some 44) (v := ?_) (a' := ?_) #[true, true, true, false, true, true, true, true, false, false, false, false, false, false, false, false, false, false, false, false] rfl rfl (any_of HT_.out (by kernel_rfl)) (fun _ _ _ h => h) (Or.inl ⟨by rfl, ?_⟩) ?_ ?_
           rotate_left
           ·intro w'
            go_simp
            with_reducible rfl
           rotate_left
           ·simp only [Act.put, List.setIfInBounds_toArray, List.set_cons_zero, List.set_cons_succ, i64_w, i32_w]
            rfl
           refine pure_ (i := 8) (N := some 45) (v := ?_) (a' := ?_) #[true, true, true, false, true, true, true, true, true, false, false, false, false, false, false, false, false, false, false, false] rfl rfl (any_of HT_.out (by kernel_rfl)) (fun _ _ _ h => h) (Or.inl ⟨by rfl, ?_⟩) ?_ ?_
           rotate_left
           ·intro w'
            go_simp
            with_reducible rfl
           rotate_left
           ·simp only [Act.put, List.setIfInBounds_toArray, List.set_cons_zero, List.set_cons_succ, i64_w, i32_w]
            rfl
           refine pure_ (i := 9) (N := some 46) (v := ?_) (a' := ?_) #[true, true, true, false, true, true, true, true, true, true, false, false, false, false, false, false, false, false, false, false] rfl rfl (any_of HT_.out (by kernel_rfl)) (fun _ _ _ h => h) (Or.inl ⟨by rfl, ?_⟩) ?_ ?_
           rotate_left
           ·intro w'
            go_simp
            with_reducible rfl
           rotate_left
           ·simp only [Act.put, List.setIfInBounds_toArray, List.set_cons_zero, List.set_cons_succ, i64_w, i32_w]
            rfl
           refine pure_ (i := 12) (N := some 49) (v := ?_) (a' := ?_) #[true, true, true, false, true, true, true, true, true, true, false, false, true, false, false, false, false, false, false, false] rfl rfl (any_of HT_.out (by kernel_rfl)) (fun _ _ _ h => h) (Or.inl ⟨by rfl, ?_⟩) ?_ ?_
           rotate_left
           ·intro w'
            go_simp
            with_reducible rfl
           rotate_left
           ·simp only [Act.put, List.setIfInBounds_toArray, List.set_cons_zero, List.set_cons_succ, i64_w, i32_w]
            rfl
           refine take_ (i := 3) (N := some 40) (v := ?_) (a' := ?_) #[true, true, true, true, true, true, true, true, true, true, false, false, true, false, false, false, false, false, false, false] rfl rfl (take_ofW HT_.out HW_.out (by kernel_rfl)) (fun _ _ _ h => h) (Or.inl ⟨by rfl, ?_⟩) hHeld ?_ ?_
           rotate_left
           ·rintro w' ⟨s0, s1, s2, s3, s4, s5⟩
            go_simp
            with_reducible rfl
           rotate_left
           ·simp only [Act.put, List.setIfInBounds_toArray, List.set_cons_zero, List.set_cons_succ, i64_w, i32_w]
            rfl
           refine take_ (i := 10) (N := some 47) (v := ?_) (a' := ?_) #[true, true, true, true, true, true, true, true, true, true, true, false, true, false, false, false, false, false, false, false] rfl rfl (take_ofW HT_.out HW_.out (by kernel_rfl)) (fun _ _ _ h => h) (Or.inl ⟨by rfl, ?_⟩) hHeld ?_ ?_
           rotate_left
           ·rintro w' ⟨s0, s1, s2, s3, s4, s5⟩
            go_simp
            with_reducible rfl
           rotate_left
           ·simp only [Act.put, List.setIfInBounds_toArray, List.set_cons_zero, List.set_cons_succ, i64_w, i32_w]
            rfl
           refine pure_ (i := 11) (N := some 48) (v := ?_) (a' := ?_) #[true, true, true, true, true, true, true, true, true, true, true, true, true, false, false, false, false, false, false, false] rfl rfl (any_of HT_.out (by kernel_rfl)) (fun _ _ _ h => h) (Or.inl ⟨by rfl, ?_⟩) ?_ ?_
           rotate_left
           ·intro w'
            go_simp
            with_reducible rfl
           rotate_left
           ·simp only [Act.put, List.setIfInBounds_toArray, List.set_cons_zero, List.set_cons_succ, i64_w, i32_w]
            rfl
           refine take_ (i := 13) (N := some 50) (v := ?_) (a' := ?_) #[true, true, true, true, true, true, true, true, true, true, true, true, true, true, false, false, false, false, false, false] rfl rfl (take_ofW HT_.out HW_.out (by kernel_rfl)) (fun _ _ _ h => h) (Or.inl ⟨by rfl, ?_⟩) hHeld ?_ ?_
           rotate_left
           ·rintro w' ⟨s0, s1, s2, s3, s4, s5⟩
            go_simp
            with_reducible rfl
           rotate_left
           ·simp only [Act.put, List.setIfInBounds_toArray, List.set_cons_zero, List.set_cons_succ, i64_w, i32_w]
            rfl
           refine pure_ (i := 14) (N := some 51) (v := ?_) (a' := ?_) #[true, true, true, true, true, true, true, true, true, true, true, true, true, true, true, false, false, false, false, false] rfl rfl (any_of HT_.out (by kernel_rfl)) (fun _ _ _ h => h) (Or.inl ⟨by rfl, ?_⟩) ?_ ?_
           rotate_left
           ·intro w'
            go_simp
            with_reducible rfl
           rotate_left
           ·simp only [Act.put, List.setIfInBounds_toArray, List.set_cons_zero, List.set_cons_succ, i64_w, i32_w]
            rfl
           refine pure_ (i := 15) (N := some 52) (v := ?_) (a' := ?_) #[true, true, true, true, true, true, true, true, true, true, true, true, true, true, true, true, false, false, false, false] rfl rfl (any_of HT_.out (by kernel_rfl)) (fun _ _ _ h => h) (Or.inl ⟨by rfl, ?_⟩) ?_ ?_
           rotate_left
           ·intro w'
            go_simp
            with_reducible rfl
           rotate_left
           ·simp only [Act.put, List.setIfInBounds_toArray, List.set_cons_zero, List.set_cons_succ, i64_w, i32_w]
            rfl
           refine pure_ (i := 16) (N := some 53) (v := ?_) (a' := ?_) #[true, true, true, true, true, true, true, true, true, true, true, true, true, true, true, true, true, false, false, false] rfl rfl (any_of HT_.out (by kernel_rfl)) (fun _ _ _ h => h) (Or.inl ⟨by rfl, ?_⟩) ?_ ?_
           rotate_left
           ·intro w'
            go_simp
            with_reducible rfl
           rotate_left
           ·simp only [Act.put, List.setIfInBounds_toArray, List.set_cons_zero, List.set_cons_succ, i64_w, i32_w]
            rfl
           refine pure_ (i := 17) (N := some 54) (v := ?_) (a' := ?_) #[true, true, true, true, true, true, true, true, true, true, true, true, true, true, true, true, true, true, false, false] rfl rfl (any_of HT_.out (by kernel_rfl)) (fun _ _ _ h => h) (Or.inl ⟨by rfl, ?_⟩) ?_ ?_
           rotate_left
           ·intro w'
            go_simp
            with_reducible rfl
           rotate_left
           ·simp only [Act.put, List.setIfInBounds_toArray, List.set_cons_zero, List.set_cons_succ, i64_w, i32_w]
            rfl
           refine one_ (i := 18) (N := none) #[true, true, true, true, true, true, true, true, true, true, true, true, true, true, true, true, true, true, true, false] rfl rfl (one_of HT_.out (by kernel_rfl)) (by decide) (fun K hK => ?_)
           have hs42 : w41.cell? ⟨gb102, 0, none⟩ = some (.int .i64 0) := (blk_cell BK102.out 0).trans rfl
           have hfs42 := blk_frozen BK102.out 0
           have hns42_0 := NB101_102.out
           have hns42_2 := NB104_102.out
           have hms42_0 := NB102_101.out
           have hms42_2 := NB102_104.out
           have hs43 : w41.cell? ⟨gb102, 1, none⟩ = some (.int .i64 0) := (blk_cell BK102.out 1).trans rfl
           have hfs43 := blk_frozen BK102.out 1
           have hns43_0 := NB101_102.out
           have hns43_2 := NB104_102.out
           have hms43_0 := NB102_101.out
           have hms43_2 := NB102_104.out
           refine skip_ (w1 := ?_) (by rfl) rfl ?_ ?_
           rotate_left
           ·go_simp
            rfl
           refine hK.out _ _ ⟨((cell_far (p := ⟨gb102, _, none⟩) NB104_102.out _).trans (((cell_far (p := ⟨gb102, _, none⟩) NB104_102.out _).trans (hHeld.1)))), ((cell_far (p := ⟨gb102, _, none⟩) NB104_102.out _).trans (((cell_far (p := ⟨gb102, _, none⟩) NB104_102.out _).trans (hHeld.2.1)))), ((cell_far (p := ⟨gb102, _, none⟩) (by first | exact Nat.ne_of_lt (Nat.lt_of_lt_of_le (by have := World.block_lt_of_cell? _ _ hw106_0; first | rwa [add_block] at this | exact this) GW102.out) | (rw [add_block]; exact Nat.ne_of_lt (Nat.lt_of_lt_of_le (by have := World.block_lt_of_cell? _ _ hw106_0; first | rwa [add_block] at this | exact this) GW102.out)) | (show (Addr.add _ _).block ≠ _; rw [add_block]; exact Nat.ne_of_lt (Nat.lt_of_lt_of_le (by have := World.block_lt_of_cell? _ _ hw106_0; first | rwa [add_block] at this | exact this) GW102.out)) | (dsimp only; exact Nat.ne_of_lt (Nat.lt_of_lt_of_le (by have := World.block_lt_of_cell? _ _ hw106_0; first | rwa [add_block] at this | exact this) GW102.out))) _).trans (((cell_far (p := ⟨gb102, _, none⟩) (by first | exact Nat.ne_of_lt (Nat.lt_of_lt_of_le (by have := World.block_lt_of_cell? _ _ hw106_0; first | rwa [add_block] at this | exact this) GW102.out) | (rw [add_block]; exact Nat.ne_of_lt (Nat.lt_of_lt_of_le (by have := World.block_lt_of_cell? _ _ hw106_0; first | rwa [add_block] at this | exact this) GW102.out)) | (show (Addr.add _ _).block ≠ _; rw [add_block]; exact Nat.ne_of_lt (Nat.lt_of_lt_of_le (by have := World.block_lt_of_cell? _ _ hw106_0; first | rwa [add_block] at this | exact this) GW102.out)) | (dsimp only; exact Nat.ne_of_lt (Nat.lt_of_lt_of_le (by have := World.block_lt_of_cell? _ _ hw106_0; first | rwa [add_block] at this | exact this) GW102.out))) _).trans (hHeld.2.2.1)))), ((cell_far (p := ⟨gb102, _, none⟩) (by first | exact Nat.ne_of_lt (Nat.lt_of_lt_of_le (by have := World.block_lt_of_cell? _ _ hw106_1; first | rwa [add_block] at this | exact this) GW102.out) | (rw [add_block]; exact Nat.ne_of_lt (Nat.lt_of_lt_of_le (by have := World.block_lt_of_cell? _ _ hw106_1; first | rwa [add_block] at this | exact this) GW102.out)) | (show (Addr.add _ _).block ≠ _; rw [add_block]; exact Nat.ne_of_lt (Nat.lt_of_lt_of_le (by have := World.block_lt_of_cell? _ _ hw106_1; first | rwa [add_block] at this | exact this) GW102.out)) | (dsimp only; exact Nat.ne_of_lt (Nat.lt_of_lt_of_le (by have := World.block_lt_of_cell? _ _ hw106_1; first | rwa [add_block] at this | exact this) GW102.out))) _).trans (((cell_far (p := ⟨gb102, _, none⟩) (by first | exact Nat.ne_of_lt (Nat.lt_of_lt_of_le (by have := World.block_lt_of_cell? _ _ hw106_1; first | rwa [add_block] at this | exact this) GW102.out) | (rw [add_block]; exact Nat.ne_of_lt (Nat.lt_of_lt_of_le (by have := World.block_lt_of_cell? _ _ hw106_1; first | rwa [add_block] at this | exact this) GW102.out)) | (show (Addr.add _ _).block ≠ _; rw [add_block]; exact Nat.ne_of_lt (Nat.lt_of_lt_of_le (by have := World.block_lt_of_cell? _ _ hw106_1; first | rwa [add_block] at this | exact this) GW102.out)) | (dsimp only; exact Nat.ne_of_lt (Nat.lt_of_lt_of_le (by have := World.block_lt_of_cell? _ _ hw106_1; first | rwa [add_block] at this | exact this) GW102.out))) _).trans (hHeld.2.2.2.1)))), ((cell_far (p := ⟨gb102, _, none⟩) (by first | exact Nat.ne_of_lt (Nat.lt_of_lt_of_le (by have := World.block_lt_of_cell? _ _ hw107_0; first | rwa [add_block] at this | exact this) GW102.out) | (rw [add_block]; exact Nat.ne_of_lt (Nat.lt_of_lt_of_le (by have := World.block_lt_of_cell? _ _ hw107_0; first | rwa [add_block] at this | exact this) GW102.out)) | (show (Addr.add _ _).block ≠ _; rw [add_block]; exact Nat.ne_of_lt (Nat.lt_of_lt_of_le (by have := World.block_lt_of_cell? _ _ hw107_0; first | rwa [add_block] at this | exact this) GW102.out)) | (dsimp only; exact Nat.ne_of_lt (Nat.lt_of_lt_of_le (by have := World.block_lt_of_cell? _ _ hw107_0; first | rwa [add_block] at this | exact this) GW102.out))) _).trans (((cell_far (p := ⟨gb102, _, none⟩) (by first | exact Nat.ne_of_lt (Nat.lt_of_lt_of_le (by have := World.block_lt_of_cell? _ _ hw107_0; first | rwa [add_block] at this | exact this) GW102.out) | (rw [add_block]; exact Nat.ne_of_lt (Nat.lt_of_lt_of_le (by have := World.block_lt_of_cell? _ _ hw107_0; first | rwa [add_block] at this | exact this) GW102.out)) | (show (Addr.add _ _).block ≠ _; rw [add_block]; exact Nat.ne_of_lt (Nat.lt_of_lt_of_le (by have := World.block_lt_of_cell? _ _ hw107_0; first | rwa [add_block] at this | exact this) GW102.out)) | (dsimp only; exact Nat.ne_of_lt (Nat.lt_of_lt_of_le (by have := World.block_lt_of_cell? _ _ hw107_0; first | rwa [add_block] at this | exact this) GW102.out))) _).trans (hHeld.2.2.2.2.1)))), ((cell_far (p := ⟨gb102, _, none⟩) (by first | exact Nat.ne_of_lt (Nat.lt_of_lt_of_le (by have := World.block_lt_of_cell? _ _ hw107_1; first | rwa [add_block] at this | exact this) GW102.out) | (rw [add_block]; exact Nat.ne_of_lt (Nat.lt_of_lt_of_le (by have := World.block_lt_of_cell? _ _ hw107_1; first | rwa [add_block] at this | exact this) GW102.out)) | (show (Addr.add _ _).block ≠ _; rw [add_block]; exact Nat.ne_of_lt (Nat.lt_of_lt_of_le (by have := World.block_lt_of_cell? _ _ hw107_1; first | rwa [add_block] at this | exact this) GW102.out)) | (dsimp only; exact Nat.ne_of_lt (Nat.lt_of_lt_of_le (by have := World.block_lt_of_cell? _ _ hw107_1; first | rwa [add_block] at this | exact this) GW102.out))) _).trans (((cell_far (p := ⟨gb102, _, none⟩) (by first | exact Nat.ne_of_lt (Nat.lt_of_lt_of_le (by have := World.block_lt_of_cell? _ _ hw107_1; first | rwa [add_block] at this | exact this) GW102.out) | (rw [add_block]; exact Nat.ne_of_lt (Nat.lt_of_lt_of_le (by have := World.block_lt_of_cell? _ _ hw107_1; first | rwa [add_block] at this | exact this) GW102.out)) | (show (Addr.add _ _).block ≠ _; rw [add_block]; exact Nat.ne_of_lt (Nat.lt_of_lt_of_le (by have := World.block_lt_of_cell? _ _ hw107_1; first | rwa [add_block] at this | exact this) GW102.out)) | (dsimp only; exact Nat.ne_of_lt (Nat.lt_of_lt_of_le (by have := World.block_lt_of_cell? _ _ hw107_1; first | rwa [add_block] at this | exact this) GW102.out))) _).trans (hHeld.2.2.2.2.2))))⟩ (fun hHeld => ?_)
           clear hK K
           refine pure_ (i := 19) (N := some 7) (v := ?_) (a' := ?_) #[true, true, true, true, true, true, true, true, true, true, true, true, true, true, true, true, true, true, true, true] rfl rfl (any_of HT_.out (by kernel_rfl)) (fun _ _ _ h => h) (Or.inl ⟨by rfl, ?_⟩) ?_ ?_
           rotate_left
           ·intro w'
            go_simp
            with_reducible rfl
           rotate_left
           ·simp only [Act.put, List.setIfInBounds_toArray, List.set_cons_zero, List.set_cons_succ, i64_w, i32_w]
            rfl
           refine done_ (done_of HT_.out (by kernel_rfl)) ?_
           try go_wp2
           refine bodyPost_ret (results_ct rfl _ _ gb102 92 #[.int .i64 ((rd_T49 ((rd_T55 l0_0 a1).f2.f1) 0).f0), .int .i64 ((rd_T49 ((rd_T55 l0_0 a1).f2.f1) (ji37)).f0)] (0, 0) _ rfl (by (with_reducible repeat (first | refine blk_drewN ?_ _ | refine blk_drew ?_ | refine blk_alloc ?_ _)); refine blk_put (cs := #[.int .i64 ((rd_T49 ((rd_T55 l0_0 a1).f2.f1) 0).f0), .int .i64 0]) ?_ 1 _ rfl; (with_reducible repeat (first | refine blk_drewN ?_ _ | refine blk_drew ?_ | refine blk_alloc ?_ _)); refine blk_put (cs := #[.int .i64 0, .int .i64 0]) ?_ 0 _ rfl; (with_reducible repeat (first | refine blk_drewN ?_ _ | refine blk_drew ?_ | refine blk_alloc ?_ _)); exact BK102.out) Try.underlying92 rfl (by kernel_rfl)) rfl ?_
           exact ⟨by first | rfl | (simp [errW_none, errW_some] <;> rfl) | (simp only [← hji37]; first | rfl | (simp [errW_none, errW_some] <;> rfl)) | (simp [*, errW_none, errW_some] <;> rfl), by repeat (first | (with_reducible first | exact HB.out | apply below_alloc | apply pw_below_drewN | apply below_drew1 | refine below_set ?_ GE101.out | refine below_set ?_ GE102.out | refine below_set ?_ GE104.out) | exact HB.out)⟩
          ·rw [if_neg c40] at H
           have c40b0 : ((rd_T55 l0_0 a1).f2.f0) = false := by simpa using c40
           clear c40
           simp only [Option.some.injEq, Prod.mk.injEq] at H
           obtain ⟨rfl, rfl, rfl⟩ := H
           try go_wp2
           have n0_ := Aside0.mk (blk_drew BK101.out)
           have n1_ := Aside0.mk (blk_drew BK102.out)
           have n2_ := Aside0.mk (blk_drew BK104.out)
           have n3_ := Aside0.mk (below_drew1 HB.out)
           clear BK101
           clear BK102
           clear BK104
           clear HB
           have BK101 := n0_
           have BK102 := n1_
           have BK104 := n2_
           have HB := n3_
           clear n0_ n1_ n2_ n3_
           have p106 : 0 ≤ (0 : Int) := (by omega)
           have q106 : 0 < (((rd_T55 l0_0 a1).f2.f1).length : Int) := of_decide_eq_true (by first | (with_reducible assumption) | assumption)
           obtain ⟨ad106, e106, hx106_0, hx106_1⟩ := at_T49 HR103_3.out 0 p106 q106
           have hw106_1 := hx106_1
           (try rw [show ((0 : Int)).toNat = 0 from rfl] at hw106_1)
           (try rw [show 0 * 2 = 0 from rfl] at hw106_1)
           (try rw [Addr.add_zero'] at hw106_1)
           have hw106_0 := hx106_0
           (try rw [show ((0 : Int)).toNat = 0 from rfl] at hw106_0)
           (try rw [show 0 * 2 = 0 from rfl] at hw106_0)
           (try rw [Addr.add_zero'] at hw106_0)
           cases e106
           have qi106 : (0 < ((rd_T55 l0_0 a1).f2.f1).length) = True := eq_true (by omega)
           (try rw [show ((0 : Int)).toNat = 0 from rfl] at hx106_0)
           (try rw [show 0 * 2 = 0 from rfl] at hx106_0)
           (try rw [Addr.add_zero'] at hx106_0)
           (try rw [show ((0 : Int)).toNat = 0 from rfl] at hx106_1)
           (try rw [show 0 * 2 = 0 from rfl] at hx106_1)
           (try rw [Addr.add_zero'] at hx106_1)
           replace hx106_0 := (HB.out.cell (World.block_lt_of_cell? w _ hx106_0)).trans hx106_0
           replace hx106_1 := (HB.out.cell (World.block_lt_of_cell? w _ hx106_1)).trans hx106_1
           replace p106 := eq_true p106
           replace q106 := eq_true q106
           have p107 : 0 ≤ ((ji37) : Int) := of_decide_eq_true (by first | (with_reducible assumption) | assumption)
           have q107 : (ji37) < (((rd_T55 l0_0 a1).f2.f1).length : Int) := of_decide_eq_true (by first | (with_reducible assumption) | assumption)
           obtain ⟨ad107, e107, hx107_0, hx107_1⟩ := at_T49 HR103_3.out (ji37) p107 q107
           have hw107_1 := hx107_1
           have hw107_0 := hx107_0
           obtain rfl : ad106 = ad107 := (by injection e107)
           replace hx107_0 := (HB.out.cell (World.block_lt_of_cell? w _ hx107_0)).trans hx107_0
           replace hx107_1 := (HB.out.cell (World.block_lt_of_cell? w _ hx107_1)).trans hx107_1
           replace p107 := eq_true p107
           replace q107 := eq_true q107
           refine start_ (n := 20) (S := fun w' => w'.cell? ⟨gb104, 0, none⟩ = some (.bool ((rd_T55 l0_0 a1).f2.f0)) ∧ w'.cell? ⟨gb104, 1, none⟩ = some (.slice (some ad106) ((rd_T55 l0_0 a1).f2.f1).length c103_3) ∧ w'.cell? ad106 = some (.int .i64 ((rd_T49 ((rd_T55 l0_0 a1).f2.f1) 0).f0)) ∧ w'.cell? ⟨ad106.block, ad106.off + 1, none⟩ = some (.int .i64 ((rd_T49 ((rd_T55 l0_0 a1).f2.f1) 0).f1)) ∧ w'.cell? (ad106.add (((ji37)).toNat * 2)) = some (.int .i64 ((rd_T49 ((rd_T55 l0_0 a1).f2.f1) (ji37)).f0)) ∧ w'.cell? ⟨(ad106.add (((ji37)).toNat * 2)).block, (ad106.add (((ji37)).toNat * 2)).off + 1, none⟩ = some (.int .i64 ((rd_T49 ((rd_T55 l0_0 a1).f2.f1) (ji37)).f1))) (ds := []) #[false, false, false, false, false, false, false, false, false, false, false, false, false, false, false, false, false, false, false, false] (by kernel_rfl) rfl rfl ⟨(blk_cell BK104.out 0).trans rfl, (blk_cell BK104.out 1).trans rfl, ((HB.out.cell (World.block_lt_of_cell? w _ hw106_0)).trans hw106_0), ((HB.out.cell (World.block_lt_of_cell? w _ hw106_1)).trans hw106_1), ((HB.out.cell (World.block_lt_of_cell? w _ hw107_0)).trans hw107_0), ((HB.out.cell (World.block_lt_of_cell? w _ hw107_1)).trans hw107_1)⟩ (fun hHeld => ?_); refine with_tabW tree_whole.tab6 tree_whole.bits6 (fun HT_ HW_ => ?_)
           generalize wc.drew = w44 at BK101 BK102 BK104 HB hx106_0 hx106_1 hx107_0 hx107_1 hHeld ⊢
           refine pure_ (i := 0) (N := some 37) (v := ?_) (a' := ?_) #[true, false, false, false, false, false, false, false, false, false, false, false, false, false, false, false, false, false, false, false] rfl rfl (any_of HT_.out (by kernel_rfl)) (fun _ _ _ h => h) (Or.inl ⟨by rfl, ?_⟩) ?_ ?_
           rotate_left
           ·intro w'
            go_simp
            with_reducible rfl
           rotate_left
           ·simp only [Act.put, List.setIfInBounds_toArray, List.set_cons_zero, List.set_cons_succ, i64_w, i32_w]
            rfl
           refine pure_ (i := 1) (N := some 38) (v := ?_) (a' := ?_) #[true, true, false, false, false, false, false, false, false, false, false, false, false, false, false, false, false, false, false, false] rfl rfl (any_of HT_.out (by kernel_rfl)) (fun _ _ _ h => h) (Or.inl ⟨by rfl, ?_⟩) ?_ ?_
           rotate_left
           ·intro w'
            go_simp
            with_reducible rfl
           rotate_left
           ·simp only [Act.put, List.setIfInBounds_toArray, List.set_cons_zero, List.set_cons_succ, i64_w, i32_w]
            rfl
           refine pure_ (i := 2) (N := some 39) (v := ?_) (a' := ?_) #[true, true, true, false, false, false, false, false, false, false, false, false, false, false, false, false, false, false, false, false] rfl rfl (any_of HT_.out (by kernel_rfl)) (fun _ _ _ h => h) (Or.inl ⟨by rfl, ?_⟩) ?_ ?_
           rotate_left
           ·intro w'
            go_simp
            with_reducible rfl
           rotate_left
           ·simp only [Act.put, List.setIfInBounds_toArray, List.set_cons_zero, List.set_cons_succ, i64_w, i32_w]
            rfl
           refine pure_ (i := 4) (N := some 41) (v := ?_) (a' := ?_) #[true, true, true, false, true, false, false, false, false, false, false, false, false, false, false, false, false, false, false, false] rfl rfl (any_of HT_.out (by kernel_rfl)) (fun _ _ _ h => h) (Or.inl ⟨by rfl, ?_⟩) ?_ ?_
           rotate_left
           ·intro w'
            go_simp
            with_reducible rfl
           rotate_left
           ·simp only [Act.put, List.setIfInBounds_toArray, List.set_cons_zero, List.set_cons_succ, i64_w, i32_w]
            rfl
           refine pure_ (i := 5) (N := some 42) (v := ?_) (a' := ?_) #[true, true, true, false, true, true, false, false, false, false, false, false, false, false, false, false, false, false, false, false] rfl rfl (any_of HT_.out (by kernel_rfl)) (fun _ _ _ h => h) (Or.inl ⟨by rfl, ?_⟩) ?_ ?_
           rotate_left
           ·intro w'
            go_simp
            with_reducible rfl
           rotate_left
           ·simp only [Act.put, List.setIfInBounds_toArray, List.set_cons_zero, List.set_cons_succ, i64_w, i32_w]
            rfl
           refine pure_ (i := 6) (N := some 43) (v := ?_) (a' := ?_) #[true, true, true, false, true, true, true, false, false, false, false, false, false, false, false, false, false, false, false, false] rfl rfl (any_of HT_.out (by kernel_rfl)) (fun _ _ _ h => h) (Or.inl ⟨by rfl, ?_⟩) ?_ ?_
           rotate_left
           ·intro w'
            go_simp
            with_reducible rfl
           rotate_left
           ·simp only [Act.put, List.setIfInBounds_toArray, List.set_cons_zero, List.set_cons_succ, i64_w, i32_w]
            rfl
           refine pure_ (i := 7) (N := some 44) (v := ?_) (a' := ?_) #[true, true, true, false, true, true, true, true, false, false, false, false, false, false, false, false, false, false, false, false] rfl rfl (any_of HT_.out (by kernel_rfl)) (fun _ _ _ h => h) (Or.inl ⟨by rfl, ?_⟩) ?_ ?_
           rotate_left
           ·intro w'
            go_simp
            with_reducible rfl
           rotate_left
           ·simp only [Act.put, List.setIfInBounds_toArray, List.set_cons_zero, List.set_cons_succ, i64_w, i32_w]
            rfl
           refine pure_ (i := 8) (N := some 45) (v := ?_) (a' := ?_) #[true, true, true, false, true, true, true, true, true, false, false, false, false, false, false, false, false, false, false, false] rfl rfl (any_of HT_.out (by kernel_rfl)) (fun _ _ _ h => h) (Or.inl ⟨by rfl, ?_⟩) ?_ ?_
           rotate_left
           ·intro w'
            go_simp
            with_reducible rfl
           rotate_left
           ·simp only [Act.put, List.setIfInBounds_toArray, List.set_cons_zero, List.set_cons_succ, i64_w, i32_w]
            rfl
           refine pure_ (i := 9) (N := some 46) (v := ?_) (a' := ?_) #[true, true, true, false, true, true, true, true, true, true, false, false, false, false, false, false, false, false, false, false] rfl rfl (any_of HT_.out (by kernel_rfl)) (fun _ _ _ h => h) (Or.inl ⟨by rfl, ?_⟩) ?_ ?_
           rotate_left
           ·intro w'
            go_simp
            with_reducible rfl
           rotate_left
           ·simp only [Act.put, List.setIfInBounds_toArray, List.set_cons_zero, List.set_cons_succ, i64_w, i32_w]
            rfl
           refine pure_ (i := 12) (N := some 49) (v := ?_) (a' := ?_) #[true, true, true, false, true, true, true, true, true, true, false, false, true, false, false, false, false, false, false, false] rfl rfl (any_of HT_.out (by kernel_rfl)) (fun _ _ _ h => h) (Or.inl ⟨by rfl, ?_⟩) ?_ ?_
           rotate_left
           ·intro w'
            go_simp
            with_reducible rfl
           rotate_left
           ·simp only [Act.put, List.setIfInBounds_toArray, List.set_cons_zero, List.set_cons_succ, i64_w, i32_w]
            rfl
           refine take_ (i := 3) (N := some 40) (v := ?_) (a' := ?_) #[true, true, true, true, true, true, true, true, true, true, false, false, true, false, false, false, false, false, false, false] rfl rfl (take_ofW HT_.out HW_.out (by kernel_rfl)) (fun _ _ _ h => h) (Or.inl ⟨by rfl, ?_⟩) hHeld ?_ ?_
           rotate_left
           ·rintro w' ⟨s0, s1, s2, s3, s4, s5⟩
            go_simp
            with_reducible rfl
           rotate_left
           ·simp only [Act.put, List.setIfInBounds_toArray, List.set_cons_zero, List.set_cons_succ, i64_w, i32_w]
            rfl
           refine take_ (i := 10) (N := some 47) (v := ?_) (a' := ?_) #[true, true, true, true, true, true, true, true, true, true, true, false, true, false, false, false, false, false, false, false] rfl rfl (take_ofW HT_.out HW_.out (by kernel_rfl)) (fun _ _ _ h => h) (Or.inl ⟨by rfl, ?_⟩) hHeld ?_ ?_
           rotate_left
           ·rintro w' ⟨s0, s1, s2, s3, s4, s5⟩
            go_simp
            with_reducible rfl
           rotate_left
           ·simp only [Act.put, List.setIfInBounds_toArray, List.set_cons_zero, List.set_cons_succ, i64_w, i32_w]
            rfl
           refine pure_ (i := 11) (N := some 48) (v := ?_) (a' := ?_) #[true, true, true, true, true, true, true, true, true, true, true, true, true, false, false, false, false, false, false, false] rfl rfl (any_of HT_.out (by kernel_rfl)) (fun _ _ _ h => h) (Or.inl ⟨by rfl, ?_⟩) ?_ ?_
           rotate_left
           ·intro w'
            go_simp
            with_reducible rfl
           rotate_left
           ·simp only [Act.put, List.setIfInBounds_toArray, List.set_cons_zero, List.set_cons_succ, i64_w, i32_w]
            rfl
           refine take_ (i := 13) (N := some 50) (v := ?_) (a' := ?_) #[true, true, true, true, true, true, true, true, true, true, true, true, true, true, false, false, false, false, false, false] rfl rfl (take_ofW HT_.out HW_.out (by kernel_rfl)) (fun _ _ _ h => h) (Or.inl ⟨by rfl, ?_⟩) hHeld ?_ ?_
           rotate_left
           ·rintro w' ⟨s0, s1, s2, s3, s4, s5⟩
            go_simp
            with_reducible rfl
           rotate_left
           ·simp only [Act.put, List.setIfInBounds_toArray, List.set_cons_zero, List.set_cons_succ, i64_w, i32_w]
            rfl
           refine pure_ (i := 14) (N := some 51) (v := ?_) (a' := ?_) #[true, true, true, true, true, true, true, true, true, true, true, true, true, true, true, false, false, false, false, false] rfl rfl (any_of HT_.out (by kernel_rfl)) (fun _ _ _ h => h) (Or.inl ⟨by rfl, ?_⟩) ?_ ?_
           rotate_left
           ·intro w'
            go_simp
            with_reducible rfl
           rotate_left
           ·simp only [Act.put, List.setIfInBounds_toArray, List.set_cons_zero, List.set_cons_succ, i64_w, i32_w]
            rfl
           refine pure_ (i := 15) (N := some 52) (v := undef) (a' := ?_) #[true, true, true, true, true, true, true, true, true, true, true, true, true, true, true, true, false, false, false, false] rfl rfl (any_of HT_.out (by kernel_rfl)) (fun _ _ _ h => h) (Or.inr ⟨by rfl, rfl⟩) ?_ ?_
           rotate_left
           ·simp only [Act.put, List.setIfInBounds_toArray, List.set_cons_zero, List.set_cons_succ, i64_w, i32_w]
            rfl
           refine pure_ (i := 16) (N := some 53) (v := undef) (a' := ?_) #[true, true, true, true, true, true, true, true, true, true, true, true, true, true, true, true, true, false, false, false] rfl rfl (any_of HT_.out (by kernel_rfl)) (fun _ _ _ h => h) (Or.inr ⟨by rfl, rfl⟩) ?_ ?_
           rotate_left
           ·simp only [Act.put, List.setIfInBounds_toArray, List.set_cons_zero, List.set_cons_succ, i64_w, i32_w]
            rfl
           refine pure_ (i := 17) (N := some 54) (v := ?_) (a' := ?_) #[true, true, true, true, true, true, true, true, true, true, true, true, true, true, true, true, true, true, false, false] rfl rfl (any_of HT_.out (by kernel_rfl)) (fun _ _ _ h => h) (Or.inl ⟨by rfl, ?_⟩) ?_ ?_
           rotate_left
           ·intro w'
            go_simp
            with_reducible rfl
           rotate_left
           ·simp only [Act.put, List.setIfInBounds_toArray, List.set_cons_zero, List.set_cons_succ, i64_w, i32_w]
            rfl
           refine one_ (i := 18) (N := none) #[true, true, true, true, true, true, true, true, true, true, true, true, true, true, true, true, true, true, true, false] rfl rfl (one_of HT_.out (by kernel_rfl)) (by decide) (fun K hK => ?_)
           have hs45 : w44.cell? ⟨gb102, 0, none⟩ = some (.int .i64 0) := (blk_cell BK102.out 0).trans rfl
           have hfs45 := blk_frozen BK102.out 0
           have hns45_0 := NB101_102.out
           have hns45_2 := NB104_102.out
           have hms45_0 := NB102_101.out
           have hms45_2 := NB102_104.out
           have hs46 : w44.cell? ⟨gb102, 1, none⟩ = some (.int .i64 0) := (blk_cell BK102.out 1).trans rfl
           have hfs46 := blk_frozen BK102.out 1
           have hns46_0 := NB101_102.out
           have hns46_2 := NB104_102.out
           have hms46_0 := NB102_101.out
           have hms46_2 := NB102_104.out
           refine skip_ (w1 := ?_) (by rfl) rfl ?_ ?_
           rotate_left
           ·go_simp
            rfl
           refine hK.out _ _ ⟨((cell_far (p := ⟨gb102, _, none⟩) NB104_102.out _).trans (((cell_far (p := ⟨gb102, _, none⟩) NB104_102.out _).trans (hHeld.1)))), ((cell_far (p := ⟨gb102, _, none⟩) NB104_102.out _).trans (((cell_far (p := ⟨gb102, _, none⟩) NB104_102.out _).trans (hHeld.2.1)))), ((cell_far (p := ⟨gb102, _, none⟩) (by first | exact Nat.ne_of_lt (Nat.lt_of_lt_of_le (by have := World.block_lt_of_cell? _ _ hw106_0; first | rwa [add_block] at this | exact this) GW102.out) | (rw [add_block]; exact Nat.ne_of_lt (Nat.lt_of_lt_of_le (by have := World.block_lt_of_cell? _ _ hw106_0; first | rwa [add_block] at this | exact this) GW102.out)) | (show (Addr.add _ _).block ≠ _; rw [add_block]; exact Nat.ne_of_lt (Nat.lt_of_lt_of_le (by have := World.block_lt_of_cell? _ _ hw106_0; first | rwa [add_block] at this | exact this) GW102.out)) | (dsimp only; exact Nat.ne_of_lt (Nat.lt_of_lt_of_le (by have := World.block_lt_of_cell? _ _ hw106_0; first | rwa [add_block] at this | exact this) GW102.out))) _).trans (((cell_far (p := ⟨gb102, _, none⟩) (by first | exact Nat.ne_of_lt (Nat.lt_of_lt_of_le (by have := World.block_lt_of_cell? _ _ hw106_0; first | rwa [add_block] at this | exact this) GW102.out) | (rw [add_block]; exact Nat.ne_of_lt (Nat.lt_of_lt_of_le (by have := World.block_lt_of_cell? _ _ hw106_0; first | rwa [add_block] at this | exact this) GW102.out)) | (show (Addr.add _ _).block ≠ _; rw [add_block]; exact Nat.ne_of_lt (Nat.lt_of_lt_of_le (by have := World.block_lt_of_cell? _ _ hw106_0; first | rwa [add_block] at this | exact this) GW102.out)) | (dsimp only; exact Nat.ne_of_lt (Nat.lt_of_lt_of_le (by have := World.block_lt_of_cell? _ _ hw106_0; first | rwa [add_block] at this | exact this) GW102.out))) _).trans (hHeld.2.2.1)))), ((cell_far (p := ⟨gb102, _, none⟩) (by first | exact Nat.ne_of_lt (Nat.lt_of_lt_of_le (by have := World.block_lt_of_cell? _ _ hw106_1; first | rwa [add_block] at this | exact this) GW102.out) | (rw [add_block]; exact Nat.ne_of_lt (Nat.lt_of_lt_of_le (by have := World.block_lt_of_cell? _ _ hw106_1; first | rwa [add_block] at this | exact this) GW102.out)) | (show (Addr.add _ _).block ≠ _; rw [add_block]; exact Nat.ne_of_lt (Nat.lt_of_lt_of_le (by have := World.block_lt_of_cell? _ _ hw106_1; first | rwa [add_block] at this | exact this) GW102.out)) | (dsimp only; exact Nat.ne_of_lt (Nat.lt_of_lt_of_le (by have := World.block_lt_of_cell? _ _ hw106_1; first | rwa [add_block] at this | exact this) GW102.out))) _).trans (((cell_far (p := ⟨gb102, _, none⟩) (by first | exact Nat.ne_of_lt (Nat.lt_of_lt_of_le (by have := World.block_lt_of_cell? _ _ hw106_1; first | rwa [add_block] at this | exact this) GW102.out) | (rw [add_block]; exact Nat.ne_of_lt (Nat.lt_of_lt_of_le (by have := World.block_lt_of_cell? _ _ hw106_1; first | rwa [add_block] at this | exact this) GW102.out)) | (show (Addr.add _ _).block ≠ _; rw [add_block]; exact Nat.ne_of_lt (Nat.lt_of_lt_of_le (by have := World.block_lt_of_cell? _ _ hw106_1; first | rwa [add_block] at this | exact this) GW102.out)) | (dsimp only; exact Nat.ne_of_lt (Nat.lt_of_lt_of_le (by have := World.block_lt_of_cell? _ _ hw106_1; first | rwa [add_block] at this | exact this) GW102.out))) _).trans (hHeld.2.2.2.1)))), ((cell_far (p := ⟨gb102, _, none⟩) (by first | exact Nat.ne_of_lt (Nat.lt_of_lt_of_le (by have := World.block_lt_of_cell? _ _ hw107_0; first | rwa [add_block] at this | exact this) GW102.out) | (rw [add_block]; exact Nat.ne_of_lt (Nat.lt_of_lt_of_le (by have := World.block_lt_of_cell? _ _ hw107_0; first | rwa [add_block] at this | exact this) GW102.out)) | (show (Addr.add _ _).block ≠ _; rw [add_block]; exact Nat.ne_of_lt (Nat.lt_of_lt_of_le (by have := World.block_lt_of_cell? _ _ hw107_0; first | rwa [add_block] at this | exact this) GW102.out)) | (dsimp only; exact Nat.ne_of_lt (Nat.lt_of_lt_of_le (by have := World.block_lt_of_cell? _ _ hw107_0; first | rwa [add_block] at this | exact this) GW102.out))) _).trans (((cell_far (p := ⟨gb102, _, none⟩) (by first | exact Nat.ne_of_lt (Nat.lt_of_lt_of_le (by have := World.block_lt_of_cell? _ _ hw107_0; first | rwa [add_block] at this | exact this) GW102.out) | (rw [add_block]; exact Nat.ne_of_lt (Nat.lt_of_lt_of_le (by have := World.block_lt_of_cell? _ _ hw107_0; first | rwa [add_block] at this | exact this) GW102.out)) | (show (Addr.add _ _).block ≠ _; rw [add_block]; exact Nat.ne_of_lt (Nat.lt_of_lt_of_le (by have := World.block_lt_of_cell? _ _ hw107_0; first | rwa [add_block] at this | exact this) GW102.out)) | (dsimp only; exact Nat.ne_of_lt (Nat.lt_of_lt_of_le (by have := World.block_lt_of_cell? _ _ hw107_0; first | rwa [add_block] at this | exact this) GW102.out))) _).trans (hHeld.2.2.2.2.1)))), ((cell_far (p := ⟨gb102, _, none⟩) (by first | exact Nat.ne_of_lt (Nat.lt_of_lt_of_le (by have := World.block_lt_of_cell? _ _ hw107_1; first | rwa [add_block] at this | exact this) GW102.out) | (rw [add_block]; exact Nat.ne_of_lt (Nat.lt_of_lt_of_le (by have := World.block_lt_of_cell? _ _ hw107_1; first | rwa [add_block] at this | exact this) GW102.out)) | (show (Addr.add _ _).block ≠ _; rw [add_block]; exact Nat.ne_of_lt (Nat.lt_of_lt_of_le (by have := World.block_lt_of_cell? _ _ hw107_1; first | rwa [add_block] at this | exact this) GW102.out)) | (dsimp only; exact Nat.ne_of_lt (Nat.lt_of_lt_of_le (by have := World.block_lt_of_cell? _ _ hw107_1; first | rwa [add_block] at this | exact this) GW102.out))) _).trans (((cell_far (p := ⟨gb102, _, none⟩) (by first | exact Nat.ne_of_lt (Nat.lt_of_lt_of_le (by have := World.block_lt_of_cell? _ _ hw107_1; first | rwa [add_block] at this | exact this) GW102.out) | (rw [add_block]; exact Nat.ne_of_lt (Nat.lt_of_lt_of_le (by have := World.block_lt_of_cell? _ _ hw107_1; first | rwa [add_block] at this | exact this) GW102.out)) | (show (Addr.add _ _).block ≠ _; rw [add_block]; exact Nat.ne_of_lt (Nat.lt_of_lt_of_le (by have := World.block_lt_of_cell? _ _ hw107_1; first | rwa [add_block] at this | exact this) GW102.out)) | (dsimp only; exact Nat.ne_of_lt (Nat.lt_of_lt_of_le (by have := World.block_lt_of_cell? _ _ hw107_1; first | rwa [add_block] at this | exact this) GW102.out))) _).trans (hHeld.2.2.2.2.2))))⟩ (fun hHeld => ?_)
           clear hK K
           refine pure_ (i := 19) (N := some 7) (v := ?_) (a' := ?_) #[true, true, true, true, true, true, true, true, true, true, true, true, true, true, true, true, true, true, true, true] rfl rfl (any_of HT_.out (by kernel_rfl)) (fun _ _ _ h => h) (Or.inl ⟨by rfl, ?_⟩) ?_ ?_
           rotate_left
           ·intro w'
            go_simp
            with_reducible rfl
           rotate_left
           ·simp only [Act.put, List.setIfInBounds_toArray, List.set_cons_zero, List.set_cons_succ, i64_w, i32_w]
            rfl
           refine done_ (done_of HT_.out (by kernel_rfl)) ?_
           try go_wp2
           refine bodyPost_ret (results_ct rfl _ _ gb102 92 #[.int .i64 ((rd_T49 ((rd_T55 l0_0 a1).f2.f1) 0).f0), .int .i64 ((rd_T49 ((rd_T55 l0_0 a1).f2.f1) (ji37)).f0)] (0, 0) _ rfl (by (with_reducible repeat (first | refine blk_drewN ?_ _ | refine blk_drew ?_ | refine blk_alloc ?_ _)); refine blk_put (cs := #[.int .i64 ((rd_T49 ((rd_T55 l0_0 a1).f2.f1) 0).f0), .int .i64 0]) ?_ 1 _ rfl; (with_reducible repeat (first | refine blk_drewN ?_ _ | refine blk_drew ?_ | refine blk_alloc ?_ _)); refine blk_put (cs := #[.int .i64 0, .int .i64 0]) ?_ 0 _ rfl; (with_reducible repeat (first | refine blk_drewN ?_ _ | refine blk_drew ?_ | refine blk_alloc ?_ _)); exact BK102.out) Try.underlying92 rfl (by kernel_rfl)) rfl ?_
           exact ⟨by first | rfl | (simp [errW_none, errW_some] <;> rfl) | (simp only [← hji37]; first | rfl | (simp [errW_none, errW_some] <;> rfl)) | (simp [*, errW_none, errW_some] <;> rfl), by repeat (first | (with_reducible first | exact HB.out | apply below_alloc | apply pw_below_drewN | apply below_drew1 | refine below_set ?_ GE101.out | refine below_set ?_ GE102.out | refine below_set ?_ GE104.out) | exact HB.out)⟩
         ·rw [if_neg c39] at H
          exact absurd H (by simp)
        ·rw [if_neg c38] at H
         exact absurd H (by simp)
       ·rw [if_neg c36] at H
        exact absurd H (by simp)
      ·replace c35 := Bool.eq_false_iff.mpr c35
       subst c35
       have H1 : (if 0 < (((rd_T55 l0_0 a1).f2.f1).length : Int) then (tree_whole.l0 kj16 a2 ((rd_T55 l0_0 a1).f2.f1) (((rd_T55 l0_0 a1).f2.f1).length : Int) 0 l0_0 a0_1 ((rd_T49 ((rd_T55 l0_0 a1).f2.f1) 0).f0) 0) else (none)) = some (r1, r2, r3) := by rw [if_neg (show ¬ (false = true) by decide)] at H; exact H
       clear H
       have H := H1
       clear H1
       by_cases c47 : 0 < (((rd_T55 l0_0 a1).f2.f1).length : Int)
       ·rw [if_pos c47] at H
        have c47b0 : decide (0 < (((rd_T55 l0_0 a1).f2.f1).length : Int)) = true := decide_eq_true c47
        have c47b1 : decide (0 < ((rd_T55 l0_0 a1).f2.f1).length) = true := decide_eq_true (by omega)
        clear c47
        have H' := Aside0.mk H
        clear H
        have p108 : 0 ≤ (0 : Int) := (by omega)
        have q108 : 0 < (((rd_T55 l0_0 a1).f2.f1).length : Int) := of_decide_eq_true (by first | (with_reducible assumption) | assumption)
        obtain ⟨ad108, e108, hx108_0, hx108_1⟩ := at_T49 HR103_3.out 0 p108 q108
        cases e108
        have qi108 : (0 < ((rd_T55 l0_0 a1).f2.f1).length) = True := eq_true (by omega)
        (try rw [show ((0 : Int)).toNat = 0 from rfl] at hx108_0)
        (try rw [show 0 * 2 = 0 from rfl] at hx108_0)
        (try rw [Addr.add_zero'] at hx108_0)
        (try rw [show ((0 : Int)).toNat = 0 from rfl] at hx108_1)
        (try rw [show 0 * 2 = 0 from rfl] at hx108_1)
        (try rw [Addr.add_zero'] at hx108_1)
        replace hx108_0 := (HB.out.cell (World.block_lt_of_cell? w _ hx108_0)).trans hx108_0
        replace hx108_1 := (HB.out.cell (World.block_lt_of_cell? w _ hx108_1)).trans hx108_1
        replace p108 := eq_true p108
        replace q108 := eq_true q108
        go_wp2_with (first | ((with_reducible refine gate_dst (N := 10) rfl ?_); refine box_event ?hg (N := 10) ?hd (cs := #[.int .i64 0, .int .i64 0]) (t := 92) ?hr ?_; (case hd => rfl); (case hg => rfl); (case hr => first | (go_simp; done) | (go_simp; rfl)); intro gb109 hg w48 hbox hb; have n0_ := Aside0.mk (blk_below (g := gb101) (o := .cells #[.slice (some ad103) l0_0.length c0_0, .int .i64 a0_1] 24 (0, 0)) (by (with_reducible repeat (first | refine blk_drewN ?_ _ | refine blk_drew ?_ | refine blk_alloc ?_ _)); exact BK101.out) hb); have n1_ := Aside0.mk (blk_below (g := gb102) (o := .cells #[.int .i64 0, .int .i64 0] 92 (0, 0)) (by (with_reducible repeat (first | refine blk_drewN ?_ _ | refine blk_drew ?_ | refine blk_alloc ?_ _)); exact BK102.out) hb); have n2_ := Aside0.mk (blk_below (g := gb104) (o := .cells #[.bool ((rd_T55 l0_0 a1).f2.f0), .slice (some ad108) ((rd_T55 l0_0 a1).f2.f1).length c103_3] 53 (0, 0)) (by (with_reducible repeat (first | refine blk_drewN ?_ _ | refine blk_drew ?_ | refine blk_alloc ?_ _)); exact BK104.out) hb); have n3_ := Aside0.mk (below_step (by repeat (first | (with_reducible first | exact HB.out | apply below_alloc | apply pw_below_drewN | apply below_drew1 | refine below_set ?_ GE101.out | refine below_set ?_ GE102.out | refine below_set ?_ GE104.out) | exact HB.out)) hb); have n4_ := Aside0.mk (hbox); have n5_ := Aside0.mk ((by rw [hg]; exact (below_size (by repeat (first | (with_reducible first | exact HB.out | apply below_alloc | apply pw_below_drewN | apply below_drew1 | refine below_set ?_ GE101.out | refine below_set ?_ GE102.out | refine below_set ?_ GE104.out) | exact HB.out))) : w.heap.size ≤ gb109)); have n6_ := Aside0.mk ((by rw [hg]; exact (below_size (by repeat (first | (with_reducible first | exact HB.out | apply below_alloc | apply pw_below_drewN | apply below_drew1 | refine below_set ?_ GE101.out | refine below_set ?_ GE102.out | refine below_set ?_ GE104.out) | exact HB.out))) : w.heap.size ≤ gb109)); have n7_ := Aside0.mk ((by rw [hg]; exact Nat.ne_of_lt (blk_lt (g := gb101) (o := .cells #[.slice (some ad103) l0_0.length c0_0, .int .i64 a0_1] 24 (0, 0)) (by (with_reducible repeat (first | refine blk_drewN ?_ _ | refine blk_drew ?_ | refine blk_alloc ?_ _)); exact BK101.out)) : gb101 ≠ gb109)); have n8_ := Aside0.mk ((by rw [hg]; exact Nat.ne_of_gt (blk_lt (g := gb101) (o := .cells #[.slice (some ad103) l0_0.length c0_0, .int .i64 a0_1] 24 (0, 0)) (by (with_reducible repeat (first | refine blk_drewN ?_ _ | refine blk_drew ?_ | refine blk_alloc ?_ _)); exact BK101.out)) : gb109 ≠ gb101)); have n9_ := Aside0.mk ((by rw [hg]; exact Nat.ne_of_lt (blk_lt (g := gb102) (o := .cells #[.int .i64 0, .int .i64 0] 92 (0, 0)) (by (with_reducible repeat (first | refine blk_drewN ?_ _ | refine blk_drew ?_ | refine blk_alloc ?_ _)); exact BK102.out)) : gb102 ≠ gb109)); have n10_ := Aside0.mk ((by rw [hg]; exact Nat.ne_of_gt (blk_lt (g := gb102) (o := .cells #[.int .i64 0, .int .i64 0] 92 (0, 0)) (by (with_reducible repeat (first | refine blk_drewN ?_ _ | refine blk_drew ?_ | refine blk_alloc ?_ _)); exact BK102.out)) : gb109 ≠ gb102)); have n11_ := Aside0.mk ((by rw [hg]; exact Nat.ne_of_lt (blk_lt (g := gb104) (o := .cells #[.bool ((rd_T55 l0_0 a1).f2.f0), .slice (some ad108) ((rd_T55 l0_0 a1).f2.f1).length c103_3] 53 (0, 0)) (by (with_reducible repeat (first | refine blk_drewN ?_ _ | refine blk_drew ?_ | refine blk_alloc ?_ _)); exact BK104.out)) : gb104 ≠ gb109)); have n12_ := Aside0.mk ((by rw [hg]; exact Nat.ne_of_gt (blk_lt (g := gb104) (o := .cells #[.bool ((rd_T55 l0_0 a1).f2.f0), .slice (some ad108) ((rd_T55 l0_0 a1).f2.f1).length c103_3] 53 (0, 0)) (by (with_reducible repeat (first | refine blk_drewN ?_ _ | refine blk_drew ?_ | refine blk_alloc ?_ _)); exact BK104.out)) : gb109 ≠ gb104)); clear BK101; clear BK102; clear BK104; clear HB; have BK101 := n0_; have BK102 := n1_; have BK104 := n2_; have HB := n3_; have BK109 := n4_; have GW109 := n5_; have GE109 := n6_; have NB101_109 := n7_; have NB109_101 := n8_; have NB102_109 := n9_; have NB109_102 := n10_; have NB104_109 := n11_; have NB109_104 := n12_; clear n0_ n1_ n2_ n3_ n4_ n5_ n6_ n7_ n8_ n9_ n10_ n11_ n12_; clear hb hbox hg; have hnb49 := NB109_101.out; have hnc49 := NB101_109.out; have hnb50 := NB109_102.out; have hnc50 := NB102_109.out; have hnb51 := NB109_104.out; have hnc51 := NB104_109.out; have hcz52_0 : w48.cell? ⟨gb109, 0, none⟩ = some (.int .i64 0) := (blk_cell BK109.out 0).trans rfl; have hcz52_1 : w48.cell? ⟨gb109, 1, none⟩ = some (.int .i64 0) := (blk_cell BK109.out 1).trans rfl; have hfz52_0 := blk_frozen BK109.out 0; have hfz52_1 := blk_frozen BK109.out 1))
        go_loopg [62] kj16 (fun kq v62 w' => ∃ (x62_2 : Int) (x103000_2 : Int) (x103001_2 : Int) (x110001_2 : Int), v62 = .int .i64 x62_2 ∧ Aside0 (tree_whole.l0 kq a2 ((rd_T55 l0_0 a1).f2.f1) (((rd_T55 l0_0 a1).f2.f1).length : Int) x62_2 l0_0 a0_1 ((rd_T49 ((rd_T55 l0_0 a1).f2.f1) 0).f0) x110001_2 = some (r1, r2, r3)) ∧ Aside0 (kq ≤ kj16) ∧ Aside0 (w'.heap[gb101]? = some (.cells #[(.slice (some ad103) l0_0.length c0_0), .int .i64 a0_1] 24 (0, 0))) ∧ Aside0 (w'.heap[gb102]? = some (.cells #[.int .i64 x103000_2, .int .i64 x103001_2] 92 (0, 0))) ∧ Aside0 (w'.heap[gb104]? = some (.cells #[.bool ((rd_T55 l0_0 a1).f2.f0), (.slice (some ad108) ((rd_T55 l0_0 a1).f2.f1).length c103_3)] 53 (0, 0))) ∧ Aside0 (w'.heap[gb109]? = some (.cells #[.int .i64 ((rd_T49 ((rd_T55 l0_0 a1).f2.f1) 0).f0), .int .i64 x110001_2] 92 (0, 0))) ∧ Aside0 (Below w.heap.size w w'))
        case atStart => exact ⟨(0), (0), (0), (0), (by first | rfl | (simp; done) | (simp [*]; done)), H', ⟨Nat.le_refl _⟩, ⟨by (with_reducible repeat (first | refine blk_drewN ?_ _ | refine blk_drew ?_ | refine blk_alloc ?_ _)); refine blk_far ?_ NB101_109.out _; (with_reducible repeat (first | refine blk_drewN ?_ _ | refine blk_drew ?_ | refine blk_alloc ?_ _)); refine blk_far ?_ NB101_109.out _; (with_reducible repeat (first | refine blk_drewN ?_ _ | refine blk_drew ?_ | refine blk_alloc ?_ _)); exact BK101.out⟩, ⟨by (with_reducible repeat (first | refine blk_drewN ?_ _ | refine blk_drew ?_ | refine blk_alloc ?_ _)); refine blk_far ?_ NB102_109.out _; (with_reducible repeat (first | refine blk_drewN ?_ _ | refine blk_drew ?_ | refine blk_alloc ?_ _)); refine blk_far ?_ NB102_109.out _; (with_reducible repeat (first | refine blk_drewN ?_ _ | refine blk_drew ?_ | refine blk_alloc ?_ _)); exact BK102.out⟩, ⟨by (with_reducible repeat (first | refine blk_drewN ?_ _ | refine blk_drew ?_ | refine blk_alloc ?_ _)); refine blk_far ?_ NB104_109.out _; (with_reducible repeat (first | refine blk_drewN ?_ _ | refine blk_drew ?_ | refine blk_alloc ?_ _)); refine blk_far ?_ NB104_109.out _; (with_reducible repeat (first | refine blk_drewN ?_ _ | refine blk_drew ?_ | refine blk_alloc ?_ _)); exact BK104.out⟩, ⟨by (with_reducible repeat (first | refine blk_drewN ?_ _ | refine blk_drew ?_ | refine blk_alloc ?_ _)); refine blk_put (cs := #[.int .i64 ((rd_T49 ((rd_T55 l0_0 a1).f2.f1) 0).f0), .int .i64 0]) ?_ 1 _ rfl; (with_reducible repeat (first | refine blk_drewN ?_ _ | refine blk_drew ?_ | refine blk_alloc ?_ _)); refine blk_put (cs := #[.int .i64 0, .int .i64 0]) ?_ 0 _ rfl; (with_reducible repeat (first | refine blk_drewN ?_ _ | refine blk_drew ?_ | refine blk_alloc ?_ _)); exact BK109.out⟩, ⟨by repeat (first | (with_reducible first | exact HB.out | apply below_alloc | apply pw_below_drewN | apply below_drew1 | refine below_set ?_ GE101.out | refine below_set ?_ GE102.out | refine below_set ?_ GE104.out | refine below_set ?_ GE109.out) | exact HB.out)⟩⟩
        case round =>
         clear H'
         try clear c1
         try clear p1
         try clear q1
         try clear hx1
         try clear qi1
         try clear c2
         try clear p2
         try clear q2
         try clear c3
         try clear c4
         try clear c4b0
         try clear c5
         try clear c5b0
         try clear c6
         try clear c6b0
         try clear c6b1
         try clear p6
         try clear c9
         try clear c10
         try clear p10
         try clear q10
         try clear hx10
         try clear qi10
         try clear c12
         try clear c13
         try clear c20
         try clear c23
         try clear c24
         try clear q27
         try clear c28
         try clear c29
         try clear c30
         try clear c32
         try clear c33
         try clear c35
         try clear c36
         try clear c36b0
         try clear c36b1
         try clear c38
         try clear c38b0
         try clear c39
         try clear c39b0
         try clear c40
         try clear c40b0
         try clear c47
         try clear c47b0
         try clear c47b1
         try clear c49
         try clear c50
         try clear c51
         try clear hcz10_0
         try clear hcz10_1
         try clear hcz14_0
         try clear hcz14_1
         try clear hcz15_0
         try clear hcz15_1
         try clear hcz16_0
         try clear hcz16_1
         try clear hcz21_0
         try clear hcz21_1
         try clear hcz25_0
         try clear hcz25_1
         try clear hcz26_0
         try clear hcz26_1
         try clear hcz31_0
         try clear hcz31_1
         try clear hcz34_0
         try clear hcz34_1
         try clear hcz52_0
         try clear hcz52_1
         try clear hfz10_0
         try clear hfz10_1
         try clear hfz14_0
         try clear hfz14_1
         try clear hfz15_0
         try clear hfz15_1
         try clear hfz16_0
         try clear hfz16_1
         try clear hfz21_0
         try clear hfz21_1
         try clear hfz25_0
         try clear hfz25_1
         try clear hfz26_0
         try clear hfz26_1
         try clear hfz31_0
         try clear hfz31_1
         try clear hfz34_0
         try clear hfz34_1
         try clear hfz52_0
         try clear hfz52_1
         try clear hx103_0
         try clear hx103_1
         try clear hx103_2
         try clear hx103_3
         try clear hx105_0
         try clear hx105_1
         try clear hx105_2
         try clear hx105_3
         try clear hx106_0
         try clear hx106_1
         try clear hx107_0
         try clear hx107_1
         try clear hx108_0
         try clear hx108_1
         try clear p1
         try clear p10
         try clear p103
         try clear p105
         try clear p106
         try clear p107
         try clear p108
         try clear p2
         try clear q1
         try clear q10
         try clear q103
         try clear q105
         try clear q106
         try clear q107
         try clear q108
         try clear q2
         try clear q27
         obtain ⟨x62_2, x103000_2, x103001_2, x110001_2, rfl, HA, HK2, BK101, BK102, BK104, BK109, HB⟩ := hrel
         cases gk with
         | zero => exact absurd HA.out (by simp [tree_whole.l0])
         | succ k2 =>
          have H := HA.out
          clear HA
          simp only [tree_whole.l0] at H
          by_cases c53 : x62_2 < (((rd_T55 l0_0 a1).f2.f1).length : Int)
          ·rw [if_pos c53] at H
           have c53b0 : decide (x62_2 < (((rd_T55 l0_0 a1).f2.f1).length : Int)) = true := decide_eq_true c53
           clear c53
           by_cases c54 : 0 ≤ x62_2
           ·rw [if_pos c54] at H
            have c54b0 : decide (0 ≤ x62_2) = true := decide_eq_true c54
            clear c54
            by_cases c55 : x62_2 < (((rd_T55 l0_0 a1).f2.f1).length : Int)
            ·rw [if_pos c55] at H
             have c55b0 : decide (x62_2 < (((rd_T55 l0_0 a1).f2.f1).length : Int)) = true := decide_eq_true c55
             clear c55
             replace H := Option.bind_eq_some_iff.mp H
             obtain ⟨⟨t112, t113, t114⟩, A560, H⟩ := H
             replace H : (if t114 = true then (if t112 = ((rd_T49 ((rd_T55 l0_0 a1).f2.f1) x62_2).f0) then (if x62_2 > 0 then (if x110001_2 ≥ ((rd_T49 ((rd_T55 l0_0 a1).f2.f1) x62_2).f0) then (some (((rd_T49 ((rd_T55 l0_0 a1).f2.f1) 0).f0), x110001_2, false)) else (tree_whole.l0 k2 a2 ((rd_T55 l0_0 a1).f2.f1) (((rd_T55 l0_0 a1).f2.f1).length : Int) (wrap64 (x62_2 + 1)) l0_0 a0_1 ((rd_T49 ((rd_T55 l0_0 a1).f2.f1) 0).f0) t113)) else (tree_whole.l0 k2 a2 ((rd_T55 l0_0 a1).f2.f1) (((rd_T55 l0_0 a1).f2.f1).length : Int) (wrap64 (x62_2 + 1)) l0_0 a0_1 ((rd_T49 ((rd_T55 l0_0 a1).f2.f1) 0).f0) t113)) else (some (((rd_T49 ((rd_T55 l0_0 a1).f2.f1) 0).f0), x110001_2, false))) else (some (((rd_T49 ((rd_T55 l0_0 a1).f2.f1) 0).f0), x110001_2, false))) = some (r1, r2, r3) := H
             have A56 := Aside0.mk A560
             clear A560
             by_cases c57 : t114 = true
             ·subst c57
              have H1 : (if t112 = ((rd_T49 ((rd_T55 l0_0 a1).f2.f1) x62_2).f0) then (if x62_2 > 0 then (if x110001_2 ≥ ((rd_T49 ((rd_T55 l0_0 a1).f2.f1) x62_2).f0) then (some (((rd_T49 ((rd_T55 l0_0 a1).f2.f1) 0).f0), x110001_2, false)) else (tree_whole.l0 k2 a2 ((rd_T55 l0_0 a1).f2.f1) (((rd_T55 l0_0 a1).f2.f1).length : Int) (wrap64 (x62_2 + 1)) l0_0 a0_1 ((rd_T49 ((rd_T55 l0_0 a1).f2.f1) 0).f0) t113)) else (tree_whole.l0 k2 a2 ((rd_T55 l0_0 a1).f2.f1) (((rd_T55 l0_0 a1).f2.f1).length : Int) (wrap64 (x62_2 + 1)) l0_0 a0_1 ((rd_T49 ((rd_T55 l0_0 a1).f2.f1) 0).f0) t113)) else (some (((rd_T49 ((rd_T55 l0_0 a1).f2.f1) 0).f0), x110001_2, false))) = some (r1, r2, r3) := by rw [if_pos rfl] at H; exact H
              clear H
              have H := H1
              clear H1
              by_cases c58 : t112 = ((rd_T49 ((rd_T55 l0_0 a1).f2.f1) x62_2).f0)
              ·rw [if_pos c58] at H
               have c58b0 : (t112 == ((rd_T49 ((rd_T55 l0_0 a1).f2.f1) x62_2).f0)) = true := beq_iff_eq.mpr c58
               have c58b1 : (t112 != ((rd_T49 ((rd_T55 l0_0 a1).f2.f1) x62_2).f0)) = false := bne_eq_false_iff_eq.mpr c58
               clear c58
               by_cases c59 : x62_2 > 0
               ·rw [if_pos c59] at H
                have c59b0 : decide (0 < x62_2) = true := decide_eq_true c59
                clear c59
                by_cases c60 : x110001_2 ≥ ((rd_T49 ((rd_T55 l0_0 a1).f2.f1) x62_2).f0)
                ·rw [if_pos c60] at H
                 have c60b0 : decide (((rd_T49 ((rd_T55 l0_0 a1).f2.f1) x62_2).f0) ≤ x110001_2) = true := decide_eq_true c60
                 clear c60
                 simp only [Option.some.injEq, Prod.mk.injEq] at H
                 obtain ⟨rfl, rfl, rfl⟩ := H
                 have p110 : 0 ≤ (x62_2 : Int) := of_decide_eq_true (by first | (with_reducible assumption) | assumption)
                 have q110 : x62_2 < (((rd_T55 l0_0 a1).f2.f1).length : Int) := of_decide_eq_true (by first | (with_reducible assumption) | assumption)
                 obtain ⟨ad110, e110, hx110_0, hx110_1⟩ := at_T49 HR103_3.out x62_2 p110 q110
                 obtain rfl : ad108 = ad110 := (by injection e110)
                 replace hx110_0 := (HB.out.cell (World.block_lt_of_cell? w _ hx110_0)).trans hx110_0
                 replace hx110_1 := (HB.out.cell (World.block_lt_of_cell? w _ hx110_1)).trans hx110_1
                 replace p110 := eq_true p110
                 replace q110 := eq_true q110
                 go_wp2_with (first | ((with_reducible refine gate_dst (N := 12) rfl ?_); refine box_event ?hg (N := 12) ?hd (cs := #[.int .i64 0, .int .i64 0]) (t := 49) ?hr ?_; (case hd => rfl); (case hg => rfl); (case hr => first | (go_simp; done) | (go_simp; rfl)); intro gb111 hg w61 hbox hb; have n0_ := Aside0.mk (blk_below (g := gb101) (o := .cells #[.slice (some ad103) l0_0.length c0_0, .int .i64 a0_1] 24 (0, 0)) (by (with_reducible repeat (first | refine blk_drewN ?_ _ | refine blk_drew ?_ | refine blk_alloc ?_ _)); exact BK101.out) hb); have n1_ := Aside0.mk (blk_below (g := gb102) (o := .cells #[.int .i64 x103000_2, .int .i64 x103001_2] 92 (0, 0)) (by (with_reducible repeat (first | refine blk_drewN ?_ _ | refine blk_drew ?_ | refine blk_alloc ?_ _)); exact BK102.out) hb); have n2_ := Aside0.mk (blk_below (g := gb104) (o := .cells #[.bool ((rd_T55 l0_0 a1).f2.f0), .slice (some ad108) ((rd_T55 l0_0 a1).f2.f1).length c103_3] 53 (0, 0)) (by (with_reducible repeat (first | refine blk_drewN ?_ _ | refine blk_drew ?_ | refine blk_alloc ?_ _)); exact BK104.out) hb); have n3_ := Aside0.mk (blk_below (g := gb109) (o := .cells #[.int .i64 ((rd_T49 ((rd_T55 l0_0 a1).f2.f1) 0).f0), .int .i64 x110001_2] 92 (0, 0)) (by (with_reducible repeat (first | refine blk_drewN ?_ _ | refine blk_drew ?_ | refine blk_alloc ?_ _)); exact BK109.out) hb); have n4_ := Aside0.mk (below_step (by repeat (first | (with_reducible first | exact HB.out | apply below_alloc | apply pw_below_drewN | apply below_drew1 | refine below_set ?_ GE101.out | refine below_set ?_ GE102.out | refine below_set ?_ GE104.out | refine below_set ?_ GE109.out) | exact HB.out)) hb); have n5_ := Aside0.mk (hbox); have n6_ := Aside0.mk ((by rw [hg]; exact (below_size (by repeat (first | (with_reducible first | exact HB.out | apply below_alloc | apply pw_below_drewN | apply below_drew1 | refine below_set ?_ GE101.out | refine below_set ?_ GE102.out | refine below_set ?_ GE104.out | refine below_set ?_ GE109.out) | exact HB.out))) : w.heap.size ≤ gb111)); have n7_ := Aside0.mk ((by rw [hg]; exact (below_size (by repeat (first | (with_reducible first | exact HB.out | apply below_alloc | apply pw_below_drewN | apply below_drew1 | refine below_set ?_ GE101.out | refine below_set ?_ GE102.out | refine below_set ?_ GE104.out | refine below_set ?_ GE109.out) | exact HB.out))) : w.heap.size ≤ gb111)); have n8_ := Aside0.mk ((by rw [hg]; exact Nat.ne_of_lt (blk_lt (g := gb101) (o := .cells #[.slice (some ad103) l0_0.length c0_0, .int .i64 a0_1] 24 (0, 0)) (by (with_reducible repeat (first | refine blk_drewN ?_ _ | refine blk_drew ?_ | refine blk_alloc ?_ _)); exact BK101.out)) : gb101 ≠ gb111)); have n9_ := Aside0.mk ((by rw [hg]; exact Nat.ne_of_gt (blk_lt (g := gb101) (o := .cells #[.slice (some ad103) l0_0.length c0_0, .int .i64 a0_1] 24 (0, 0)) (by (with_reducible repeat (first | refine blk_drewN ?_ _ | refine blk_drew ?_ | refine blk_alloc ?_ _)); exact BK101.out)) : gb111 ≠ gb101)); have n10_ := Aside0.mk ((by rw [hg]; exact Nat.ne_of_lt (blk_lt (g := gb102) (o := .cells #[.int .i64 x103000_2, .int .i64 x103001_2] 92 (0, 0)) (by (with_reducible repeat (first | refine blk_drewN ?_ _ | refine blk_drew ?_ | refine blk_alloc ?_ _)); exact BK102.out)) : gb102 ≠ gb111)); have n11_ := Aside0.mk ((by rw [hg]; exact Nat.ne_of_gt (blk_lt (g := gb102) (o := .cells #[.int .i64 x103000_2, .int .i64 x103001_2] 92 (0, 0)) (by (with_reducible repeat (first | refine blk_drewN ?_ _ | refine blk_drew ?_ | refine blk_alloc ?_ _)); exact BK102.out)) : gb111 ≠ gb102)); have n12_ := Aside0.mk ((by rw [hg]; exact Nat.ne_of_lt (blk_lt (g := gb104) (o := .cells #[.bool ((rd_T55 l0_0 a1).f2.f0), .slice (some ad108) ((rd_T55 l0_0 a1).f2.f1).length c103_3] 53 (0, 0)) (by (with_reducible repeat (first | refine blk_drewN ?_ _ | refine blk_drew ?_ | refine blk_alloc ?_ _)); exact BK104.out)) : gb104 ≠ gb111)); have n13_ := Aside0.mk ((by rw [hg]; exact Nat.ne_of_gt (blk_lt (g := gb104) (o := .cells #[.bool ((rd_T55 l0_0 a1).f2.f0), .slice (some ad108) ((rd_T55 l0_0 a1).f2.f1).length c103_3] 53 (0, 0)) (by (with_reducible repeat (first | refine blk_drewN ?_ _ | refine blk_drew ?_ | refine blk_alloc ?_ _)); exact BK104.out)) : gb111 ≠ gb104)); have n14_ := Aside0.mk ((by rw [hg]; exact Nat.ne_of_lt (blk_lt (g := gb109) (o := .cells #[.int .i64 ((rd_T49 ((rd_T55 l0_0 a1).f2.f1) 0).f0), .int .i64 x110001_2] 92 (0, 0)) (by (with_reducible repeat (first | refine blk_drewN ?_ _ | refine blk_drew ?_ | refine blk_alloc ?_ _)); exact BK109.out)) : gb109 ≠ gb111)); have n15_ := Aside0.mk ((by rw [hg]; exact Nat.ne_of_gt (blk_lt (g := gb109) (o := .cells #[.int .i64 ((rd_T49 ((rd_T55 l0_0 a1).f2.f1) 0).f0), .int .i64 x110001_2] 92 (0, 0)) (by (with_reducible repeat (first | refine blk_drewN ?_ _ | refine blk_drew ?_ | refine blk_alloc ?_ _)); exact BK109.out)) : gb111 ≠ gb109)); clear BK101; clear BK102; clear BK104; clear BK109; clear HB; have BK101 := n0_; have BK102 := n1_; have BK104 := n2_; have BK109 := n3_; have HB := n4_; have BK111 := n5_; have GW111 := n6_; have GE111 := n7_; have NB101_111 := n8_; have NB111_101 := n9_; have NB102_111 := n10_; have NB111_102 := n11_; have NB104_111 := n12_; have NB111_104 := n13_; have NB109_111 := n14_; have NB111_109 := n15_; clear n0_ n1_ n2_ n3_ n4_ n5_ n6_ n7_ n8_ n9_ n10_ n11_ n12_ n13_ n14_ n15_; clear hb hbox hg; have hnb62 := NB111_101.out; have hnc62 := NB101_111.out; have hnb63 := NB111_102.out; have hnc63 := NB102_111.out; have hnb64 := NB111_104.out; have hnc64 := NB104_111.out; have hnb65 := NB111_109.out; have hnc65 := NB109_111.out; have hcz66_0 : w61.cell? ⟨gb111, 0, none⟩ = some (.int .i64 0) := (blk_cell BK111.out 0).trans rfl; have hcz66_1 : w61.cell? ⟨gb111, 1, none⟩ = some (.int .i64 0) := (blk_cell BK111.out 1).trans rfl; have hfz66_0 := blk_frozen BK111.out 0; have hfz66_1 := blk_frozen BK111.out 1; have hnb67 := NB101_102.out; have hnc67 := NB102_101.out; have hnb68 := NB101_104.out; have hnc68 := NB104_101.out; have hnb69 := NB101_109.out; have hnc69 := NB109_101.out; have hcz70_0 : w61.cell? ⟨gb101, 0, none⟩ = some (.slice (some ad103) l0_0.length c0_0) := (blk_cell BK101.out 0).trans rfl; have hcz70_1 : w61.cell? ⟨gb101, 1, none⟩ = some (.int .i64 a0_1) := (blk_cell BK101.out 1).trans rfl; have hfz70_0 := blk_frozen BK101.out 0; have hfz70_1 := blk_frozen BK101.out 1) | ((with_reducible refine gate_callee (f := 58) rfl ?_); refine goesL_ (some 73) rfl rfl Try.func58 (by kernel_rfl) rfl #[.agg #[.slice (some ad103) l0_0.length c0_0, .int .i64 a0_1], .int .i64 ((rd_T49 ((rd_T55 l0_0 a1).f2.f1) x62_2).f1), .int .i64 (wrap64 (a2 - 1))] rfl (by (try simp only [List.map_toArray, List.map_cons, List.map_nil]); first | done | rfl | (simp only [List.length_drop, List.length_take]; rfl)) ?_; (with_reducible refine (ih k2 (by have := HJ16.out; have := HK2.out; omega) _ _ l0_0 a0_1 ((rd_T49 ((rd_T55 l0_0 a1).f2.f1) x62_2).f1) (wrap64 (a2 - 1)) t112 t113 true _ ?side1 ?side2 A56.out).mono ?_); (case side1 => exact Kd.C_below HR0_0.out (by repeat (first | (with_reducible first | exact HB.out | apply below_alloc | apply pw_below_drewN | apply below_drew1 | refine below_set ?_ GE101.out | refine below_set ?_ GE102.out | refine below_set ?_ GE104.out | refine below_set ?_ GE109.out | refine below_set ?_ GE111.out) | exact HB.out))); (case side2 => exact HC0_0.out); rintro e w71 ⟨rfl, hb⟩; refine ⟨_, rfl, ?_⟩; have n0_ := Aside0.mk (blk_below (g := gb101) (o := .cells #[.slice (some ad103) l0_0.length c0_0, .int .i64 a0_1] 24 (0, 0)) (by (with_reducible repeat (first | refine blk_drewN ?_ _ | refine blk_drew ?_ | refine blk_alloc ?_ _)); refine blk_far ?_ NB101_111.out _; (with_reducible repeat (first | refine blk_drewN ?_ _ | refine blk_drew ?_ | refine blk_alloc ?_ _)); refine blk_far ?_ NB101_111.out _; (with_reducible repeat (first | refine blk_drewN ?_ _ | refine blk_drew ?_ | refine blk_alloc ?_ _)); exact BK101.out) hb); have n1_ := Aside0.mk (blk_below (g := gb102) (o := .cells #[.int .i64 x103000_2, .int .i64 x103001_2] 92 (0, 0)) (by (with_reducible repeat (first | refine blk_drewN ?_ _ | refine blk_drew ?_ | refine blk_alloc ?_ _)); refine blk_far ?_ NB102_111.out _; (with_reducible repeat (first | refine blk_drewN ?_ _ | refine blk_drew ?_ | refine blk_alloc ?_ _)); refine blk_far ?_ NB102_111.out _; (with_reducible repeat (first | refine blk_drewN ?_ _ | refine blk_drew ?_ | refine blk_alloc ?_ _)); exact BK102.out) hb); have n2_ := Aside0.mk (blk_below (g := gb104) (o := .cells #[.bool ((rd_T55 l0_0 a1).f2.f0), .slice (some ad108) ((rd_T55 l0_0 a1).f2.f1).length c103_3] 53 (0, 0)) (by (with_reducible repeat (first | refine blk_drewN ?_ _ | refine blk_drew ?_ | refine blk_alloc ?_ _)); refine blk_far ?_ NB104_111.out _; (with_reducible repeat (first | refine blk_drewN ?_ _ | refine blk_drew ?_ | refine blk_alloc ?_ _)); refine blk_far ?_ NB104_111.out _; (with_reducible repeat (first | refine blk_drewN ?_ _ | refine blk_drew ?_ | refine blk_alloc ?_ _)); exact BK104.out) hb); have n3_ := Aside0.mk (blk_below (g := gb109) (o := .cells #[.int .i64 ((rd_T49 ((rd_T55 l0_0 a1).f2.f1) 0).f0), .int .i64 x110001_2] 92 (0, 0)) (by (with_reducible repeat (first | refine blk_drewN ?_ _ | refine blk_drew ?_ | refine blk_alloc ?_ _)); refine blk_far ?_ NB109_111.out _; (with_reducible repeat (first | refine blk_drewN ?_ _ | refine blk_drew ?_ | refine blk_alloc ?_ _)); refine blk_far ?_ NB109_111.out _; (with_reducible repeat (first | refine blk_drewN ?_ _ | refine blk_drew ?_ | refine blk_alloc ?_ _)); exact BK109.out) hb); have n4_ := Aside0.mk (blk_below (g := gb111) (o := .cells #[.int .i64 ((rd_T49 ((rd_T55 l0_0 a1).f2.f1) x62_2).f0), .int .i64 ((rd_T49 ((rd_T55 l0_0 a1).f2.f1) x62_2).f1)] 49 (0, 0)) (by (with_reducible repeat (first | refine blk_drewN ?_ _ | refine blk_drew ?_ | refine blk_alloc ?_ _)); refine blk_put (cs := #[.int .i64 ((rd_T49 ((rd_T55 l0_0 a1).f2.f1) x62_2).f0), .int .i64 0]) ?_ 1 _ rfl; (with_reducible repeat (first | refine blk_drewN ?_ _ | refine blk_drew ?_ | refine blk_alloc ?_ _)); refine blk_put (cs := #[.int .i64 0, .int .i64 0]) ?_ 0 _ rfl; (with_reducible repeat (first | refine blk_drewN ?_ _ | refine blk_drew ?_ | refine blk_alloc ?_ _)); exact BK111.out) hb); have n5_ := Aside0.mk (below_step (by repeat (first | (with_reducible first | exact HB.out | apply below_alloc | apply pw_below_drewN | apply below_drew1 | refine below_set ?_ GE101.out | refine below_set ?_ GE102.out | refine below_set ?_ GE104.out | refine below_set ?_ GE109.out | refine below_set ?_ GE111.out) | exact HB.out)) hb); clear BK101; clear BK102; clear BK104; clear BK109; clear BK111; clear HB; have BK101 := n0_; have BK102 := n1_; have BK104 := n2_; have BK109 := n3_; have BK111 := n4_; have HB := n5_; clear n0_ n1_ n2_ n3_ n4_ n5_; (try clear hb); (try clear hb2); (try clear hk); (try clear hi)) | ((with_reducible refine gate_dst (N := 13) rfl ?_); refine box_event ?hg (N := 13) ?hd (cs := #[.int .i64 0, .int .i64 0]) (t := 92) ?hr ?_; (case hd => rfl); (case hg => rfl); (case hr => first | (go_simp; done) | (go_simp; rfl)); intro gb115 hg w72 hbox hb; have n0_ := Aside0.mk (blk_below (g := gb101) (o := .cells #[.slice (some ad103) l0_0.length c0_0, .int .i64 a0_1] 24 (0, 0)) (by (with_reducible repeat (first | refine blk_drewN ?_ _ | refine blk_drew ?_ | refine blk_alloc ?_ _)); exact BK101.out) hb); have n1_ := Aside0.mk (blk_below (g := gb102) (o := .cells #[.int .i64 x103000_2, .int .i64 x103001_2] 92 (0, 0)) (by (with_reducible repeat (first | refine blk_drewN ?_ _ | refine blk_drew ?_ | refine blk_alloc ?_ _)); exact BK102.out) hb); have n2_ := Aside0.mk (blk_below (g := gb104) (o := .cells #[.bool ((rd_T55 l0_0 a1).f2.f0), .slice (some ad108) ((rd_T55 l0_0 a1).f2.f1).length c103_3] 53 (0, 0)) (by (with_reducible repeat (first | refine blk_drewN ?_ _ | refine blk_drew ?_ | refine blk_alloc ?_ _)); exact BK104.out) hb); have n3_ := Aside0.mk (blk_below (g := gb109) (o := .cells #[.int .i64 ((rd_T49 ((rd_T55 l0_0 a1).f2.f1) 0).f0), .int .i64 x110001_2] 92 (0, 0)) (by (with_reducible repeat (first | refine blk_drewN ?_ _ | refine blk_drew ?_ | refine blk_alloc ?_ _)); exact BK109.out) hb); have n4_ := Aside0.mk (blk_below (g := gb111) (o := .cells #[.int .i64 ((rd_T49 ((rd_T55 l0_0 a1).f2.f1) x62_2).f0), .int .i64 ((rd_T49 ((rd_T55 l0_0 a1).f2.f1) x62_2).f1)] 49 (0, 0)) (by (with_reducible repeat (first | refine blk_drewN ?_ _ | refine blk_drew ?_ | refine blk_alloc ?_ _)); exact BK111.out) hb); have n5_ := Aside0.mk (below_step (by repeat (first | (with_reducible first | exact HB.out | apply below_alloc | apply pw_below_drewN | apply below_drew1 | refine below_set ?_ GE101.out | refine below_set ?_ GE102.out | refine below_set ?_ GE104.out | refine below_set ?_ GE109.out | refine below_set ?_ GE111.out) | exact HB.out)) hb); have n6_ := Aside0.mk (hbox); have n7_ := Aside0.mk ((by rw [hg]; exact (below_size (by repeat (first | (with_reducible first | exact HB.out | apply below_alloc | apply pw_below_drewN | apply below_drew1 | refine below_set ?_ GE101.out | refine below_set ?_ GE102.out | refine below_set ?_ GE104.out | refine below_set ?_ GE109.out | refine below_set ?_ GE111.out) | exact HB.out))) : w.heap.size ≤ gb115)); have n8_ := Aside0.mk ((by rw [hg]; exact (below_size (by repeat (first | (with_reducible first | exact HB.out | apply below_alloc | apply pw_below_drewN | apply below_drew1 | refine below_set ?_ GE101.out | refine below_set ?_ GE102.out | refine below_set ?_ GE104.out | refine below_set ?_ GE109.out | refine below_set ?_ GE111.out) | exact HB.out))) : w.heap.size ≤ gb115)); have n9_ := Aside0.mk ((by rw [hg]; exact Nat.ne_of_lt (blk_lt (g := gb101) (o := .cells #[.slice (some ad103) l0_0.length c0_0, .int .i64 a0_1] 24 (0, 0)) (by (with_reducible repeat (first | refine blk_drewN ?_ _ | refine blk_drew ?_ | refine blk_alloc ?_ _)); exact BK101.out)) : gb101 ≠ gb115)); have n10_ := Aside0.mk ((by rw [hg]; exact Nat.ne_of_gt (blk_lt (g := gb101) (o := .cells #[.slice (some ad103) l0_0.length c0_0, .int .i64 a0_1] 24 (0, 0)) (by (with_reducible repeat (first | refine blk_drewN ?_ _ | refine blk_drew ?_ | refine blk_alloc ?_ _)); exact BK101.out)) : gb115 ≠ gb101)); have n11_ := Aside0.mk ((by rw [hg]; exact Nat.ne_of_lt (blk_lt (g := gb102) (o := .cells #[.int .i64 x103000_2, .int .i64 x103001_2] 92 (0, 0)) (by (with_reducible repeat (first | refine blk_drewN ?_ _ | refine blk_drew ?_ | refine blk_alloc ?_ _)); exact BK102.out)) : gb102 ≠ gb115)); have n12_ := Aside0.mk ((by rw [hg]; exact Nat.ne_of_gt (blk_lt (g := gb102) (o := .cells #[.int .i64 x103000_2, .int .i64 x103001_2] 92 (0, 0)) (by (with_reducible repeat (first | refine blk_drewN ?_ _ | refine blk_drew ?_ | refine blk_alloc ?_ _)); exact BK102.out)) : gb115 ≠ gb102)); have n13_ := Aside0.mk ((by rw [hg]; exact Nat.ne_of_lt (blk_lt (g := gb104) (o := .cells #[.bool ((rd_T55 l0_0 a1).f2.f0), .slice (some ad108) ((rd_T55 l0_0 a1).f2.f1).length c103_3] 53 (0, 0)) (by (with_reducible repeat (first | refine blk_drewN ?_ _ | refine blk_drew ?_ | refine blk_alloc ?_ _)); exact BK104.out)) : gb104 ≠ gb115)); have n14_ := Aside0.mk ((by rw [hg]; exact Nat.ne_of_gt (blk_lt (g := gb104) (o := .cells #[.bool ((rd_T55 l0_0 a1).f2.f0), .slice (some ad108) ((rd_T55 l0_0 a1).f2.f1).length c103_3] 53 (0, 0)) (by (with_reducible repeat (first | refine blk_drewN ?_ _ | refine blk_drew ?_ | refine blk_alloc ?_ _)); exact BK104.out)) : gb115 ≠ gb104)); have n15_ := Aside0.mk ((by rw [hg]; exact Nat.ne_of_lt (blk_lt (g := gb109) (o := .cells #[.int .i64 ((rd_T49 ((rd_T55 l0_0 a1).f2.f1) 0).f0), .int .i64 x110001_2] 92 (0, 0)) (by (with_reducible repeat (first | refine blk_drewN ?_ _ | refine blk_drew ?_ | refine blk_alloc ?_ _)); exact BK109.out)) : gb109 ≠ gb115)); have n16_ := Aside0.mk ((by rw [hg]; exact Nat.ne_of_gt (blk_lt (g := gb109) (o := .cells #[.int .i64 ((rd_T49 ((rd_T55 l0_0 a1).f2.f1) 0).f0), .int .i64 x110001_2] 92 (0, 0)) (by (with_reducible repeat (first | refine blk_drewN ?_ _ | refine blk_drew ?_ | refine blk_alloc ?_ _)); exact BK109.out)) : gb115 ≠ gb109)); have n17_ := Aside0.mk ((by rw [hg]; exact Nat.ne_of_lt (blk_lt (g := gb111) (o := .cells #[.int .i64 ((rd_T49 ((rd_T55 l0_0 a1).f2.f1) x62_2).f0), .int .i64 ((rd_T49 ((rd_T55 l0_0 a1).f2.f1) x62_2).f1)] 49 (0, 0)) (by (with_reducible repeat (first | refine blk_drewN ?_ _ | refine blk_drew ?_ | refine blk_alloc ?_ _)); exact BK111.out)) : gb111 ≠ gb115)); have n18_ := Aside0.mk ((by rw [hg]; exact Nat.ne_of_gt (blk_lt (g := gb111) (o := .cells #[.int .i64 ((rd_T49 ((rd_T55 l0_0 a1).f2.f1) x62_2).f0), .int .i64 ((rd_T49 ((rd_T55 l0_0 a1).f2.f1) x62_2).f1)] 49 (0, 0)) (by (with_reducible repeat (first | refine blk_drewN ?_ _ | refine blk_drew ?_ | refine blk_alloc ?_ _)); exact BK111.out)) : gb115 ≠ gb111)); clear BK101; clear BK102; clear BK104; clear BK109; clear BK111; clear HB; have BK101 := n0_; have BK102 := n1_; have BK104 := n2_; have BK109 := n3_; have BK111 := n4_; have HB := n5_; have BK115 := n6_; have GW115 := n7_; have GE115 := n8_; have NB101_115 := n9_; have NB115_101 := n10_; have NB102_115 := n11_; have NB115_102 := n12_; have NB104_115 := n13_; have NB115_104 := n14_; have NB109_115 := n15_; have NB115_109 := n16_; have NB111_115 := n17_; have NB115_111 := n18_; clear n0_ n1_ n2_ n3_ n4_ n5_ n6_ n7_ n8_ n9_ n10_ n11_ n12_ n13_ n14_ n15_ n16_ n17_ n18_; clear hb hbox hg; have hnb73 := NB115_101.out; have hnc73 := NB101_115.out; have hnb74 := NB115_102.out; have hnc74 := NB102_115.out; have hnb75 := NB115_104.out; have hnc75 := NB104_115.out; have hnb76 := NB115_109.out; have hnc76 := NB109_115.out; have hnb77 := NB115_111.out; have hnc77 := NB111_115.out; have hcz78_0 : w72.cell? ⟨gb115, 0, none⟩ = some (.int .i64 0) := (blk_cell BK115.out 0).trans rfl; have hcz78_1 : w72.cell? ⟨gb115, 1, none⟩ = some (.int .i64 0) := (blk_cell BK115.out 1).trans rfl; have hfz78_0 := blk_frozen BK115.out 0; have hfz78_1 := blk_frozen BK115.out 1; have hcz79_0 : w72.cell? ⟨gb111, 0, none⟩ = some (.int .i64 ((rd_T49 ((rd_T55 l0_0 a1).f2.f1) x62_2).f0)) := (blk_cell BK111.out 0).trans rfl; have hcz79_1 : w72.cell? ⟨gb111, 1, none⟩ = some (.int .i64 ((rd_T49 ((rd_T55 l0_0 a1).f2.f1) x62_2).f1)) := (blk_cell BK111.out 1).trans rfl; have hfz79_0 := blk_frozen BK111.out 0; have hfz79_1 := blk_frozen BK111.out 1; have hnb80 := NB109_102.out; have hnc80 := NB102_109.out; have hnb81 := NB109_104.out; have hnc81 := NB104_109.out; have hcz82_0 : w72.cell? ⟨gb109, 0, none⟩ = some (.int .i64 ((rd_T49 ((rd_T55 l0_0 a1).f2.f1) 0).f0)) := (blk_cell BK109.out 0).trans rfl; have hcz82_1 : w72.cell? ⟨gb109, 1, none⟩ = some (.int .i64 x110001_2) := (blk_cell BK109.out 1).trans rfl; have hfz82_0 := blk_frozen BK109.out 0; have hfz82_1 := blk_frozen BK109.out 1; have hnb83 := NB102_104.out; have hnc83 := NB104_102.out; have hcz84_0 : w72.cell? ⟨gb102, 0, none⟩ = some (.int .i64 x103000_2) := (blk_cell BK102.out 0).trans rfl; have hcz84_1 : w72.cell? ⟨gb102, 1, none⟩ = some (.int .i64 x103001_2) := (blk_cell BK102.out 1).trans rfl; have hfz84_0 := blk_frozen BK102.out 0; have hfz84_1 := blk_frozen BK102.out 1))
                 refine bodyPost_ret (results_ct rfl _ _ gb102 92 #[.int .i64 ((rd_T49 ((rd_T55 l0_0 a1).f2.f1) 0).f0), .int .i64 x110001_2] (0, 0) _ rfl (by (with_reducible repeat (first | refine blk_drewN ?_ _ | refine blk_drew ?_ | refine blk_alloc ?_ _)); refine blk_put (cs := #[.int .i64 ((rd_T49 ((rd_T55 l0_0 a1).f2.f1) 0).f0), .int .i64 x103001_2]) ?_ 1 _ rfl; (with_reducible repeat (first | refine blk_drewN ?_ _ | refine blk_drew ?_ | refine blk_alloc ?_ _)); refine blk_put (cs := #[.int .i64 x103000_2, .int .i64 x103001_2]) ?_ 0 _ rfl; (with_reducible repeat (first | refine blk_drewN ?_ _ | refine blk_drew ?_ | refine blk_alloc ?_ _)); refine blk_far ?_ NB102_115.out _; (with_reducible repeat (first | refine blk_drewN ?_ _ | refine blk_drew ?_ | refine blk_alloc ?_ _)); refine blk_far ?_ NB102_115.out _; (with_reducible repeat (first | refine blk_drewN ?_ _ | refine blk_drew ?_ | refine blk_alloc ?_ _)); exact BK102.out) Try.underlying92 rfl (by kernel_rfl)) rfl ?_
                 exact ⟨by first | rfl | (simp [errW_none, errW_some] <;> rfl) | (simp [*, errW_none, errW_some] <;> rfl), by repeat (first | (with_reducible first | exact HB.out | apply below_alloc | apply pw_below_drewN | apply below_drew1 | refine below_set ?_ GE101.out | refine below_set ?_ GE102.out | refine below_set ?_ GE104.out | refine below_set ?_ GE109.out | refine below_set ?_ GE111.out | refine below_set ?_ GE115.out) | exact HB.out)⟩
                ·rw [if_neg c60] at H
                 have c60b0 : decide (((rd_T49 ((rd_T55 l0_0 a1).f2.f1) x62_2).f0) ≤ x110001_2) = false := decide_eq_false c60
                 clear c60
                 have H' := Aside0.mk H
                 clear H
                 have p110 : 0 ≤ (x62_2 : Int) := of_decide_eq_true (by first | (with_reducible assumption) | assumption)
                 have q110 : x62_2 < (((rd_T55 l0_0 a1).f2.f1).length : Int) := of_decide_eq_true (by first | (with_reducible assumption) | assumption)
                 obtain ⟨ad110, e110, hx110_0, hx110_1⟩ := at_T49 HR103_3.out x62_2 p110 q110
                 obtain rfl : ad108 = ad110 := (by injection e110)
                 replace hx110_0 := (HB.out.cell (World.block_lt_of_cell? w _ hx110_0)).trans hx110_0
                 replace hx110_1 := (HB.out.cell (World.block_lt_of_cell? w _ hx110_1)).trans hx110_1
                 replace p110 := eq_true p110
                 replace q110 := eq_true q110
                 go_wp2_with (first | ((with_reducible refine gate_dst (N := 12) rfl ?_); refine box_event ?hg (N := 12) ?hd (cs := #[.int .i64 0, .int .i64 0]) (t := 49) ?hr ?_; (case hd => rfl); (case hg => rfl); (case hr => first | (go_simp; done) | (go_simp; rfl)); intro gb111 hg w85 hbox hb; have n0_ := Aside0.mk (blk_below (g := gb101) (o := .cells #[.slice (some ad103) l0_0.length c0_0, .int .i64 a0_1] 24 (0, 0)) (by (with_reducible repeat (first | refine blk_drewN ?_ _ | refine blk_drew ?_ | refine blk_alloc ?_ _)); exact BK101.out) hb); have n1_ := Aside0.mk (blk_below (g := gb102) (o := .cells #[.int .i64 x103000_2, .int .i64 x103001_2] 92 (0, 0)) (by (with_reducible repeat (first | refine blk_drewN ?_ _ | refine blk_drew ?_ | refine blk_alloc ?_ _)); exact BK102.out) hb); have n2_ := Aside0.mk (blk_below (g := gb104) (o := .cells #[.bool ((rd_T55 l0_0 a1).f2.f0), .slice (some ad108) ((rd_T55 l0_0 a1).f2.f1).length c103_3] 53 (0, 0)) (by (with_reducible repeat (first | refine blk_drewN ?_ _ | refine blk_drew ?_ | refine blk_alloc ?_ _)); exact BK104.out) hb); have n3_ := Aside0.mk (blk_below (g := gb109) (o := .cells #[.int .i64 ((rd_T49 ((rd_T55 l0_0 a1).f2.f1) 0).f0), .int .i64 x110001_2] 92 (0, 0)) (by (with_reducible repeat (first | refine blk_drewN ?_ _ | refine blk_drew ?_ | refine blk_alloc ?_ _)); exact BK109.out) hb); have n4_ := Aside0.mk (below_step (by repeat (first | (with_reducible first | exact HB.out | apply below_alloc | apply pw_below_drewN | apply below_drew1 | refine below_set ?_ GE101.out | refine below_set ?_ GE102.out | refine below_set ?_ GE104.out | refine below_set ?_ GE109.out) | exact HB.out)) hb); have n5_ := Aside0.mk (hbox); have n6_ := Aside0.mk ((by rw [hg]; exact (below_size (by repeat (first | (with_reducible first | exact HB.out | apply below_alloc | apply pw_below_drewN | apply below_drew1 | refine below_set ?_ GE101.out | refine below_set ?_ GE102.out | refine below_set ?_ GE104.out | refine below_set ?_ GE109.out) | exact HB.out))) : w.heap.size ≤ gb111)); have n7_ := Aside0.mk ((by rw [hg]; exact (below_size (by repeat (first | (with_reducible first | exact HB.out | apply below_alloc | apply pw_below_drewN | apply below_drew1 | refine below_set ?_ GE101.out | refine below_set ?_ GE102.out | refine below_set ?_ GE104.out | refine below_set ?_ GE109.out) | exact HB.out))) : w.heap.size ≤ gb111)); have n8_ := Aside0.mk ((by rw [hg]; exact Nat.ne_of_lt (blk_lt (g := gb101) (o := .cells #[.slice (some ad103) l0_0.length c0_0, .int .i64 a0_1] 24 (0, 0)) (by (with_reducible repeat (first | refine blk_drewN ?_ _ | refine blk_drew ?_ | refine blk_alloc ?_ _)); exact BK101.out)) : gb101 ≠ gb111)); have n9_ := Aside0.mk ((by rw [hg]; exact Nat.ne_of_gt (blk_lt (g := gb101) (o := .cells #[.slice (some ad103) l0_0.length c0_0, .int .i64 a0_1] 24 (0, 0)) (by (with_reducible repeat (first | refine blk_drewN ?_ _ | refine blk_drew ?_ | refine blk_alloc ?_ _)); exact BK101.out)) : gb111 ≠ gb101)); have n10_ := Aside0.mk ((by rw [hg]; exact Nat.ne_of_lt (blk_lt (g := gb102) (o := .cells #[.int .i64 x103000_2, .int .i64 x103001_2] 92 (0, 0)) (by (with_reducible repeat (first | refine blk_drewN ?_ _ | refine blk_drew ?_ | refine blk_alloc ?_ _)); exact BK102.out)) : gb102 ≠ gb111)); have n11_ := Aside0.mk ((by rw [hg]; exact Nat.ne_of_gt (blk_lt (g := gb102) (o := .cells #[.int .i64 x103000_2, .int .i64 x103001_2] 92 (0, 0)) (by (with_reducible repeat (first | refine blk_drewN ?_ _ | refine blk_drew ?_ | refine blk_alloc ?_ _)); exact BK102.out)) : gb111 ≠ gb102)); have n12_ := Aside0.mk ((by rw [hg]; exact Nat.ne_of_lt (blk_lt (g := gb104) (o := .cells #[.bool ((rd_T55 l0_0 a1).f2.f0), .slice (some ad108) ((rd_T55 l0_0 a1).f2.f1).length c103_3] 53 (0, 0)) (by (with_reducible repeat (first | refine blk_drewN ?_ _ | refine blk_drew ?_ | refine blk_alloc ?_ _)); exact BK104.out)) : gb104 ≠ gb111)); have n13_ := Aside0.mk ((by rw [hg]; exact Nat.ne_of_gt (blk_lt (g := gb104) (o := .cells #[.bool ((rd_T55 l0_0 a1).f2.f0), .slice (some ad108) ((rd_T55 l0_0 a1).f2.f1).length c103_3] 53 (0, 0)) (by (with_reducible repeat (first | refine blk_drewN ?_ _ | refine blk_drew ?_ | refine blk_alloc ?_ _)); exact BK104.out)) : gb111 ≠ gb104)); have n14_ := Aside0.mk ((by rw [hg]; exact Nat.ne_of_lt (blk_lt (g := gb109) (o := .cells #[.int .i64 ((rd_T49 ((rd_T55 l0_0 a1).f2.f1) 0).f0), .int .i64 x110001_2] 92 (0, 0)) (by (with_reducible repeat (first | refine blk_drewN ?_ _ | refine blk_drew ?_ | refine blk_alloc ?_ _)); exact BK109.out)) : gb109 ≠ gb111)); have n15_ := Aside0.mk ((by rw [hg]; exact Nat.ne_of_gt (blk_lt (g := gb109) (o := .cells #[.int .i64 ((rd_T49 ((rd_T55 l0_0 a1).f2.f1) 0).f0), .int .i64 x110001_2] 92 (0, 0)) (by (with_reducible repeat (first | refine blk_drewN ?_ _ | refine blk_drew ?_ | refine blk_alloc ?_ _)); exact BK109.out)) : gb111 ≠ gb109)); clear BK101; clear BK102; clear BK104; clear BK109; clear HB; have BK101 := n0_; have BK102 := n1_; have BK104 := n2_; have BK109 := n3_; have HB := n4_; have BK111 := n5_; have GW111 := n6_; have GE111 := n7_; have NB101_111 := n8_; have NB111_101 := n9_; have NB102_111 := n10_; have NB111_102 := n11_; have NB104_111 := n12_; have NB111_104 := n13_; have NB109_111 := n14_; have NB111_109 := n15_; clear n0_ n1_ n2_ n3_ n4_ n5_ n6_ n7_ n8_ n9_ n10_ n11_ n12_ n13_ n14_ n15_; clear hb hbox hg; have hnb86 := NB111_101.out; have hnc86 := NB101_111.out; have hnb87 := NB111_102.out; have hnc87 := NB102_111.out; have hnb88 := NB111_104.out; have hnc88 := NB104_111.out; have hnb89 := NB111_109.out; have hnc89 := NB109_111.out; have hcz90_0 : w85.cell? ⟨gb111, 0, none⟩ = some (.int .i64 0) := (blk_cell BK111.out 0).trans rfl; have hcz90_1 : w85.cell? ⟨gb111, 1, none⟩ = some (.int .i64 0) := (blk_cell BK111.out 1).trans rfl; have hfz90_0 := blk_frozen BK111.out 0; have hfz90_1 := blk_frozen BK111.out 1; have hnb91 := NB101_102.out; have hnc91 := NB102_101.out; have hnb92 := NB101_104.out; have hnc92 := NB104_101.out; have hnb93 := NB101_109.out; have hnc93 := NB109_101.out; have hcz94_0 : w85.cell? ⟨gb101, 0, none⟩ = some (.slice (some ad103) l0_0.length c0_0) := (blk_cell BK101.out 0).trans rfl; have hcz94_1 : w85.cell? ⟨gb101, 1, none⟩ = some (.int .i64 a0_1) := (blk_cell BK101.out 1).trans rfl; have hfz94_0 := blk_frozen BK101.out 0; have hfz94_1 := blk_frozen BK101.out 1) | ((with_reducible refine gate_callee (f := 58) rfl ?_); refine goesL_ (some 73) rfl rfl Try.func58 (by kernel_rfl) rfl #[.agg #[.slice (some ad103) l0_0.length c0_0, .int .i64 a0_1], .int .i64 ((rd_T49 ((rd_T55 l0_0 a1).f2.f1) x62_2).f1), .int .i64 (wrap64 (a2 - 1))] rfl (by (try simp only [List.map_toArray, List.map_cons, List.map_nil]); first | done | rfl | (simp only [List.length_drop, List.length_take]; rfl)) ?_; (with_reducible refine (ih k2 (by have := HJ16.out; have := HK2.out; omega) _ _ l0_0 a0_1 ((rd_T49 ((rd_T55 l0_0 a1).f2.f1) x62_2).f1) (wrap64 (a2 - 1)) t112 t113 true _ ?side1 ?side2 A56.out).mono ?_); (case side1 => exact Kd.C_below HR0_0.out (by repeat (first | (with_reducible first | exact HB.out | apply below_alloc | apply pw_below_drewN | apply below_drew1 | refine below_set ?_ GE101.out | refine below_set ?_ GE102.out | refine below_set ?_ GE104.out | refine below_set ?_ GE109.out | refine below_set ?_ GE111.out) | exact HB.out))); (case side2 => exact HC0_0.out); rintro e w95 ⟨rfl, hb⟩; refine ⟨_, rfl, ?_⟩; have n0_ := Aside0.mk (blk_below (g := gb101) (o := .cells #[.slice (some ad103) l0_0.length c0_0, .int .i64 a0_1] 24 (0, 0)) (by (with_reducible repeat (first | refine blk_drewN ?_ _ | refine blk_drew ?_ | refine blk_alloc ?_ _)); refine blk_far ?_ NB101_111.out _; (with_reducible repeat (first | refine blk_drewN ?_ _ | refine blk_drew ?_ | refine blk_alloc ?_ _)); refine blk_far ?_ NB101_111.out _; (with_reducible repeat (first | refine blk_drewN ?_ _ | refine blk_drew ?_ | refine blk_alloc ?_ _)); exact BK101.out) hb); have n1_ := Aside0.mk (blk_below (g := gb102) (o := .cells #[.int .i64 x103000_2, .int .i64 x103001_2] 92 (0, 0)) (by (with_reducible repeat (first | refine blk_drewN ?_ _ | refine blk_drew ?_ | refine blk_alloc ?_ _)); refine blk_far ?_ NB102_111.out _; (with_reducible repeat (first | refine blk_drewN ?_ _ | refine blk_drew ?_ | refine blk_alloc ?_ _)); refine blk_far ?_ NB102_111.out _; (with_reducible repeat (first | refine blk_drewN ?_ _ | refine blk_drew ?_ | refine blk_alloc ?_ _)); exact BK102.out) hb); have n2_ := Aside0.mk (blk_below (g := gb104) (o := .cells #[.bool ((rd_T55 l0_0 a1).f2.f0), .slice (some ad108) ((rd_T55 l0_0 a1).f2.f1).length c103_3] 53 (0, 0)) (by (with_reducible repeat (first | refine blk_drewN ?_ _ | refine blk_drew ?_ | refine blk_alloc ?_ _)); refine blk_far ?_ NB104_111.out _; (with_reducible repeat (first | refine blk_drewN ?_ _ | refine blk_drew ?_ | refine blk_alloc ?_ _)); refine blk_far ?_ NB104_111.out _; (with_reducible repeat (first | refine blk_drewN ?_ _ | refine blk_drew ?_ | refine blk_alloc ?_ _)); exact BK104.out) hb); have n3_ := Aside0.mk (blk_below (g := gb109) (o := .cells #[.int .i64 ((rd_T49 ((rd_T55 l0_0 a1).f2.f1) 0).f0), .int .i64 x110001_2] 92 (0, 0)) (by (with_reducible repeat (first | refine blk_drewN ?_ _ | refine blk_drew ?_ | refine blk_alloc ?_ _)); refine blk_far ?_ NB109_111.out _; (with_reducible repeat (first | refine blk_drewN ?_ _ | refine blk_drew ?_ | refine blk_alloc ?_ _)); refine blk_far ?_ NB109_111.out _; (with_reducible repeat (first | refine blk_drewN ?_ _ | refine blk_drew ?_ | refine blk_alloc ?_ _)); exact BK109.out) hb); have n4_ := Aside0.mk (blk_below (g := gb111) (o := .cells #[.int .i64 ((rd_T49 ((rd_T55 l0_0 a1).f2.f1) x62_2).f0), .int .i64 ((rd_T49 ((rd_T55 l0_0 a1).f2.f1) x62_2).f1)] 49 (0, 0)) (by (with_reducible repeat (first | refine blk_drewN ?_ _ | refine blk_drew ?_ | refine blk_alloc ?_ _)); refine blk_put (cs := #[.int .i64 ((rd_T49 ((rd_T55 l0_0 a1).f2.f1) x62_2).f0), .int .i64 0]) ?_ 1 _ rfl; (with_reducible repeat (first | refine blk_drewN ?_ _ | refine blk_drew ?_ | refine blk_alloc ?_ _)); refine blk_put (cs := #[.int .i64 0, .int .i64 0]) ?_ 0 _ rfl; (with_reducible repeat (first | refine blk_drewN ?_ _ | refine blk_drew ?_ | refine blk_alloc ?_ _)); exact BK111.out) hb); have n5_ := Aside0.mk (below_step (by repeat (first | (with_reducible first | exact HB.out | apply below_alloc | apply pw_below_drewN | apply below_drew1 | refine below_set ?_ GE101.out | refine below_set ?_ GE102.out | refine below_set ?_ GE104.out | refine below_set ?_ GE109.out | refine below_set ?_ GE111.out) | exact HB.out)) hb); clear BK101; clear BK102; clear BK104; clear BK109; clear BK111; clear HB; have BK101 := n0_; have BK102 := n1_; have BK104 := n2_; have BK109 := n3_; have BK111 := n4_; have HB := n5_; clear n0_ n1_ n2_ n3_ n4_ n5_; (try clear hb); (try clear hb2); (try clear hk); (try clear hi)) | ((with_reducible refine gate_dst (N := 13) rfl ?_); refine box_event ?hg (N := 13) ?hd (cs := #[.int .i64 0, .int .i64 0]) (t := 92) ?hr ?_; (case hd => rfl); (case hg => rfl); (case hr => first | (go_simp; done) | (go_simp; rfl)); intro gb115 hg w96 hbox hb; have n0_ := Aside0.mk (blk_below (g := gb101) (o := .cells #[.slice (some ad103) l0_0.length c0_0, .int .i64 a0_1] 24 (0, 0)) (by (with_reducible repeat (first | refine blk_drewN ?_ _ | refine blk_drew ?_ | refine blk_alloc ?_ _)); exact BK101.out) hb); have n1_ := Aside0.mk (blk_below (g := gb102) (o := .cells #[.int .i64 x103000_2, .int .i64 x103001_2] 92 (0, 0)) (by (with_reducible repeat (first | refine blk_drewN ?_ _ | refine blk_drew ?_ | refine blk_alloc ?_ _)); exact BK102.out) hb); have n2_ := Aside0.mk (blk_below (g := gb104) (o := .cells #[.bool ((rd_T55 l0_0 a1).f2.f0), .slice (some ad108) ((rd_T55 l0_0 a1).f2.f1).length c103_3] 53 (0, 0)) (by (with_reducible repeat (first | refine blk_drewN ?_ _ | refine blk_drew ?_ | refine blk_alloc ?_ _)); exact BK104.out) hb); have n3_ := Aside0.mk (blk_below (g := gb109) (o := .cells #[.int .i64 ((rd_T49 ((rd_T55 l0_0 a1).f2.f1) 0).f0), .int .i64 x110001_2] 92 (0, 0)) (by (with_reducible repeat (first | refine blk_drewN ?_ _ | refine blk_drew ?_ | refine blk_alloc ?_ _)); exact BK109.out) hb); have n4_ := Aside0.mk (blk_below (g := gb111) (o := .cells #[.int .i64 ((rd_T49 ((rd_T55 l0_0 a1).f2.f1) x62_2).f0), .int .i64 ((rd_T49 ((rd_T55 l0_0 a1).f2.f1) x62_2).f1)] 49 (0, 0)) (by (with_reducible repeat (first | refine blk_drewN ?_ _ | refine blk_drew ?_ | refine blk_alloc ?_ _)); exact BK111.out) hb); have n5_ := Aside0.mk (below_step (by repeat (first | (with_reducible first | exact HB.out | apply below_alloc | apply pw_below_drewN | apply below_drew1 | refine below_set ?_ GE101.out | refine below_set ?_ GE102.out | refine below_set ?_ GE104.out | refine below_set ?_ GE109.out | refine below_set ?_ GE111.out) | exact HB.out)) hb); have n6_ := Aside0.mk (hbox); have n7_ := Aside0.mk ((by rw [hg]; exact (below_size (by repeat (first | (with_reducible first | exact HB.out | apply below_alloc | apply pw_below_drewN | apply below_drew1 | refine below_set ?_ GE101.out | refine below_set ?_ GE102.out | refine below_set ?_ GE104.out | refine below_set ?_ GE109.out | refine below_set ?_ GE111.out) | exact HB.out))) : w.heap.size ≤ gb115)); have n8_ := Aside0.mk ((by rw [hg]; exact (below_size (by repeat (first | (with_reducible first | exact HB.out | apply below_alloc | apply pw_below_drewN | apply below_drew1 | refine below_set ?_ GE101.out | refine below_set ?_ GE102.out | refine below_set ?_ GE104.out | refine below_set ?_ GE109.out | refine below_set ?_ GE111.out) | exact HB.out))) : w.heap.size ≤ gb115)); have n9_ := Aside0.mk ((by rw [hg]; exact Nat.ne_of_lt (blk_lt (g := gb101) (o := .cells #[.slice (some ad103) l0_0.length c0_0, .int .i64 a0_1] 24 (0, 0)) (by (with_reducible repeat (first | refine blk_drewN ?_ _ | refine blk_drew ?_ | refine blk_alloc ?_ _)); exact BK101.out)) : gb101 ≠ gb115)); have n10_ := Aside0.mk ((by rw [hg]; exact Nat.ne_of_gt (blk_lt (g := gb101) (o := .cells #[.slice (some ad103) l0_0.length c0_0, .int .i64 a0_1] 24 (0, 0)) (by (with_reducible repeat (first | refine blk_drewN ?_ _ | refine blk_drew ?_ | refine blk_alloc ?_ _)); exact BK101.out)) : gb115 ≠ gb101)); have n11_ := Aside0.mk ((by rw [hg]; exact Nat.ne_of_lt (blk_lt (g := gb102) (o := .cells #[.int .i64 x103000_2, .int .i64 x103001_2] 92 (0, 0)) (by (with_reducible repeat (first | refine blk_drewN ?_ _ | refine blk_drew ?_ | refine blk_alloc ?_ _)); exact BK102.out)) : gb102 ≠ gb115)); have n12_ := Aside0.mk ((by rw [hg]; exact Nat.ne_of_gt (blk_lt (g := gb102) (o := .cells #[.int .i64 x103000_2, .int .i64 x103001_2] 92 (0, 0)) (by (with_reducible repeat (first | refine blk_drewN ?_ _ | refine blk_drew ?_ | refine blk_alloc ?_ _)); exact BK102.out)) : gb115 ≠ gb102)); have n13_ := Aside0.mk ((by rw [hg]; exact Nat.ne_of_lt (blk_lt (g := gb104) (o := .cells #[.bool ((rd_T55 l0_0 a1).f2.f0), .slice (some ad108) ((rd_T55 l0_0 a1).f2.f1).length c103_3] 53 (0, 0)) (by (with_reducible repeat (first | refine blk_drewN ?_ _ | refine blk_drew ?_ | refine blk_alloc ?_ _)); exact BK104.out)) : gb104 ≠ gb115)); have n14_ := Aside0.mk ((by rw [hg]; exact Nat.ne_of_gt (blk_lt (g := gb104) (o := .cells #[.bool ((rd_T55 l0_0 a1).f2.f0), .slice (some ad108) ((rd_T55 l0_0 a1).f2.f1).length c103_3] 53 (0, 0)) (by (with_reducible repeat (first | refine blk_drewN ?_ _ | refine blk_drew ?_ | refine blk_alloc ?_ _)); exact BK104.out)) : gb115 ≠ gb104)); have n15_ := Aside0.mk ((by rw [hg]; exact Nat.ne_of_lt (blk_lt (g := gb109) (o := .cells #[.int .i64 ((rd_T49 ((rd_T55 l0_0 a1).f2.f1) 0).f0), .int .i64 x110001_2] 92 (0, 0)) (by (with_reducible repeat (first | refine blk_drewN ?_ _ | refine blk_drew ?_ | refine blk_alloc ?_ _)); exact BK109.out)) : gb109 ≠ gb115)); have n16_ := Aside0.mk ((by rw [hg]; exact Nat.ne_of_gt (blk_lt (g := gb109) (o := .cells #[.int .i64 ((rd_T49 ((rd_T55 l0_0 a1).f2.f1) 0).f0), .int .i64 x110001_2] 92 (0, 0)) (by (with_reducible repeat (first | refine blk_drewN ?_ _ | refine blk_drew ?_ | refine blk_alloc ?_ _)); exact BK109.out)) : gb115 ≠ gb109)); have n17_ := Aside0.mk ((by rw [hg]; exact Nat.ne_of_lt (blk_lt (g := gb111) (o := .cells #[.int .i64 ((rd_T49 ((rd_T55 l0_0 a1).f2.f1) x62_2).f0), .int .i64 ((rd_T49 ((rd_T55 l0_0 a1).f2.f1) x62_2).f1)] 49 (0, 0)) (by (with_reducible repeat (first | refine blk_drewN ?_ _ | refine blk_drew ?_ | refine blk_alloc ?_ _)); exact BK111.out)) : gb111 ≠ gb115)); have n18_ := Aside0.mk ((by rw [hg]; exact Nat.ne_of_gt (blk_lt (g := gb111) (o := .cells #[.int .i64 ((rd_T49 ((rd_T55 l0_0 a1).f2.f1) x62_2).f0), .int .i64 ((rd_T49 ((rd_T55 l0_0 a1).f2.f1) x62_2).f1)] 49 (0, 0)) (by (with_reducible repeat (first | refine blk_drewN ?_ _ | refine blk_drew ?_ | refine blk_alloc ?_ _)); exact BK111.out)) : gb115 ≠ gb111)); clear BK101; clear BK102; clear BK104; clear BK109; clear BK111; clear HB; have BK101 := n0_; have BK102 := n1_; have BK104 := n2_; have BK109 := n3_; have BK111 := n4_; have HB := n5_; have BK115 := n6_; have GW115 := n7_; have GE115 := n8_; have NB101_115 := n9_; have NB115_101 := n10_; have NB102_115 := n11_; have NB115_102 := n12_; have NB104_115 := n13_; have NB115_104 := n14_; have NB109_115 := n15_; have NB115_109 := n16_; have NB111_115 := n17_; have NB115_111 := n18_; clear n0_ n1_ n2_ n3_ n4_ n5_ n6_ n7_ n8_ n9_ n10_ n11_ n12_ n13_ n14_ n15_ n16_ n17_ n18_; clear hb hbox hg; have hnb97 := NB115_101.out; have hnc97 := NB101_115.out; have hnb98 := NB115_102.out; have hnc98 := NB102_115.out; have hnb99 := NB115_104.out; have hnc99 := NB104_115.out; have hnb100 := NB115_109.out; have hnc100 := NB109_115.out; have hnb101 := NB115_111.out; have hnc101 := NB111_115.out; have hcz102_0 : w96.cell? ⟨gb115, 0, none⟩ = some (.int .i64 0) := (blk_cell BK115.out 0).trans rfl; have hcz102_1 : w96.cell? ⟨gb115, 1, none⟩ = some (.int .i64 0) := (blk_cell BK115.out 1).trans rfl; have hfz102_0 := blk_frozen BK115.out 0; have hfz102_1 := blk_frozen BK115.out 1; have hcz103_0 : w96.cell? ⟨gb111, 0, none⟩ = some (.int .i64 ((rd_T49 ((rd_T55 l0_0 a1).f2.f1) x62_2).f0)) := (blk_cell BK111.out 0).trans rfl; have hcz103_1 : w96.cell? ⟨gb111, 1, none⟩ = some (.int .i64 ((rd_T49 ((rd_T55 l0_0 a1).f2.f1) x62_2).f1)) := (blk_cell BK111.out 1).trans rfl; have hfz103_0 := blk_frozen BK111.out 0; have hfz103_1 := blk_frozen BK111.out 1; have hnb104 := NB109_102.out; have hnc104 := NB102_109.out; have hnb105 := NB109_104.out; have hnc105 := NB104_109.out; have hcz106_0 : w96.cell? ⟨gb109, 0, none⟩ = some (.int .i64 ((rd_T49 ((rd_T55 l0_0 a1).f2.f1) 0).f0)) := (blk_cell BK109.out 0).trans rfl; have hcz106_1 : w96.cell? ⟨gb109, 1, none⟩ = some (.int .i64 x110001_2) := (blk_cell BK109.out 1).trans rfl; have hfz106_0 := blk_frozen BK109.out 0; have hfz106_1 := blk_frozen BK109.out 1))
                 go_roundg k2
                 case measure => have := HJ16.out; have := HK2.out; omega
                 case rel => exact ⟨(wrap64 (x62_2 + 1)), (x103000_2), (x103001_2), (t113), (by first | rfl | (simp; done) | (simp [*]; done)), H', ⟨by have := HJ16.out; have := HK2.out; omega⟩, ⟨by (with_reducible repeat (first | refine blk_drewN ?_ _ | refine blk_drew ?_ | refine blk_alloc ?_ _)); refine blk_far ?_ NB101_109.out _; (with_reducible repeat (first | refine blk_drewN ?_ _ | refine blk_drew ?_ | refine blk_alloc ?_ _)); refine blk_far ?_ NB101_115.out _; (with_reducible repeat (first | refine blk_drewN ?_ _ | refine blk_drew ?_ | refine blk_alloc ?_ _)); refine blk_far ?_ NB101_115.out _; (with_reducible repeat (first | refine blk_drewN ?_ _ | refine blk_drew ?_ | refine blk_alloc ?_ _)); exact BK101.out⟩, ⟨by (with_reducible repeat (first | refine blk_drewN ?_ _ | refine blk_drew ?_ | refine blk_alloc ?_ _)); refine blk_far ?_ NB102_109.out _; (with_reducible repeat (first | refine blk_drewN ?_ _ | refine blk_drew ?_ | refine blk_alloc ?_ _)); refine blk_far ?_ NB102_115.out _; (with_reducible repeat (first | refine blk_drewN ?_ _ | refine blk_drew ?_ | refine blk_alloc ?_ _)); refine blk_far ?_ NB102_115.out _; (with_reducible repeat (first | refine blk_drewN ?_ _ | refine blk_drew ?_ | refine blk_alloc ?_ _)); exact BK102.out⟩, ⟨by (with_reducible repeat (first | refine blk_drewN ?_ _ | refine blk_drew ?_ | refine blk_alloc ?_ _)); refine blk_far ?_ NB104_109.out _; (with_reducible repeat (first | refine blk_drewN ?_ _ | refine blk_drew ?_ | refine blk_alloc ?_ _)); refine blk_far ?_ NB104_115.out _; (with_reducible repeat (first | refine blk_drewN ?_ _ | refine blk_drew ?_ | refine blk_alloc ?_ _)); refine blk_far ?_ NB104_115.out _; (with_reducible repeat (first | refine blk_drewN ?_ _ | refine blk_drew ?_ | refine blk_alloc ?_ _)); exact BK104.out⟩, ⟨by (with_reducible repeat (first | refine blk_drewN ?_ _ | refine blk_drew ?_ | refine blk_alloc ?_ _)); refine blk_put (cs := #[.int .i64 ((rd_T49 ((rd_T55 l0_0 a1).f2.f1) 0).f0), .int .i64 x110001_2]) ?_ 1 _ rfl; (with_reducible repeat (first | refine blk_drewN ?_ _ | refine blk_drew ?_ | refine blk_alloc ?_ _)); refine blk_far ?_ NB109_115.out _; (with_reducible repeat (first | refine blk_drewN ?_ _ | refine blk_drew ?_ | refine blk_alloc ?_ _)); refine blk_far ?_ NB109_115.out _; (with_reducible repeat (first | refine blk_drewN ?_ _ | refine blk_drew ?_ | refine blk_alloc ?_ _)); exact BK109.out⟩, ⟨by repeat (first | (with_reducible first | exact HB.out | apply below_alloc | apply pw_below_drewN | apply below_drew1 | refine below_set ?_ GE101.out | refine below_set ?_ GE102.out | refine below_set ?_ GE104.out | refine below_set ?_ GE109.out | refine below_set ?_ GE111.out | refine below_set ?_ GE115.out) | exact HB.out)⟩⟩
               ·rw [if_neg c59] at H
                have c59b0 : decide (0 < x62_2) = false := decide_eq_false c59
                clear c59
                have H' := Aside0.mk H
                clear H
                have p110 : 0 ≤ (x62_2 : Int) := of_decide_eq_true (by first | (with_reducible assumption) | assumption)
                have q110 : x62_2 < (((rd_T55 l0_0 a1).f2.f1).length : Int) := of_decide_eq_true (by first | (with_reducible assumption) | assumption)
                obtain ⟨ad110, e110, hx110_0, hx110_1⟩ := at_T49 HR103_3.out x62_2 p110 q110
                obtain rfl : ad108 = ad110 := (by injection e110)
                replace hx110_0 := (HB.out.cell (World.block_lt_of_cell? w _ hx110_0)).trans hx110_0
                replace hx110_1 := (HB.out.cell (World.block_lt_of_cell? w _ hx110_1)).trans hx110_1
                replace p110 := eq_true p110
                replace q110 := eq_true q110
                go_wp2_with (first | ((with_reducible refine gate_dst (N := 12) rfl ?_); refine box_event ?hg (N := 12) ?hd (cs := #[.int .i64 0, .int .i64 0]) (t := 49) ?hr ?_; (case hd => rfl); (case hg => rfl); (case hr => first | (go_simp; done) | (go_simp; rfl)); intro gb111 hg w107 hbox hb; have n0_ := Aside0.mk (blk_below (g := gb101) (o := .cells #[.slice (some ad103) l0_0.length c0_0, .int .i64 a0_1] 24 (0, 0)) (by (with_reducible repeat (first | refine blk_drewN ?_ _ | refine blk_drew ?_ | refine blk_alloc ?_ _)); exact BK101.out) hb); have n1_ := Aside0.mk (blk_below (g := gb102) (o := .cells #[.int .i64 x103000_2, .int .i64 x103001_2] 92 (0, 0)) (by (with_reducible repeat (first | refine blk_drewN ?_ _ | refine blk_drew ?_ | refine blk_alloc ?_ _)); exact BK102.out) hb); have n2_ := Aside0.mk (blk_below (g := gb104) (o := .cells #[.bool ((rd_T55 l0_0 a1).f2.f0), .slice (some ad108) ((rd_T55 l0_0 a1).f2.f1).length c103_3] 53 (0, 0)) (by (with_reducible repeat (first | refine blk_drewN ?_ _ | refine blk_drew ?_ | refine blk_alloc ?_ _)); exact BK104.out) hb); have n3_ := Aside0.mk (blk_below (g := gb109) (o := .cells #[.int .i64 ((rd_T49 ((rd_T55 l0_0 a1).f2.f1) 0).f0), .int .i64 x110001_2] 92 (0, 0)) (by (with_reducible repeat (first | refine blk_drewN ?_ _ | refine blk_drew ?_ | refine blk_alloc ?_ _)); exact BK109.out) hb); have n4_ := Aside0.mk (below_step (by repeat (first | (with_reducible first | exact HB.out | apply below_alloc | apply pw_below_drewN | apply below_drew1 | refine below_set ?_ GE101.out | refine below_set ?_ GE102.out | refine below_set ?_ GE104.out | refine below_set ?_ GE109.out) | exact HB.out)) hb); have n5_ := Aside0.mk (hbox); have n6_ := Aside0.mk ((by rw [hg]; exact (below_size (by repeat (first | (with_reducible first | exact HB.out | apply below_alloc | apply pw_below_drewN | apply below_drew1 | refine below_set ?_ GE101.out | refine below_set ?_ GE102.out | refine below_set ?_ GE104.out | refine below_set ?_ GE109.out) | exact HB.out))) : w.heap.size ≤ gb111)); have n7_ := Aside0.mk ((by rw [hg]; exact (below_size (by repeat (first | (with_reducible first | exact HB.out | apply below_alloc | apply pw_below_drewN | apply below_drew1 | refine below_set ?_ GE101.out | refine below_set ?_ GE102.out | refine below_set ?_ GE104.out | refine below_set ?_ GE109.out) | exact HB.out))) : w.heap.size ≤ gb111)); have n8_ := Aside0.mk ((by rw [hg]; exact Nat.ne_of_lt (blk_lt (g := gb101) (o := .cells #[.slice (some ad103) l0_0.length c0_0, .int .i64 a0_1] 24 (0, 0)) (by (with_reducible repeat (first | refine blk_drewN ?_ _ | refine blk_drew ?_ | refine blk_alloc ?_ _)); exact BK101.out)) : gb101 ≠ gb111)); have n9_ := Aside0.mk ((by rw [hg]; exact Nat.ne_of_gt (blk_lt (g := gb101) (o := .cells #[.slice (some ad103) l0_0.length c0_0, .int .i64 a0_1] 24 (0, 0)) (by (with_reducible repeat (first | refine blk_drewN ?_ _ | refine blk_drew ?_ | refine blk_alloc ?_ _)); exact BK101.out)) : gb111 ≠ gb101)); have n10_ := Aside0.mk ((by rw [hg]; exact Nat.ne_of_lt (blk_lt (g := gb102) (o := .cells #[.int .i64 x103000_2, .int .i64 x103001_2] 92 (0, 0)) (by (with_reducible repeat (first | refine blk_drewN ?_ _ | refine blk_drew ?_ | refine blk_alloc ?_ _)); exact BK102.out)) : gb102 ≠ gb111)); have n11_ := Aside0.mk ((by rw [hg]; exact Nat.ne_of_gt (blk_lt (g := gb102) (o := .cells #[.int .i64 x103000_2, .int .i64 x103001_2] 92 (0, 0)) (by (with_reducible repeat (first | refine blk_drewN ?_ _ | refine blk_drew ?_ | refine blk_alloc ?_ _)); exact BK102.out)) : gb111 ≠ gb102)); have n12_ := Aside0.mk ((by rw [hg]; exact Nat.ne_of_lt (blk_lt (g := gb104) (o := .cells #[.bool ((rd_T55 l0_0 a1).f2.f0), .slice (some ad108) ((rd_T55 l0_0 a1).f2.f1).length c103_3] 53 (0, 0)) (by (with_reducible repeat (first | refine blk_drewN ?_ _ | refine blk_drew ?_ | refine blk_alloc ?_ _)); exact BK104.out)) : gb104 ≠ gb111)); have n13_ := Aside0.mk ((by rw [hg]; exact Nat.ne_of_gt (blk_lt (g := gb104) (o := .cells #[.bool ((rd_T55 l0_0 a1).f2.f0), .slice (some ad108) ((rd_T55 l0_0 a1).f2.f1).length c103_3] 53 (0, 0)) (by (with_reducible repeat (first | refine blk_drewN ?_ _ | refine blk_drew ?_ | refine blk_alloc ?_ _)); exact BK104.out)) : gb111 ≠ gb104)); have n14_ := Aside0.mk ((by rw [hg]; exact Nat.ne_of_lt (blk_lt (g := gb109) (o := .cells #[.int .i64 ((rd_T49 ((rd_T55 l0_0 a1).f2.f1) 0).f0), .int .i64 x110001_2] 92 (0, 0)) (by (with_reducible repeat (first | refine blk_drewN ?_ _ | refine blk_drew ?_ | refine blk_alloc ?_ _)); exact BK109.out)) : gb109 ≠ gb111)); have n15_ := Aside0.mk ((by rw [hg]; exact Nat.ne_of_gt (blk_lt (g := gb109) (o := .cells #[.int .i64 ((rd_T49 ((rd_T55 l0_0 a1).f2.f1) 0).f0), .int .i64 x110001_2] 92 (0, 0)) (by (with_reducible repeat (first | refine blk_drewN ?_ _ | refine blk_drew ?_ | refine blk_alloc ?_ _)); exact BK109.out)) : gb111 ≠ gb109)); clear BK101; clear BK102; clear BK104; clear BK109; clear HB; have BK101 := n0_; have BK102 := n1_; have BK104 := n2_; have BK109 := n3_; have HB := n4_; have BK111 := n5_; have GW111 := n6_; have GE111 := n7_; have NB101_111 := n8_; have NB111_101 := n9_; have NB102_111 := n10_; have NB111_102 := n11_; have NB104_111 := n12_; have NB111_104 := n13_; have NB109_111 := n14_; have NB111_109 := n15_; clear n0_ n1_ n2_ n3_ n4_ n5_ n6_ n7_ n8_ n9_ n10_ n11_ n12_ n13_ n14_ n15_; clear hb hbox hg; have hnb108 := NB111_101.out; have hnc108 := NB101_111.out; have hnb109 := NB111_102.out; have hnc109 := NB102_111.out; have hnb110 := NB111_104.out; have hnc110 := NB104_111.out; have hnb111 := NB111_109.out; have hnc111 := NB109_111.out; have hcz112_0 : w107.cell? ⟨gb111, 0, none⟩ = some (.int .i64 0) := (blk_cell BK111.out 0).trans rfl; have hcz112_1 : w107.cell? ⟨gb111, 1, none⟩ = some (.int .i64 0) := (blk_cell BK111.out 1).trans rfl; have hfz112_0 := blk_frozen BK111.out 0; have hfz112_1 := blk_frozen BK111.out 1; have hnb113 := NB101_102.out; have hnc113 := NB102_101.out; have hnb114 := NB101_104.out; have hnc114 := NB104_101.out; have hnb115 := NB101_109.out; have hnc115 := NB109_101.out; have hcz116_0 : w107.cell? ⟨gb101, 0, none⟩ = some (.slice (some ad103) l0_0.length c0_0) := (blk_cell BK101.out 0).trans rfl; have hcz116_1 : w107.cell? ⟨gb101, 1, none⟩ = some (.int .i64 a0_1) := (blk_cell BK101.out 1).trans rfl; have hfz116_0 := blk_frozen BK101.out 0; have hfz116_1 := blk_frozen BK101.out 1) | ((with_reducible refine gate_callee (f := 58) rfl ?_); refine goesL_ (some 73) rfl rfl Try.func58 (by kernel_rfl) rfl #[.agg #[.slice (some ad103) l0_0.length c0_0, .int .i64 a0_1], .int .i64 ((rd_T49 ((rd_T55 l0_0 a1).f2.f1) x62_2).f1), .int .i64 (wrap64 (a2 - 1))] rfl (by (try simp only [List.map_toArray, List.map_cons, List.map_nil]); first | done | rfl | (simp only [List.length_drop, List.length_take]; rfl)) ?_; (with_reducible refine (ih k2 (by have := HJ16.out; have := HK2.out; omega) _ _ l0_0 a0_1 ((rd_T49 ((rd_T55 l0_0 a1).f2.f1) x62_2).f1) (wrap64 (a2 - 1)) t112 t113 true _ ?side1 ?side2 A56.out).mono ?_); (case side1 => exact Kd.C_below HR0_0.out (by repeat (first | (with_reducible first | exact HB.out | apply below_alloc | apply pw_below_drewN | apply below_drew1 | refine below_set ?_ GE101.out | refine below_set ?_ GE102.out | refine below_set ?_ GE104.out | refine below_set ?_ GE109.out | refine below_set ?_ GE111.out) | exact HB.out))); (case side2 => exact HC0_0.out); rintro e w117 ⟨rfl, hb⟩; refine ⟨_, rfl, ?_⟩; have n0_ := Aside0.mk (blk_below (g := gb101) (o := .cells #[.slice (some ad103) l0_0.length c0_0, .int .i64 a0_1] 24 (0, 0)) (by (with_reducible repeat (first | refine blk_drewN ?_ _ | refine blk_drew ?_ | refine blk_alloc ?_ _)); refine blk_far ?_ NB101_111.out _; (with_reducible repeat (first | refine blk_drewN ?_ _ | refine blk_drew ?_ | refine blk_alloc ?_ _)); refine blk_far ?_ NB101_111.out _; (with_reducible repeat (first | refine blk_drewN ?_ _ | refine blk_drew ?_ | refine blk_alloc ?_ _)); exact BK101.out) hb); have n1_ := Aside0.mk (blk_below (g := gb102) (o := .cells #[.int .i64 x103000_2, .int .i64 x103001_2] 92 (0, 0)) (by (with_reducible repeat (first | refine blk_drewN ?_ _ | refine blk_drew ?_ | refine blk_alloc ?_ _)); refine blk_far ?_ NB102_111.out _; (with_reducible repeat (first | refine blk_drewN ?_ _ | refine blk_drew ?_ | refine blk_alloc ?_ _)); refine blk_far ?_ NB102_111.out _; (with_reducible repeat (first | refine blk_drewN ?_ _ | refine blk_drew ?_ | refine blk_alloc ?_ _)); exact BK102.out) hb); have n2_ := Aside0.mk (blk_below (g := gb104) (o := .cells #[.bool ((rd_T55 l0_0 a1).f2.f0), .slice (some ad108) ((rd_T55 l0_0 a1).f2.f1).length c103_3] 53 (0, 0)) (by (with_reducible repeat (first | refine blk_drewN ?_ _ | refine blk_drew ?_ | refine blk_alloc ?_ _)); refine blk_far ?_ NB104_111.out _; (with_reducible repeat (first | refine blk_drewN ?_ _ | refine blk_drew ?_ | refine blk_alloc ?_ _)); refine blk_far ?_ NB104_111.out _; (with_reducible repeat (first | refine blk_drewN ?_ _ | refine blk_drew ?_ | refine blk_alloc ?_ _)); exact BK104.out) hb); have n3_ := Aside0.mk (blk_below (g := gb109) (o := .cells #[.int .i64 ((rd_T49 ((rd_T55 l0_0 a1).f2.f1) 0).f0), .int .i64 x110001_2] 92 (0, 0)) (by (with_reducible repeat (first | refine blk_drewN ?_ _ | refine blk_drew ?_ | refine blk_alloc ?_ _)); refine blk_far ?_ NB109_111.out _; (with_reducible repeat (first | refine blk_drewN ?_ _ | refine blk_drew ?_ | refine blk_alloc ?_ _)); refine blk_far ?_ NB109_111.out _; (with_reducible repeat (first | refine blk_drewN ?_ _ | refine blk_drew ?_ | refine blk_alloc ?_ _)); exact BK109.out) hb); have n4_ := Aside0.mk (blk_below (g := gb111) (o := .cells #[.int .i64 ((rd_T49 ((rd_T55 l0_0 a1).f2.f1) x62_2).f0), .int .i64 ((rd_T49 ((rd_T55 l0_0 a1).f2.f1) x62_2).f1)] 49 (0, 0)) (by (with_reducible repeat (first | refine blk_drewN ?_ _ | refine blk_drew ?_ | refine blk_alloc ?_ _)); refine blk_put (cs := #[.int .i64 ((rd_T49 ((rd_T55 l0_0 a1).f2.f1) x62_2).f0), .int .i64 0]) ?_ 1 _ rfl; (with_reducible repeat (first | refine blk_drewN ?_ _ | refine blk_drew ?_ | refine blk_alloc ?_ _)); refine blk_put (cs := #[.int .i64 0, .int .i64 0]) ?_ 0 _ rfl; (with_reducible repeat (first | refine blk_drewN ?_ _ | refine blk_drew ?_ | refine blk_alloc ?_ _)); exact BK111.out) hb); have n5_ := Aside0.mk (below_step (by repeat (first | (with_reducible first | exact HB.out | apply below_alloc | apply pw_below_drewN | apply below_drew1 | refine below_set ?_ GE101.out | refine below_set ?_ GE102.out | refine below_set ?_ GE104.out | refine below_set ?_ GE109.out | refine below_set ?_ GE111.out) | exact HB.out)) hb); clear BK101; clear BK102; clear BK104; clear BK109; clear BK111; clear HB; have BK101 := n0_; have BK102 := n1_; have BK104 := n2_; have BK109 := n3_; have BK111 := n4_; have HB := n5_; clear n0_ n1_ n2_ n3_ n4_ n5_; (try clear hb); (try clear hb2); (try clear hk); (try clear hi)) | ((with_reducible refine gate_dst (N := 13) rfl ?_); refine box_event ?hg (N := 13) ?hd (cs := #[.int .i64 0, .int .i64 0]) (t := 92) ?hr ?_; (case hd => rfl); (case hg => rfl); (case hr => first | (go_simp; done) | (go_simp; rfl)); intro gb115 hg w118 hbox hb; have n0_ := Aside0.mk (blk_below (g := gb101) (o := .cells #[.slice (some ad103) l0_0.length c0_0, .int .i64 a0_1] 24 (0, 0)) (by (with_reducible repeat (first | refine blk_drewN ?_ _ | refine blk_drew ?_ | refine blk_alloc ?_ _)); exact BK101.out) hb); have n1_ := Aside0.mk (blk_below (g := gb102) (o := .cells #[.int .i64 x103000_2, .int .i64 x103001_2] 92 (0, 0)) (by (with_reducible repeat (first | refine blk_drewN ?_ _ | refine blk_drew ?_ | refine blk_alloc ?_ _)); exact BK102.out) hb); have n2_ := Aside0.mk (blk_below (g := gb104) (o := .cells #[.bool ((rd_T55 l0_0 a1).f2.f0), .slice (some ad108) ((rd_T55 l0_0 a1).f2.f1).length c103_3] 53 (0, 0)) (by (with_reducible repeat (first | refine blk_drewN ?_ _ | refine blk_drew ?_ | refine blk_alloc ?_ _)); exact BK104.out) hb); have n3_ := Aside0.mk (blk_below (g := gb109) (o := .cells #[.int .i64 ((rd_T49 ((rd_T55 l0_0 a1).f2.f1) 0).f0), .int .i64 x110001_2] 92 (0, 0)) (by (with_reducible repeat (first | refine blk_drewN ?_ _ | refine blk_drew ?_ | refine blk_alloc ?_ _)); exact BK109.out) hb); have n4_ := Aside0.mk (blk_below (g := gb111) (o := .cells #[.int .i64 ((rd_T49 ((rd_T55 l0_0 a1).f2.f1) x62_2).f0), .int .i64 ((rd_T49 ((rd_T55 l0_0 a1).f2.f1) x62_2).f1)] 49 (0, 0)) (by (with_reducible repeat (first | refine blk_drewN ?_ _ | refine blk_drew ?_ | refine blk_alloc ?_ _)); exact BK111.out) hb); have n5_ := Aside0.mk (below_step (by repeat (first | (with_reducible first | exact HB.out | apply below_alloc | apply pw_below_drewN | apply below_drew1 | refine below_set ?_ GE101.out | refine below_set ?_ GE102.out | refine below_set ?_ GE104.out | refine below_set ?_ GE109.out | refine below_set ?_ GE111.out) | exact HB.out)) hb); have n6_ := Aside0.mk (hbox); have n7_ := Aside0.mk ((by rw [hg]; exact (below_size (by repeat (first | (with_reducible first | exact HB.out | apply below_alloc | apply pw_below_drewN | apply below_drew1 | refine below_set ?_ GE101.out | refine below_set ?_ GE102.out | refine below_set ?_ GE104.out | refine below_set ?_ GE109.out | refine below_set ?_ GE111.out) | exact HB.out))) : w.heap.size ≤ gb115)); have n8_ := Aside0.mk ((by rw [hg]; exact (below_size (by repeat (first | (with_reducible first | exact HB.out | apply below_alloc | apply pw_below_drewN | apply below_drew1 | refine below_set ?_ GE101.out | refine below_set ?_ GE102.out | refine below_set ?_ GE104.out | refine below_set ?_ GE109.out | refine below_set ?_ GE111.out) | exact HB.out))) : w.heap.size ≤ gb115)); have n9_ := Aside0.mk ((by rw [hg]; exact Nat.ne_of_lt (blk_lt (g := gb101) (o := .cells #[.slice (some ad103) l0_0.length c0_0, .int .i64 a0_1] 24 (0, 0)) (by (with_reducible repeat (first | refine blk_drewN ?_ _ | refine blk_drew ?_ | refine blk_alloc ?_ _)); exact BK101.out)) : gb101 ≠ gb115)); have n10_ := Aside0.mk ((by rw [hg]; exact Nat.ne_of_gt (blk_lt (g := gb101) (o := .cells #[.slice (some ad103) l0_0.length c0_0, .int .i64 a0_1] 24 (0, 0)) (by (with_reducible repeat (first | refine blk_drewN ?_ _ | refine blk_drew ?_ | refine blk_alloc ?_ _)); exact BK101.out)) : gb115 ≠ gb101)); have n11_ := Aside0.mk ((by rw [hg]; exact Nat.ne_of_lt (blk_lt (g := gb102) (o := .cells #[.int .i64 x103000_2, .int .i64 x103001_2] 92 (0, 0)) (by (with_reducible repeat (first | refine blk_drewN ?_ _ | refine blk_drew ?_ | refine blk_alloc ?_ _)); exact BK102.out)) : gb102 ≠ gb115)); have n12_ := Aside0.mk ((by rw [hg]; exact Nat.ne_of_gt (blk_lt (g := gb102) (o := .cells #[.int .i64 x103000_2, .int .i64 x103001_2] 92 (0, 0)) (by (with_reducible repeat (first | refine blk_drewN ?_ _ | refine blk_drew ?_ | refine blk_alloc ?_ _)); exact BK102.out)) : gb115 ≠ gb102)); have n13_ := Aside0.mk ((by rw [hg]; exact Nat.ne_of_lt (blk_lt (g := gb104) (o := .cells #[.bool ((rd_T55 l0_0 a1).f2.f0), .slice (some ad108) ((rd_T55 l0_0 a1).f2.f1).length c103_3] 53 (0, 0)) (by (with_reducible repeat (first | refine blk_drewN ?_ _ | refine blk_drew ?_ | refine blk_alloc ?_ _)); exact BK104.out)) : gb104 ≠ gb115)); have n14_ := Aside0.mk ((by rw [hg]; exact Nat.ne_of_gt (blk_lt (g := gb104) (o := .cells #[.bool ((rd_T55 l0_0 a1).f2.f0), .slice (some ad108) ((rd_T55 l0_0 a1).f2.f1).length c103_3] 53 (0, 0)) (by (with_reducible repeat (first | refine blk_drewN ?_ _ | refine blk_drew ?_ | refine blk_alloc ?_ _)); exact BK104.out)) : gb115 ≠ gb104)); have n15_ := Aside0.mk ((by rw [hg]; exact Nat.ne_of_lt (blk_lt (g := gb109) (o := .cells #[.int .i64 ((rd_T49 ((rd_T55 l0_0 a1).f2.f1) 0).f0), .int .i64 x110001_2] 92 (0, 0)) (by (with_reducible repeat (first | refine blk_drewN ?_ _ | refine blk_drew ?_ | refine blk_alloc ?_ _)); exact BK109.out)) : gb109 ≠ gb115)); have n16_ := Aside0.mk ((by rw [hg]; exact Nat.ne_of_gt (blk_lt (g := gb109) (o := .cells #[.int .i64 ((rd_T49 ((rd_T55 l0_0 a1).f2.f1) 0).f0), .int .i64 x110001_2] 92 (0, 0)) (by (with_reducible repeat (first | refine blk_drewN ?_ _ | refine blk_drew ?_ | refine blk_alloc ?_ _)); exact BK109.out)) : gb115 ≠ gb109)); have n17_ := Aside0.mk ((by rw [hg]; exact Nat.ne_of_lt (blk_lt (g := gb111) (o := .cells #[.int .i64 ((rd_T49 ((rd_T55 l0_0 a1).f2.f1) x62_2).f0), .int .i64 ((rd_T49 ((rd_T55 l0_0 a1).f2.f1) x62_2).f1)] 49 (0, 0)) (by (with_reducible repeat (first | refine blk_drewN ?_ _ | refine blk_drew ?_ | refine blk_alloc ?_ _)); exact BK111.out)) : gb111 ≠ gb115)); have n18_ := Aside0.mk ((by rw [hg]; exact Nat.ne_of_gt (blk_lt (g := gb111) (o := .cells #[.int .i64 ((rd_T49 ((rd_T55 l0_0 a1).f2.f1) x62_2).f0), .int .i64 ((rd_T49 ((rd_T55 l0_0 a1).f2.f1) x62_2).f1)] 49 (0, 0)) (by (with_reducible repeat (first | refine blk_drewN ?_ _ | refine blk_drew ?_ | refine blk_alloc ?_ _)); exact BK111.out)) : gb115 ≠ gb111)); clear BK101; clear BK102; clear BK104; clear BK109; clear BK111; clear HB; have BK101 := n0_; have BK102 := n1_; have BK104 := n2_; have BK109 := n3_; have BK111 := n4_; have HB := n5_; have BK115 := n6_; have GW115 := n7_; have GE115 := n8_; have NB101_115 := n9_; have NB115_101 := n10_; have NB102_115 := n11_; have NB115_102 := n12_; have NB104_115 := n13_; have NB115_104 := n14_; have NB109_115 := n15_; have NB115_109 := n16_; have NB111_115 := n17_; have NB115_111 := n18_; clear n0_ n1_ n2_ n3_ n4_ n5_ n6_ n7_ n8_ n9_ n10_ n11_ n12_ n13_ n14_ n15_ n16_ n17_ n18_; clear hb hbox hg; have hnb119 := NB115_101.out; have hnc119 := NB101_115.out; have hnb120 := NB115_102.out; have hnc120 := NB102_115.out; have hnb121 := NB115_104.out; have hnc121 := NB104_115.out; have hnb122 := NB115_109.out; have hnc122 := NB109_115.out; have hnb123 := NB115_111.out; have hnc123 := NB111_115.out; have hcz124_0 : w118.cell? ⟨gb115, 0, none⟩ = some (.int .i64 0) := (blk_cell BK115.out 0).trans rfl; have hcz124_1 : w118.cell? ⟨gb115, 1, none⟩ = some (.int .i64 0) := (blk_cell BK115.out 1).trans rfl; have hfz124_0 := blk_frozen BK115.out 0; have hfz124_1 := blk_frozen BK115.out 1; have hcz125_0 : w118.cell? ⟨gb111, 0, none⟩ = some (.int .i64 ((rd_T49 ((rd_T55 l0_0 a1).f2.f1) x62_2).f0)) := (blk_cell BK111.out 0).trans rfl; have hcz125_1 : w118.cell? ⟨gb111, 1, none⟩ = some (.int .i64 ((rd_T49 ((rd_T55 l0_0 a1).f2.f1) x62_2).f1)) := (blk_cell BK111.out 1).trans rfl; have hfz125_0 := blk_frozen BK111.out 0; have hfz125_1 := blk_frozen BK111.out 1; have hnb126 := NB109_102.out; have hnc126 := NB102_109.out; have hnb127 := NB109_104.out; have hnc127 := NB104_109.out; have hcz128_0 : w118.cell? ⟨gb109, 0, none⟩ = some (.int .i64 ((rd_T49 ((rd_T55 l0_0 a1).f2.f1) 0).f0)) := (blk_cell BK109.out 0).trans rfl; have hcz128_1 : w118.cell? ⟨gb109, 1, none⟩ = some (.int .i64 x110001_2) := (blk_cell BK109.out 1).trans rfl; have hfz128_0 := blk_frozen BK109.out 0; have hfz128_1 := blk_frozen BK109.out 1))
                go_roundg k2
                case measure => have := HJ16.out; have := HK2.out; omega
                case rel => exact ⟨(wrap64 (x62_2 + 1)), (x103000_2), (x103001_2), (t113), (by first | rfl | (simp; done) | (simp [*]; done)), H', ⟨by have := HJ16.out; have := HK2.out; omega⟩, ⟨by (with_reducible repeat (first | refine blk_drewN ?_ _ | refine blk_drew ?_ | refine blk_alloc ?_ _)); refine blk_far ?_ NB101_109.out _; (with_reducible repeat (first | refine blk_drewN ?_ _ | refine blk_drew ?_ | refine blk_alloc ?_ _)); refine blk_far ?_ NB101_115.out _; (with_reducible repeat (first | refine blk_drewN ?_ _ | refine blk_drew ?_ | refine blk_alloc ?_ _)); refine blk_far ?_ NB101_115.out _; (with_reducible repeat (first | refine blk_drewN ?_ _ | refine blk_drew ?_ | refine blk_alloc ?_ _)); exact BK101.out⟩, ⟨by (with_reducible repeat (first | refine blk_drewN ?_ _ | refine blk_drew ?_ | refine blk_alloc ?_ _)); refine blk_far ?_ NB102_109.out _; (with_reducible repeat (first | refine blk_drewN ?_ _ | refine blk_drew ?_ | refine blk_alloc ?_ _)); refine blk_far ?_ NB102_115.out _; (with_reducible repeat (first | refine blk_drewN ?_ _ | refine blk_drew ?_ | refine blk_alloc ?_ _)); refine blk_far ?_ NB102_115.out _; (with_reducible repeat (first | refine blk_drewN ?_ _ | refine blk_drew ?_ | refine blk_alloc ?_ _)); exact BK102.out⟩, ⟨by (with_reducible repeat (first | refine blk_drewN ?_ _ | refine blk_drew ?_ | refine blk_alloc ?_ _)); refine blk_far ?_ NB104_109.out _; (with_reducible repeat (first | refine blk_drewN ?_ _ | refine blk_drew ?_ | refine blk_alloc ?_ _)); refine blk_far ?_ NB104_115.out _; (with_reducible repeat (first | refine blk_drewN ?_ _ | refine blk_drew ?_ | refine blk_alloc ?_ _)); refine blk_far ?_ NB104_115.out _; (with_reducible repeat (first | refine blk_drewN ?_ _ | refine blk_drew ?_ | refine blk_alloc ?_ _)); exact BK104.out⟩, ⟨by (with_reducible repeat (first | refine blk_drewN ?_ _ | refine blk_drew ?_ | refine blk_alloc ?_ _)); refine blk_put (cs := #[.int .i64 ((rd_T49 ((rd_T55 l0_0 a1).f2.f1) 0).f0), .int .i64 x110001_2]) ?_ 1 _ rfl; (with_reducible repeat (first | refine blk_drewN ?_ _ | refine blk_drew ?_ | refine blk_alloc ?_ _)); refine blk_far ?_ NB109_115.out _; (with_reducible repeat (first | refine blk_drewN ?_ _ | refine blk_drew ?_ | refine blk_alloc ?_ _)); refine blk_far ?_ NB109_115.out _; (with_reducible repeat (first | refine blk_drewN ?_ _ | refine blk_drew ?_ | refine blk_alloc ?_ _)); exact BK109.out⟩, ⟨by repeat (first | (with_reducible first | exact HB.out | apply below_alloc | apply pw_below_drewN | apply below_drew1 | refine below_set ?_ GE101.out | refine below_set ?_ GE102.out | refine below_set ?_ GE104.out | refine below_set ?_ GE109.out | refine below_set ?_ GE111.out | refine below_set ?_ GE115.out) | exact HB.out)⟩⟩
              ·rw [if_neg c58] at H
               have c58b0 : (t112 == ((rd_T49 ((rd_T55 l0_0 a1).f2.f1) x62_2).f0)) = false := beq_eq_false_iff_ne.mpr c58
               have c58b1 : (t112 != ((rd_T49 ((rd_T55 l0_0 a1).f2.f1) x62_2).f0)) = true := bne_iff_ne.mpr c58
               simp only [Option.some.injEq, Prod.mk.injEq] at H
               obtain ⟨rfl, rfl, rfl⟩ := H
               have p110 : 0 ≤ (x62_2 : Int) := of_decide_eq_true (by first | (with_reducible assumption) | assumption)
               have q110 : x62_2 < (((rd_T55 l0_0 a1).f2.f1).length : Int) := of_decide_eq_true (by first | (with_reducible assumption) | assumption)
               obtain ⟨ad110, e110, hx110_0, hx110_1⟩ := at_T49 HR103_3.out x62_2 p110 q110
               obtain rfl : ad108 = ad110 := (by injection e110)
               replace hx110_0 := (HB.out.cell (World.block_lt_of_cell? w _ hx110_0)).trans hx110_0
               replace hx110_1 := (HB.out.cell (World.block_lt_of_cell? w _ hx110_1)).trans hx110_1
               replace p110 := eq_true p110
               replace q110 := eq_true q110
               go_wp2_with (first | ((with_reducible refine gate_dst (N := 12) rfl ?_); refine box_event ?hg (N := 12) ?hd (cs := #[.int .i64 0, .int .i64 0]) (t := 49) ?hr ?_; (case hd => rfl); (case hg => rfl); (case hr => first | (go_simp; done) | (go_simp; rfl)); intro gb111 hg w129 hbox hb; have n0_ := Aside0.mk (blk_below (g := gb101) (o := .cells #[.slice (some ad103) l0_0.length c0_0, .int .i64 a0_1] 24 (0, 0)) (by (with_reducible repeat (first | refine blk_drewN ?_ _ | refine blk_drew ?_ | refine blk_alloc ?_ _)); exact BK101.out) hb); have n1_ := Aside0.mk (blk_below (g := gb102) (o := .cells #[.int .i64 x103000_2, .int .i64 x103001_2] 92 (0, 0)) (by (with_reducible repeat (first | refine blk_drewN ?_ _ | refine blk_drew ?_ | refine blk_alloc ?_ _)); exact BK102.out) hb); have n2_ := Aside0.mk (blk_below (g := gb104) (o := .cells #[.bool ((rd_T55 l0_0 a1).f2.f0), .slice (some ad108) ((rd_T55 l0_0 a1).f2.f1).length c103_3] 53 (0, 0)) (by (with_reducible repeat (first | refine blk_drewN ?_ _ | refine blk_drew ?_ | refine blk_alloc ?_ _)); exact BK104.out) hb); have n3_ := Aside0.mk (blk_below (g := gb109) (o := .cells #[.int .i64 ((rd_T49 ((rd_T55 l0_0 a1).f2.f1) 0).f0), .int .i64 x110001_2] 92 (0, 0)) (by (with_reducible repeat (first | refine blk_drewN ?_ _ | refine blk_drew ?_ | refine blk_alloc ?_ _)); exact BK109.out) hb); have n4_ := Aside0.mk (below_step (by repeat (first | (with_reducible first | exact HB.out | apply below_alloc | apply pw_below_drewN | apply below_drew1 | refine below_set ?_ GE101.out | refine below_set ?_ GE102.out | refine below_set ?_ GE104.out | refine below_set ?_ GE109.out) | exact HB.out)) hb); have n5_ := Aside0.mk (hbox); have n6_ := Aside0.mk ((by rw [hg]; exact (below_size (by repeat (first | (with_reducible first | exact HB.out | apply below_alloc | apply pw_below_drewN | apply below_drew1 | refine below_set ?_ GE101.out | refine below_set ?_ GE102.out | refine below_set ?_ GE104.out | refine below_set ?_ GE109.out) | exact HB.out))) : w.heap.size ≤ gb111)); have n7_ := Aside0.mk ((by rw [hg]; exact (below_size (by repeat (first | (with_reducible first | exact HB.out | apply below_alloc | apply pw_below_drewN | apply below_drew1 | refine below_set ?_ GE101.out | refine below_set ?_ GE102.out | refine below_set ?_ GE104.out | refine below_set ?_ GE109.out) | exact HB.out))) : w.heap.size ≤ gb111)); have n8_ := Aside0.mk ((by rw [hg]; exact Nat.ne_of_lt (blk_lt (g := gb101) (o := .cells #[.slice (some ad103) l0_0.length c0_0, .int .i64 a0_1] 24 (0, 0)) (by (with_reducible repeat (first | refine blk_drewN ?_ _ | refine blk_drew ?_ | refine blk_alloc ?_ _)); exact BK101.out)) : gb101 ≠ gb111)); have n9_ := Aside0.mk ((by rw [hg]; exact Nat.ne_of_gt (blk_lt (g := gb101) (o := .cells #[.slice (some ad103) l0_0.length c0_0, .int .i64 a0_1] 24 (0, 0)) (by (with_reducible repeat (first | refine blk_drewN ?_ _ | refine blk_drew ?_ | refine blk_alloc ?_ _)); exact BK101.out)) : gb111 ≠ gb101)); have n10_ := Aside0.mk ((by rw [hg]; exact Nat.ne_of_lt (blk_lt (g := gb102) (o := .cells #[.int .i64 x103000_2, .int .i64 x103001_2] 92 (0, 0)) (by (with_reducible repeat (first | refine blk_drewN ?_ _ | refine blk_drew ?_ | refine blk_alloc ?_ _)); exact BK102.out)) : gb102 ≠ gb111)); have n11_ := Aside0.mk ((by rw [hg]; exact Nat.ne_of_gt (blk_lt (g := gb102) (o := .cells #[.int .i64 x103000_2, .int .i64 x103001_2] 92 (0, 0)) (by (with_reducible repeat (first | refine blk_drewN ?_ _ | refine blk_drew ?_ | refine blk_alloc ?_ _)); exact BK102.out)) : gb111 ≠ gb102)); have n12_ := Aside0.mk ((by rw [hg]; exact Nat.ne_of_lt (blk_lt (g := gb104) (o := .cells #[.bool ((rd_T55 l0_0 a1).f2.f0), .slice (some ad108) ((rd_T55 l0_0 a1).f2.f1).length c103_3] 53 (0, 0)) (by (with_reducible repeat (first | refine blk_drewN ?_ _ | refine blk_drew ?_ | refine blk_alloc ?_ _)); exact BK104.out)) : gb104 ≠ gb111)); have n13_ := Aside0.mk ((by rw [hg]; exact Nat.ne_of_gt (blk_lt (g := gb104) (o := .cells #[.bool ((rd_T55 l0_0 a1).f2.f0), .slice (some ad108) ((rd_T55 l0_0 a1).f2.f1).length c103_3] 53 (0, 0)) (by (with_reducible repeat (first | refine blk_drewN ?_ _ | refine blk_drew ?_ | refine blk_alloc ?_ _)); exact BK104.out)) : gb111 ≠ gb104)); have n14_ := Aside0.mk ((by rw [hg]; exact Nat.ne_of_lt (blk_lt (g := gb109) (o := .cells #[.int .i64 ((rd_T49 ((rd_T55 l0_0 a1).f2.f1) 0).f0), .int .i64 x110001_2] 92 (0, 0)) (by (with_reducible repeat (first | refine blk_drewN ?_ _ | refine blk_drew ?_ | refine blk_alloc ?_ _)); exact BK109.out)) : gb109 ≠ gb111)); have n15_ := Aside0.mk ((by rw [hg]; exact Nat.ne_of_gt (blk_lt (g := gb109) (o := .cells #[.int .i64 ((rd_T49 ((rd_T55 l0_0 a1).f2.f1) 0).f0), .int .i64 x110001_2] 92 (0, 0)) (by (with_reducible repeat (first | refine blk_drewN ?_ _ | refine blk_drew ?_ | refine blk_alloc ?_ _)); exact BK109.out)) : gb111 ≠ gb109)); clear BK101; clear BK102; clear BK104; clear BK109; clear HB; have BK101 := n0_; have BK102 := n1_; have BK104 := n2_; have BK109 := n3_; have HB := n4_; have BK111 := n5_; have GW111 := n6_; have GE111 := n7_; have NB101_111 := n8_; have NB111_101 := n9_; have NB102_111 := n10_; have NB111_102 := n11_; have NB104_111 := n12_; have NB111_104 := n13_; have NB109_111 := n14_; have NB111_109 := n15_; clear n0_ n1_ n2_ n3_ n4_ n5_ n6_ n7_ n8_ n9_ n10_ n11_ n12_ n13_ n14_ n15_; clear hb hbox hg; have hnb130 := NB111_101.out; have hnc130 := NB101_111.out; have hnb131 := NB111_102.out; have hnc131 := NB102_111.out; have hnb132 := NB111_104.out; have hnc132 := NB104_111.out; have hnb133 := NB111_109.out; have hnc133 := NB109_111.out; have hcz134_0 : w129.cell? ⟨gb111, 0, none⟩ = some (.int .i64 0) := (blk_cell BK111.out 0).trans rfl; have hcz134_1 : w129.cell? ⟨gb111, 1, none⟩ = some (.int .i64 0) := (blk_cell BK111.out 1).trans rfl; have hfz134_0 := blk_frozen BK111.out 0; have hfz134_1 := blk_frozen BK111.out 1; have hnb135 := NB101_102.out; have hnc135 := NB102_101.out; have hnb136 := NB101_104.out; have hnc136 := NB104_101.out; have hnb137 := NB101_109.out; have hnc137 := NB109_101.out; have hcz138_0 : w129.cell? ⟨gb101, 0, none⟩ = some (.slice (some ad103) l0_0.length c0_0) := (blk_cell BK101.out 0).trans rfl; have hcz138_1 : w129.cell? ⟨gb101, 1, none⟩ = some (.int .i64 a0_1) := (blk_cell BK101.out 1).trans rfl; have hfz138_0 := blk_frozen BK101.out 0; have hfz138_1 := blk_frozen BK101.out 1) | ((with_reducible refine gate_callee (f := 58) rfl ?_); refine goesL_ (some 73) rfl rfl Try.func58 (by kernel_rfl) rfl #[.agg #[.slice (some ad103) l0_0.length c0_0, .int .i64 a0_1], .int .i64 ((rd_T49 ((rd_T55 l0_0 a1).f2.f1) x62_2).f1), .int .i64 (wrap64 (a2 - 1))] rfl (by (try simp only [List.map_toArray, List.map_cons, List.map_nil]); first | done | rfl | (simp only [List.length_drop, List.length_take]; rfl)) ?_; (with_reducible refine (ih k2 (by have := HJ16.out; have := HK2.out; omega) _ _ l0_0 a0_1 ((rd_T49 ((rd_T55 l0_0 a1).f2.f1) x62_2).f1) (wrap64 (a2 - 1)) t112 t113 true _ ?side1 ?side2 A56.out).mono ?_); (case side1 => exact Kd.C_below HR0_0.out (by repeat (first | (with_reducible first | exact HB.out | apply below_alloc | apply pw_below_drewN | apply below_drew1 | refine below_set ?_ GE101.out | refine below_set ?_ GE102.out | refine below_set ?_ GE104.out | refine below_set ?_ GE109.out | refine below_set ?_ GE111.out) | exact HB.out))); (case side2 => exact HC0_0.out); rintro e w139 ⟨rfl, hb⟩; refine ⟨_, rfl, ?_⟩; have n0_ := Aside0.mk (blk_below (g := gb101) (o := .cells #[.slice (some ad103) l0_0.length c0_0, .int .i64 a0_1] 24 (0, 0)) (by (with_reducible repeat (first | refine blk_drewN ?_ _ | refine blk_drew ?_ | refine blk_alloc ?_ _)); refine blk_far ?_ NB101_111.out _; (with_reducible repeat (first | refine blk_drewN ?_ _ | refine blk_drew ?_ | refine blk_alloc ?_ _)); refine blk_far ?_ NB101_111.out _; (with_reducible repeat (first | refine blk_drewN ?_ _ | refine blk_drew ?_ | refine blk_alloc ?_ _)); exact BK101.out) hb); have n1_ := Aside0.mk (blk_below (g := gb102) (o := .cells #[.int .i64 x103000_2, .int .i64 x103001_2] 92 (0, 0)) (by (with_reducible repeat (first | refine blk_drewN ?_ _ | refine blk_drew ?_ | refine blk_alloc ?_ _)); refine blk_far ?_ NB102_111.out _; (with_reducible repeat (first | refine blk_drewN ?_ _ | refine blk_drew ?_ | refine blk_alloc ?_ _)); refine blk_far ?_ NB102_111.out _; (with_reducible repeat (first | refine blk_drewN ?_ _ | refine blk_drew ?_ | refine blk_alloc ?_ _)); exact BK102.out) hb); have n2_ := Aside0.mk (blk_below (g := gb104) (o := .cells #[.bool ((rd_T55 l0_0 a1).f2.f0), .slice (some ad108) ((rd_T55 l0_0 a1).f2.f1).length c103_3] 53 (0, 0)) (by (with_reducible repeat (first | refine blk_drewN ?_ _ | refine blk_drew ?_ | refine blk_alloc ?_ _)); refine blk_far ?_ NB104_111.out _; (with_reducible repeat (first | refine blk_drewN ?_ _ | refine blk_drew ?_ | refine blk_alloc ?_ _)); refine blk_far ?_ NB104_111.out _; (with_reducible repeat (first | refine blk_drewN ?_ _ | refine blk_drew ?_ | refine blk_alloc ?_ _)); exact BK104.out) hb); have n3_ := Aside0.mk (blk_below (g := gb109) (o := .cells #[.int .i64 ((rd_T49 ((rd_T55 l0_0 a1).f2.f1) 0).f0), .int .i64 x110001_2] 92 (0, 0)) (by (with_reducible repeat (first | refine blk_drewN ?_ _ | refine blk_drew ?_ | refine blk_alloc ?_ _)); refine blk_far ?_ NB109_111.out _; (with_reducible repeat (first | refine blk_drewN ?_ _ | refine blk_drew ?_ | refine blk_alloc ?_ _)); refine blk_far ?_ NB109_111.out _; (with_reducible repeat (first | refine blk_drewN ?_ _ | refine blk_drew ?_ | refine blk_alloc ?_ _)); exact BK109.out) hb); have n4_ := Aside0.mk (blk_below (g := gb111) (o := .cells #[.int .i64 ((rd_T49 ((rd_T55 l0_0 a1).f2.f1) x62_2).f0), .int .i64 ((rd_T49 ((rd_T55 l0_0 a1).f2.f1) x62_2).f1)] 49 (0, 0)) (by (with_reducible repeat (first | refine blk_drewN ?_ _ | refine blk_drew ?_ | refine blk_alloc ?_ _)); refine blk_put (cs := #[.int .i64 ((rd_T49 ((rd_T55 l0_0 a1).f2.f1) x62_2).f0), .int .i64 0]) ?_ 1 _ rfl; (with_reducible repeat (first | refine blk_drewN ?_ _ | refine blk_drew ?_ | refine blk_alloc ?_ _)); refine blk_put (cs := #[.int .i64 0, .int .i64 0]) ?_ 0 _ rfl; (with_reducible repeat (first | refine blk_drewN ?_ _ | refine blk_drew ?_ | refine blk_alloc ?_ _)); exact BK111.out) hb); have n5_ := Aside0.mk (below_step (by repeat (first | (with_reducible first | exact HB.out | apply below_alloc | apply pw_below_drewN | apply below_drew1 | refine below_set ?_ GE101.out | refine below_set ?_ GE102.out | refine below_set ?_ GE104.out | refine below_set ?_ GE109.out | refine below_set ?_ GE111.out) | exact HB.out)) hb); clear BK101; clear BK102; clear BK104; clear BK109; clear BK111; clear HB; have BK101 := n0_; have BK102 := n1_; have BK104 := n2_; have BK109 := n3_; have BK111 := n4_; have HB := n5_; clear n0_ n1_ n2_ n3_ n4_ n5_; (try clear hb); (try clear hb2); (try clear hk); (try clear hi)) | ((with_reducible refine gate_dst (N := 13) rfl ?_); refine box_event ?hg (N := 13) ?hd (cs := #[.int .i64 0, .int .i64 0]) (t := 92) ?hr ?_; (case hd => rfl); (case hg => rfl); (case hr => first | (go_simp; done) | (go_simp; rfl)); intro gb115 hg w140 hbox hb; have n0_ := Aside0.mk (blk_below (g := gb101) (o := .cells #[.slice (some ad103) l0_0.length c0_0, .int .i64 a0_1] 24 (0, 0)) (by (with_reducible repeat (first | refine blk_drewN ?_ _ | refine blk_drew ?_ | refine blk_alloc ?_ _)); exact BK101.out) hb); have n1_ := Aside0.mk (blk_below (g := gb102) (o := .cells #[.int .i64 x103000_2, .int .i64 x103001_2] 92 (0, 0)) (by (with_reducible repeat (first | refine blk_drewN ?_ _ | refine blk_drew ?_ | refine blk_alloc ?_ _)); exact BK102.out) hb); have n2_ := Aside0.mk (blk_below (g := gb104) (o := .cells #[.bool ((rd_T55 l0_0 a1).f2.f0), .slice (some ad108) ((rd_T55 l0_0 a1).f2.f1).length c103_3] 53 (0, 0)) (by (with_reducible repeat (first | refine blk_drewN ?_ _ | refine blk_drew ?_ | refine blk_alloc ?_ _)); exact BK104.out) hb); have n3_ := Aside0.mk (blk_below (g := gb109) (o := .cells #[.int .i64 ((rd_T49 ((rd_T55 l0_0 a1).f2.f1) 0).f0), .int .i64 x110001_2] 92 (0, 0)) (by (with_reducible repeat (first | refine blk_drewN ?_ _ | refine blk_drew ?_ | refine blk_alloc ?_ _)); exact BK109.out) hb); have n4_ := Aside0.mk (blk_below (g := gb111) (o := .cells #[.int .i64 ((rd_T49 ((rd_T55 l0_0 a1).f2.f1) x62_2).f0), .int .i64 ((rd_T49 ((rd_T55 l0_0 a1).f2.f1) x62_2).f1)] 49 (0, 0)) (by (with_reducible repeat (first | refine blk_drewN ?_ _ | refine blk_drew ?_ | refine blk_alloc ?_ _)); exact BK111.out) hb); have n5_ := Aside0.mk (below_step (by repeat (first | (with_reducible first | exact HB.out | apply below_alloc | apply pw_below_drewN | apply below_drew1 | refine below_set ?_ GE101.out | refine below_set ?_ GE102.out | refine below_set ?_ GE104.out | refine below_set ?_ GE109.out | refine below_set ?_ GE111.out) | exact HB.out)) hb); have n6_ := Aside0.mk (hbox); have n7_ := Aside0.mk ((by rw [hg]; exact (below_size (by repeat (first | (with_reducible first | exact HB.out | apply below_alloc | apply pw_below_drewN | apply below_drew1 | refine below_set ?_ GE101.out | refine below_set ?_ GE102.out | refine below_set ?_ GE104.out | refine below_set ?_ GE109.out | refine below_set ?_ GE111.out) | exact HB.out))) : w.heap.size ≤ gb115)); have n8_ := Aside0.mk ((by rw [hg]; exact (below_size (by repeat (first | (with_reducible first | exact HB.out | apply below_alloc | apply pw_below_drewN | apply below_drew1 | refine below_set ?_ GE101.out | refine below_set ?_ GE102.out | refine below_set ?_ GE104.out | refine below_set ?_ GE109.out | refine below_set ?_ GE111.out) | exact HB.out))) : w.heap.size ≤ gb115)); have n9_ := Aside0.mk ((by rw [hg]; exact Nat.ne_of_lt (blk_lt (g := gb101) (o := .cells #[.slice (some ad103) l0_0.length c0_0, .int .i64 a0_1] 24 (0, 0)) (by (with_reducible repeat (first | refine blk_drewN ?_ _ | refine blk_drew ?_ | refine blk_alloc ?_ _)); exact BK101.out)) : gb101 ≠ gb115)); have n10_ := Aside0.mk ((by rw [hg]; exact Nat.ne_of_gt (blk_lt (g := gb101) (o := .cells #[.slice (some ad103) l0_0.length c0_0, .int .i64 a0_1] 24 (0, 0)) (by (with_reducible repeat (first | refine blk_drewN ?_ _ | refine blk_drew ?_ | refine blk_alloc ?_ _)); exact BK101.out)) : gb115 ≠ gb101)); have n11_ := Aside0.mk ((by rw [hg]; exact Nat.ne_of_lt (blk_lt (g := gb102) (o := .cells #[.int .i64 x103000_2, .int .i64 x103001_2] 92 (0, 0)) (by (with_reducible repeat (first | refine blk_drewN ?_ _ | refine blk_drew ?_ | refine blk_alloc ?_ _)); exact BK102.out)) : gb102 ≠ gb115)); have n12_ := Aside0.mk ((by rw [hg]; exact Nat.ne_of_gt (blk_lt (g := gb102) (o := .cells #[.int .i64 x103000_2, .int .i64 x103001_2] 92 (0, 0)) (by (with_reducible repeat (first | refine blk_drewN ?_ _ | refine blk_drew ?_ | refine blk_alloc ?_ _)); exact BK102.out)) : gb115 ≠ gb102)); have n13_ := Aside0.mk ((by rw [hg]; exact Nat.ne_of_lt (blk_lt (g := gb104) (o := .cells #[.bool ((rd_T55 l0_0 a1).f2.f0), .slice (some ad108) ((rd_T55 l0_0 a1).f2.f1).length c103_3] 53 (0, 0)) (by (with_reducible repeat (first | refine blk_drewN ?_ _ | refine blk_drew ?_ | refine blk_alloc ?_ _)); exact BK104.out)) : gb104 ≠ gb115)); have n14_ := Aside0.mk ((by rw [hg]; exact Nat.ne_of_gt (blk_lt (g := gb104) (o := .cells #[.bool ((rd_T55 l0_0 a1).f2.f0), .slice (some ad108) ((rd_T55 l0_0 a1).f2.f1).length c103_3] 53 (0, 0)) (by (with_reducible repeat (first | refine blk_drewN ?_ _ | refine blk_drew ?_ | refine blk_alloc ?_ _)); exact BK104.out)) : gb115 ≠ gb104)); have n15_ := Aside0.mk ((by rw [hg]; exact Nat.ne_of_lt (blk_lt (g := gb109) (o := .cells #[.int .i64 ((rd_T49 ((rd_T55 l0_0 a1).f2.f1) 0).f0), .int .i64 x110001_2] 92 (0, 0)) (by (with_reducible repeat (first | refine blk_drewN ?_ _ | refine blk_drew ?_ | refine blk_alloc ?_ _)); exact BK109.out)) : gb109 ≠ gb115)); have n16_ := Aside0.mk ((by rw [hg]; exact Nat.ne_of_gt (blk_lt (g := gb109) (o := .cells #[.int .i64 ((rd_T49 ((rd_T55 l0_0 a1).f2.f1) 0).f0), .int .i64 x110001_2] 92 (0, 0)) (by (with_reducible repeat (first | refine blk_drewN ?_ _ | refine blk_drew ?_ | refine blk_alloc ?_ _)); exact BK109.out)) : gb115 ≠ gb109)); have n17_ := Aside0.mk ((by rw [hg]; exact Nat.ne_of_lt (blk_lt (g := gb111) (o := .cells #[.int .i64 ((rd_T49 ((rd_T55 l0_0 a1).f2.f1) x62_2).f0), .int .i64 ((rd_T49 ((rd_T55 l0_0 a1).f2.f1) x62_2).f1)] 49 (0, 0)) (by (with_reducible repeat (first | refine blk_drewN ?_ _ | refine blk_drew ?_ | refine blk_alloc ?_ _)); exact BK111.out)) : gb111 ≠ gb115)); have n18_ := Aside0.mk ((by rw [hg]; exact Nat.ne_of_gt (blk_lt (g := gb111) (o := .cells #[.int .i64 ((rd_T49 ((rd_T55 l0_0 a1).f2.f1) x62_2).f0), .int .i64 ((rd_T49 ((rd_T55 l0_0 a1).f2.f1) x62_2).f1)] 49 (0, 0)) (by (with_reducible repeat (first | refine blk_drewN ?_ _ | refine blk_drew ?_ | refine blk_alloc ?_ _)); exact BK111.out)) : gb115 ≠ gb111)); clear BK101; clear BK102; clear BK104; clear BK109; clear BK111; clear HB; have BK101 := n0_; have BK102 := n1_; have BK104 := n2_; have BK109 := n3_; have BK111 := n4_; have HB := n5_; have BK115 := n6_; have GW115 := n7_; have GE115 := n8_; have NB101_115 := n9_; have NB115_101 := n10_; have NB102_115 := n11_; have NB115_102 := n12_; have NB104_115 := n13_; have NB115_104 := n14_; have NB109_115 := n15_; have NB115_109 := n16_; have NB111_115 := n17_; have NB115_111 := n18_; clear n0_ n1_ n2_ n3_ n4_ n5_ n6_ n7_ n8_ n9_ n10_ n11_ n12_ n13_ n14_ n15_ n16_ n17_ n18_; clear hb hbox hg; have hnb141 := NB115_101.out; have hnc141 := NB101_115.out; have hnb142 := NB115_102.out; have hnc142 := NB102_115.out; have hnb143 := NB115_104.out; have hnc143 := NB104_115.out; have hnb144 := NB115_109.out; have hnc144 := NB109_115.out; have hnb145 := NB115_111.out; have hnc145 := NB111_115.out; have hcz146_0 : w140.cell? ⟨gb115, 0, none⟩ = some (.int .i64 0) := (blk_cell BK115.out 0).trans rfl; have hcz146_1 : w140.cell? ⟨gb115, 1, none⟩ = some (.int .i64 0) := (blk_cell BK115.out 1).trans rfl; have hfz146_0 := blk_frozen BK115.out 0; have hfz146_1 := blk_frozen BK115.out 1; have hcz147_0 : w140.cell? ⟨gb111, 0, none⟩ = some (.int .i64 ((rd_T49 ((rd_T55 l0_0 a1).f2.f1) x62_2).f0)) := (blk_cell BK111.out 0).trans rfl; have hcz147_1 : w140.cell? ⟨gb111, 1, none⟩ = some (.int .i64 ((rd_T49 ((rd_T55 l0_0 a1).f2.f1) x62_2).f1)) := (blk_cell BK111.out 1).trans rfl; have hfz147_0 := blk_frozen BK111.out 0; have hfz147_1 := blk_frozen BK111.out 1; have hnb148 := NB109_102.out; have hnc148 := NB102_109.out; have hnb149 := NB109_104.out; have hnc149 := NB104_109.out; have hcz150_0 : w140.cell? ⟨gb109, 0, none⟩ = some (.int .i64 ((rd_T49 ((rd_T55 l0_0 a1).f2.f1) 0).f0)) := (blk_cell BK109.out 0).trans rfl; have hcz150_1 : w140.cell? ⟨gb109, 1, none⟩ = some (.int .i64 x110001_2) := (blk_cell BK109.out 1).trans rfl; have hfz150_0 := blk_frozen BK109.out 0; have hfz150_1 := blk_frozen BK109.out 1; have hnb151 := NB102_104.out; have hnc151 := NB104_102.out; have hcz152_0 : w140.cell? ⟨gb102, 0, none⟩ = some (.int .i64 x103000_2) := (blk_cell BK102.out 0).trans rfl; have hcz152_1 : w140.cell? ⟨gb102, 1, none⟩ = some (.int .i64 x103001_2) := (blk_cell BK102.out 1).trans rfl; have hfz152_0 := blk_frozen BK102.out 0; have hfz152_1 := blk_frozen BK102.out 1))
               refine bodyPost_ret (results_ct rfl _ _ gb102 92 #[.int .i64 ((rd_T49 ((rd_T55 l0_0 a1).f2.f1) 0).f0), .int .i64 x110001_2] (0, 0) _ rfl (by (with_reducible repeat (first | refine blk_drewN ?_ _ | refine blk_drew ?_ | refine blk_alloc ?_ _)); refine blk_put (cs := #[.int .i64 ((rd_T49 ((rd_T55 l0_0 a1).f2.f1) 0).f0), .int .i64 x103001_2]) ?_ 1 _ rfl; (with_reducible repeat (first | refine blk_drewN ?_ _ | refine blk_drew ?_ | refine blk_alloc ?_ _)); refine blk_put (cs := #[.int .i64 x103000_2, .int .i64 x103001_2]) ?_ 0 _ rfl; (with_reducible repeat (first | refine blk_drewN ?_ _ | refine blk_drew ?_ | refine blk_alloc ?_ _)); refine blk_far ?_ NB102_115.out _; (with_reducible repeat (first | refine blk_drewN ?_ _ | refine blk_drew ?_ | refine blk_alloc ?_ _)); refine blk_far ?_ NB102_115.out _; (with_reducible repeat (first | refine blk_drewN ?_ _ | refine blk_drew ?_ | refine blk_alloc ?_ _)); exact BK102.out) Try.underlying92 rfl (by kernel_rfl)) rfl ?_
               exact ⟨by first | rfl | (simp [errW_none, errW_some] <;> rfl) | (simp [*, errW_none, errW_some] <;> rfl), by repeat (first | (with_reducible first | exact HB.out | apply below_alloc | apply pw_below_drewN | apply below_drew1 | refine below_set ?_ GE101.out | refine below_set ?_ GE102.out | refine below_set ?_ GE104.out | refine below_set ?_ GE109.out | refine below_set ?_ GE111.out | refine below_set ?_ GE115.out) | exact HB.out)⟩
             ·replace c57 := Bool.eq_false_iff.mpr c57
              subst c57
              have H1 : (some (((rd_T49 ((rd_T55 l0_0 a1).f2.f1) 0).f0), x110001_2, false)) = some (r1, r2, r3) := by rw [if_neg (show ¬ (false = true) by decide)] at H; exact H
              clear H
              have H := H1
              clear H1
              simp only [Option.some.injEq, Prod.mk.injEq] at H
              obtain ⟨rfl, rfl, rfl⟩ := H
              have p110 : 0 ≤ (x62_2 : Int) := of_decide_eq_true (by first | (with_reducible assumption) | assumption)
              have q110 : x62_2 < (((rd_T55 l0_0 a1).f2.f1).length : Int) := of_decide_eq_true (by first | (with_reducible assumption) | assumption)
              obtain ⟨ad110, e110, hx110_0, hx110_1⟩ := at_T49 HR103_3.out x62_2 p110 q110
              obtain rfl : ad108 = ad110 := (by injection e110)
              replace hx110_0 := (HB.out.cell (World.block_lt_of_cell? w _ hx110_0)).trans hx110_0
              replace hx110_1 := (HB.out.cell (World.block_lt_of_cell? w _ hx110_1)).trans hx110_1
              replace p110 := eq_true p110
              replace q110 := eq_true q110
              go_wp2_with (first | ((with_reducible refine gate_dst (N := 12) rfl ?_); refine box_event ?hg (N := 12) ?hd (cs := #[.int .i64 0, .int .i64 0]) (t := 49) ?hr ?_; (case hd => rfl); (case hg => rfl); (case hr => first | (go_simp; done) | (go_simp; rfl)); intro gb111 hg w153 hbox hb; have n0_ := Aside0.mk (blk_below (g := gb101) (o := .cells #[.slice (some ad103) l0_0.length c0_0, .int .i64 a0_1] 24 (0, 0)) (by (with_reducible repeat (first | refine blk_drewN ?_ _ | refine blk_drew ?_ | refine blk_alloc ?_ _)); exact BK101.out) hb); have n1_ := Aside0.mk (blk_below (g := gb102) (o := .cells #[.int .i64 x103000_2, .int .i64 x103001_2] 92 (0, 0)) (by (with_reducible repeat (first | refine blk_drewN ?_ _ | refine blk_drew ?_ | refine blk_alloc ?_ _)); exact BK102.out) hb); have n2_ := Aside0.mk (blk_below (g := gb104) (o := .cells #[.bool ((rd_T55 l0_0 a1).f2.f0), .slice (some ad108) ((rd_T55 l0_0 a1).f2.f1).length c103_3] 53 (0, 0)) (by (with_reducible repeat (first | refine blk_drewN ?_ _ | refine blk_drew ?_ | refine blk_alloc ?_ _)); exact BK104.out) hb); have n3_ := Aside0.mk (blk_below (g := gb109) (o := .cells #[.int .i64 ((rd_T49 ((rd_T55 l0_0 a1).f2.f1) 0).f0), .int .i64 x110001_2] 92 (0, 0)) (by (with_reducible repeat (first | refine blk_drewN ?_ _ | refine blk_drew ?_ | refine blk_alloc ?_ _)); exact BK109.out) hb); have n4_ := Aside0.mk (below_step (by repeat (first | (with_reducible first | exact HB.out | apply below_alloc | apply pw_below_drewN | apply below_drew1 | refine below_set ?_ GE101.out | refine below_set ?_ GE102.out | refine below_set ?_ GE104.out | refine below_set ?_ GE109.out) | exact HB.out)) hb); have n5_ := Aside0.mk (hbox); have n6_ := Aside0.mk ((by rw [hg]; exact (below_size (by repeat (first | (with_reducible first | exact HB.out | apply below_alloc | apply pw_below_drewN | apply below_drew1 | refine below_set ?_ GE101.out | refine below_set ?_ GE102.out | refine below_set ?_ GE104.out | refine below_set ?_ GE109.out) | exact HB.out))) : w.heap.size ≤ gb111)); have n7_ := Aside0.mk ((by rw [hg]; exact (below_size (by repeat (first | (with_reducible first | exact HB.out | apply below_alloc | apply pw_below_drewN | apply below_drew1 | refine below_set ?_ GE101.out | refine below_set ?_ GE102.out | refine below_set ?_ GE104.out | refine below_set ?_ GE109.out) | exact HB.out))) : w.heap.size ≤ gb111)); have n8_ := Aside0.mk ((by rw [hg]; exact Nat.ne_of_lt (blk_lt (g := gb101) (o := .cells #[.slice (some ad103) l0_0.length c0_0, .int .i64 a0_1] 24 (0, 0)) (by (with_reducible repeat (first | refine blk_drewN ?_ _ | refine blk_drew ?_ | refine blk_alloc ?_ _)); exact BK101.out)) : gb101 ≠ gb111)); have n9_ := Aside0.mk ((by rw [hg]; exact Nat.ne_of_gt (blk_lt (g := gb101) (o := .cells #[.slice (some ad103) l0_0.length c0_0, .int .i64 a0_1] 24 (0, 0)) (by (with_reducible repeat (first | refine blk_drewN ?_ _ | refine blk_drew ?_ | refine blk_alloc ?_ _)); exact BK101.out)) : gb111 ≠ gb101)); have n10_ := Aside0.mk ((by rw [hg]; exact Nat.ne_of_lt (blk_lt (g := gb102) (o := .cells #[.int .i64 x103000_2, .int .i64 x103001_2] 92 (0, 0)) (by (with_reducible repeat (first | refine blk_drewN ?_ _ | refine blk_drew ?_ | refine blk_alloc ?_ _)); exact BK102.out)) : gb102 ≠ gb111)); have n11_ := Aside0.mk ((by rw [hg]; exact Nat.ne_of_gt (blk_lt (g := gb102) (o := .cells #[.int .i64 x103000_2, .int .i64 x103001_2] 92 (0, 0)) (by (with_reducible repeat (first | refine blk_drewN ?_ _ | refine blk_drew ?_ | refine blk_alloc ?_ _)); exact BK102.out)) : gb111 ≠ gb102)); have n12_ := Aside0.mk ((by rw [hg]; exact Nat.ne_of_lt (blk_lt (g := gb104) (o := .cells #[.bool ((rd_T55 l0_0 a1).f2.f0), .slice (some ad108) ((rd_T55 l0_0 a1).f2.f1).length c103_3] 53 (0, 0)) (by (with_reducible repeat (first | refine blk_drewN ?_ _ | refine blk_drew ?_ | refine blk_alloc ?_ _)); exact BK104.out)) : gb104 ≠ gb111)); have n13_ := Aside0.mk ((by rw [hg]; exact Nat.ne_of_gt (blk_lt (g := gb104) (o := .cells #[.bool ((rd_T55 l0_0 a1).f2.f0), .slice (some ad108) ((rd_T55 l0_0 a1).f2.f1).length c103_3] 53 (0, 0)) (by (with_reducible repeat (first | refine blk_drewN ?_ _ | refine blk_drew ?_ | refine blk_alloc ?_ _)); exact BK104.out)) : gb111 ≠ gb104)); have n14_ := Aside0.mk ((by rw [hg]; exact Nat.ne_of_lt (blk_lt (g := gb109) (o := .cells #[.int .i64 ((rd_T49 ((rd_T55 l0_0 a1).f2.f1) 0).f0), .int .i64 x110001_2] 92 (0, 0)) (by (with_reducible repeat (first | refine blk_drewN ?_ _ | refine blk_drew ?_ | refine blk_alloc ?_ _)); exact BK109.out)) : gb109 ≠ gb111)); have n15_ := Aside0.mk ((by rw [hg]; exact Nat.ne_of_gt (blk_lt (g := gb109) (o := .cells #[.int .i64 ((rd_T49 ((rd_T55 l0_0 a1).f2.f1) 0).f0), .int .i64 x110001_2] 92 (0, 0)) (by (with_reducible repeat (first | refine blk_drewN ?_ _ | refine blk_drew ?_ | refine blk_alloc ?_ _)); exact BK109.out)) : gb111 ≠ gb109)); clear BK101; clear BK102; clear BK104; clear BK109; clear HB; have BK101 := n0_; have BK102 := n1_; have BK104 := n2_; have BK109 := n3_; have HB := n4_; have BK111 := n5_; have GW111 := n6_; have GE111 := n7_; have NB101_111 := n8_; have NB111_101 := n9_; have NB102_111 := n10_; have NB111_102 := n11_; have NB104_111 := n12_; have NB111_104 := n13_; have NB109_111 := n14_; have NB111_109 := n15_; clear n0_ n1_ n2_ n3_ n4_ n5_ n6_ n7_ n8_ n9_ n10_ n11_ n12_ n13_ n14_ n15_; clear hb hbox hg; have hnb154 := NB111_101.out; have hnc154 := NB101_111.out; have hnb155 := NB111_102.out; have hnc155 := NB102_111.out; have hnb156 := NB111_104.out; have hnc156 := NB104_111.out; have hnb157 := NB111_109.out; have hnc157 := NB109_111.out; have hcz158_0 : w153.cell? ⟨gb111, 0, none⟩ = some (.int .i64 0) := (blk_cell BK111.out 0).trans rfl; have hcz158_1 : w153.cell? ⟨gb111, 1, none⟩ = some (.int .i64 0) := (blk_cell BK111.out 1).trans rfl; have hfz158_0 := blk_frozen BK111.out 0; have hfz158_1 := blk_frozen BK111.out 1; have hnb159 := NB101_102.out; have hnc159 := NB102_101.out; have hnb160 := NB101_104.out; have hnc160 := NB104_101.out; have hnb161 := NB101_109.out; have hnc161 := NB109_101.out; have hcz162_0 : w153.cell? ⟨gb101, 0, none⟩ = some (.slice (some ad103) l0_0.length c0_0) := (blk_cell BK101.out 0).trans rfl; have hcz162_1 : w153.cell? ⟨gb101, 1, none⟩ = some (.int .i64 a0_1) := (blk_cell BK101.out 1).trans rfl; have hfz162_0 := blk_frozen BK101.out 0; have hfz162_1 := blk_frozen BK101.out 1) | ((with_reducible refine gate_callee (f := 58) rfl ?_); refine goesL_ (some 73) rfl rfl Try.func58 (by kernel_rfl) rfl #[.agg #[.slice (some ad103) l0_0.length c0_0, .int .i64 a0_1], .int .i64 ((rd_T49 ((rd_T55 l0_0 a1).f2.f1) x62_2).f1), .int .i64 (wrap64 (a2 - 1))] rfl (by (try simp only [List.map_toArray, List.map_cons, List.map_nil]); first | done | rfl | (simp only [List.length_drop, List.length_take]; rfl)) ?_; (with_reducible refine (ih k2 (by have := HJ16.out; have := HK2.out; omega) _ _ l0_0 a0_1 ((rd_T49 ((rd_T55 l0_0 a1).f2.f1) x62_2).f1) (wrap64 (a2 - 1)) t112 t113 false _ ?side1 ?side2 A56.out).mono ?_); (case side1 => exact Kd.C_below HR0_0.out (by repeat (first | (with_reducible first | exact HB.out | apply below_alloc | apply pw_below_drewN | apply below_drew1 | refine below_set ?_ GE101.out | refine below_set ?_ GE102.out | refine below_set ?_ GE104.out | refine below_set ?_ GE109.out | refine below_set ?_ GE111.out) | exact HB.out))); (case side2 => exact HC0_0.out); rintro e w163 ⟨rfl, hb⟩; refine ⟨_, rfl, ?_⟩; have n0_ := Aside0.mk (blk_below (g := gb101) (o := .cells #[.slice (some ad103) l0_0.length c0_0, .int .i64 a0_1] 24 (0, 0)) (by (with_reducible repeat (first | refine blk_drewN ?_ _ | refine blk_drew ?_ | refine blk_alloc ?_ _)); refine blk_far ?_ NB101_111.out _; (with_reducible repeat (first | refine blk_drewN ?_ _ | refine blk_drew ?_ | refine blk_alloc ?_ _)); refine blk_far ?_ NB101_111.out _; (with_reducible repeat (first | refine blk_drewN ?_ _ | refine blk_drew ?_ | refine blk_alloc ?_ _)); exact BK101.out) hb); have n1_ := Aside0.mk (blk_below (g := gb102) (o := .cells #[.int .i64 x103000_2, .int .i64 x103001_2] 92 (0, 0)) (by (with_reducible repeat (first | refine blk_drewN ?_ _ | refine blk_drew ?_ | refine blk_alloc ?_ _)); refine blk_far ?_ NB102_111.out _; (with_reducible repeat (first | refine blk_drewN ?_ _ | refine blk_drew ?_ | refine blk_alloc ?_ _)); refine blk_far ?_ NB102_111.out _; (with_reducible repeat (first | refine blk_drewN ?_ _ | refine blk_drew ?_ | refine blk_alloc ?_ _)); exact BK102.out) hb); have n2_ := Aside0.mk (blk_below (g := gb104) (o := .cells #[.bool ((rd_T55 l0_0 a1).f2.f0), .slice (some ad108) ((rd_T55 l0_0 a1).f2.f1).length c103_3] 53 (0, 0)) (by (with_reducible repeat (first | refine blk_drewN ?_ _ | refine blk_drew ?_ | refine blk_alloc ?_ _)); refine blk_far ?_ NB104_111.out _; (with_reducible repeat (first | refine blk_drewN ?_ _ | refine blk_drew ?_ | refine blk_alloc ?_ _)); refine blk_far ?_ NB104_111.out _; (with_reducible repeat (first | refine blk_drewN ?_ _ | refine blk_drew ?_ | refine blk_alloc ?_ _)); exact BK104.out) hb); have n3_ := Aside0.mk (blk_below (g := gb109) (o := .cells #[.int .i64 ((rd_T49 ((rd_T55 l0_0 a1).f2.f1) 0).f0), .int .i64 x110001_2] 92 (0, 0)) (by (with_reducible repeat (first | refine blk_drewN ?_ _ | refine blk_drew ?_ | refine blk_alloc ?_ _)); refine blk_far ?_ NB109_111.out _; (with_reducible repeat (first | refine blk_drewN ?_ _ | refine blk_drew ?_ | refine blk_alloc ?_ _)); refine blk_far ?_ NB109_111.out _; (with_reducible repeat (first | refine blk_drewN ?_ _ | refine blk_drew ?_ | refine blk_alloc ?_ _)); exact BK109.out) hb); have n4_ := Aside0.mk (blk_below (g := gb111) (o := .cells #[.int .i64 ((rd_T49 ((rd_T55 l0_0 a1).f2.f1) x62_2).f0), .int .i64 ((rd_T49 ((rd_T55 l0_0 a1).f2.f1) x62_2).f1)] 49 (0, 0)) (by (with_reducible repeat (first | refine blk_drewN ?_ _ | refine blk_drew ?_ | refine blk_alloc ?_ _)); refine blk_put (cs := #[.int .i64 ((rd_T49 ((rd_T55 l0_0 a1).f2.f1) x62_2).f0), .int .i64 0]) ?_ 1 _ rfl; (with_reducible repeat (first | refine blk_drewN ?_ _ | refine blk_drew ?_ | refine blk_alloc ?_ _)); refine blk_put (cs := #[.int .i64 0, .int .i64 0]) ?_ 0 _ rfl; (with_reducible repeat (first | refine blk_drewN ?_ _ | refine blk_drew ?_ | refine blk_alloc ?_ _)); exact BK111.out) hb); have n5_ := Aside0.mk (below_step (by repeat (first | (with_reducible first | exact HB.out | apply below_alloc | apply pw_below_drewN | apply below_drew1 | refine below_set ?_ GE101.out | refine below_set ?_ GE102.out | refine below_set ?_ GE104.out | refine below_set ?_ GE109.out | refine below_set ?_ GE111.out) | exact HB.out)) hb); clear BK101; clear BK102; clear BK104; clear BK109; clear BK111; clear HB; have BK101 := n0_; have BK102 := n1_; have BK104 := n2_; have BK109 := n3_; have BK111 := n4_; have HB := n5_; clear n0_ n1_ n2_ n3_ n4_ n5_; (try clear hb); (try clear hb2); (try clear hk); (try clear hi)) | ((with_reducible refine gate_dst (N := 13) rfl ?_); refine box_event ?hg (N := 13) ?hd (cs := #[.int .i64 0, .int .i64 0]) (t := 92) ?hr ?_; (case hd => rfl); (case hg => rfl); (case hr => first | (go_simp; done) | (go_simp; rfl)); intro gb115 hg w164 hbox hb; have n0_ := Aside0.mk (blk_below (g := gb101) (o := .cells #[.slice (some ad103) l0_0.length c0_0, .int .i64 a0_1] 24 (0, 0)) (by (with_reducible repeat (first | refine blk_drewN ?_ _ | refine blk_drew ?_ | refine blk_alloc ?_ _)); exact BK101.out) hb); have n1_ := Aside0.mk (blk_below (g := gb102) (o := .cells #[.int .i64 x103000_2, .int .i64 x103001_2] 92 (0, 0)) (by (with_reducible repeat (first | refine blk_drewN ?_ _ | refine blk_drew ?_ | refine blk_alloc ?_ _)); exact BK102.out) hb); have n2_ := Aside0.mk (blk_below (g := gb104) (o := .cells #[.bool ((rd_T55 l0_0 a1).f2.f0), .slice (some ad108) ((rd_T55 l0_0 a1).f2.f1).length c103_3] 53 (0, 0)) (by (with_reducible repeat (first | refine blk_drewN ?_ _ | refine blk_drew ?_ | refine blk_alloc ?_ _)); exact BK104.out) hb); have n3_ := Aside0.mk (blk_below (g := gb109) (o := .cells #[.int .i64 ((rd_T49 ((rd_T55 l0_0 a1).f2.f1) 0).f0), .int .i64 x110001_2] 92 (0, 0)) (by (with_reducible repeat (first | refine blk_drewN ?_ _ | refine blk_drew ?_ | refine blk_alloc ?_ _)); exact BK109.out) hb); have n4_ := Aside0.mk (blk_below (g := gb111) (o := .cells #[.int .i64 ((rd_T49 ((rd_T55 l0_0 a1).f2.f1) x62_2).f0), .int .i64 ((rd_T49 ((rd_T55 l0_0 a1).f2.f1) x62_2).f1)] 49 (0, 0)) (by (with_reducible repeat (first | refine blk_drewN ?_ _ | refine blk_drew ?_ | refine blk_alloc ?_ _)); exact BK111.out) hb); have n5_ := Aside0.mk (below_step (by repeat (first | (with_reducible first | exact HB.out | apply below_alloc | apply pw_below_drewN | apply below_drew1 | refine below_set ?_ GE101.out | refine below_set ?_ GE102.out | refine below_set ?_ GE104.out | refine below_set ?_ GE109.out | refine below_set ?_ GE111.out) | exact HB.out)) hb); have n6_ := Aside0.mk (hbox); have n7_ := Aside0.mk ((by rw [hg]; exact (below_size (by repeat (first | (with_reducible first | exact HB.out | apply below_alloc | apply pw_below_drewN | apply below_drew1 | refine below_set ?_ GE101.out | refine below_set ?_ GE102.out | refine below_set ?_ GE104.out | refine below_set ?_ GE109.out | refine below_set ?_ GE111.out) | exact HB.out))) : w.heap.size ≤ gb115)); have n8_ := Aside0.mk ((by rw [hg]; exact (below_size (by repeat (first | (with_reducible first | exact HB.out | apply below_alloc | apply pw_below_drewN | apply below_drew1 | refine below_set ?_ GE101.out | refine below_set ?_ GE102.out | refine below_set ?_ GE104.out | refine below_set ?_ GE109.out | refine below_set ?_ GE111.out) | exact HB.out))) : w.heap.size ≤ gb115)); have n9_ := Aside0.mk ((by rw [hg]; exact Nat.ne_of_lt (blk_lt (g := gb101) (o := .cells #[.slice (some ad103) l0_0.length c0_0, .int .i64 a0_1] 24 (0, 0)) (by (with_reducible repeat (first | refine blk_drewN ?_ _ | refine blk_drew ?_ | refine blk_alloc ?_ _)); exact BK101.out)) : gb101 ≠ gb115)); have n10_ := Aside0.mk ((by rw [hg]; exact Nat.ne_of_gt (blk_lt (g := gb101) (o := .cells #[.slice (some ad103) l0_0.length c0_0, .int .i64 a0_1] 24 (0, 0)) (by (with_reducible repeat (first | refine blk_drewN ?_ _ | refine blk_drew ?_ | refine blk_alloc ?_ _)); exact BK101.out)) : gb115 ≠ gb101)); have n11_ := Aside0.mk ((by rw [hg]; exact Nat.ne_of_lt (blk_lt (g := gb102) (o := .cells #[.int .i64 x103000_2, .int .i64 x103001_2] 92 (0, 0)) (by (with_reducible repeat (first | refine blk_drewN ?_ _ | refine blk_drew ?_ | refine blk_alloc ?_ _)); exact BK102.out)) : gb102 ≠ gb115)); have n12_ := Aside0.mk ((by rw [hg]; exact Nat.ne_of_gt (blk_lt (g := gb102) (o := .cells #[.int .i64 x103000_2, .int .i64 x103001_2] 92 (0, 0)) (by (with_reducible repeat (first | refine blk_drewN ?_ _ | refine blk_drew ?_ | refine blk_alloc ?_ _)); exact BK102.out)) : gb115 ≠ gb102)); have n13_ := Aside0.mk ((by rw [hg]; exact Nat.ne_of_lt (blk_lt (g := gb104) (o := .cells #[.bool ((rd_T55 l0_0 a1).f2.f0), .slice (some ad108) ((rd_T55 l0_0 a1).f2.f1).length c103_3] 53 (0, 0)) (by (with_reducible repeat (first | refine blk_drewN ?_ _ | refine blk_drew ?_ | refine blk_alloc ?_ _)); exact BK104.out)) : gb104 ≠ gb115)); have n14_ := Aside0.mk ((by rw [hg]; exact Nat.ne_of_gt (blk_lt (g := gb104) (o := .cells #[.bool ((rd_T55 l0_0 a1).f2.f0), .slice (some ad108) ((rd_T55 l0_0 a1).f2.f1).length c103_3] 53 (0, 0)) (by (with_reducible repeat (first | refine blk_drewN ?_ _ | refine blk_drew ?_ | refine blk_alloc ?_ _)); exact BK104.out)) : gb115 ≠ gb104)); have n15_ := Aside0.mk ((by rw [hg]; exact Nat.ne_of_lt (blk_lt (g := gb109) (o := .cells #[.int .i64 ((rd_T49 ((rd_T55 l0_0 a1).f2.f1) 0).f0), .int .i64 x110001_2] 92 (0, 0)) (by (with_reducible repeat (first | refine blk_drewN ?_ _ | refine blk_drew ?_ | refine blk_alloc ?_ _)); exact BK109.out)) : gb109 ≠ gb115)); have n16_ := Aside0.mk ((by rw [hg]; exact Nat.ne_of_gt (blk_lt (g := gb109) (o := .cells #[.int .i64 ((rd_T49 ((rd_T55 l0_0 a1).f2.f1) 0).f0), .int .i64 x110001_2] 92 (0, 0)) (by (with_reducible repeat (first | refine blk_drewN ?_ _ | refine blk_drew ?_ | refine blk_alloc ?_ _)); exact BK109.out)) : gb115 ≠ gb109)); have n17_ := Aside0.mk ((by rw [hg]; exact Nat.ne_of_lt (blk_lt (g := gb111) (o := .cells #[.int .i64 ((rd_T49 ((rd_T55 l0_0 a1).f2.f1) x62_2).f0), .int .i64 ((rd_T49 ((rd_T55 l0_0 a1).f2.f1) x62_2).f1)] 49 (0, 0)) (by (with_reducible repeat (first | refine blk_drewN ?_ _ | refine blk_drew ?_ | refine blk_alloc ?_ _)); exact BK111.out)) : gb111 ≠ gb115)); have n18_ := Aside0.mk ((by rw [hg]; exact Nat.ne_of_gt (blk_lt (g := gb111) (o := .cells #[.int .i64 ((rd_T49 ((rd_T55 l0_0 a1).f2.f1) x62_2).f0), .int .i64 ((rd_T49 ((rd_T55 l0_0 a1).f2.f1) x62_2).f1)] 49 (0, 0)) (by (with_reducible repeat (first | refine blk_drewN ?_ _ | refine blk_drew ?_ | refine blk_alloc ?_ _)); exact BK111.out)) : gb115 ≠ gb111)); clear BK101; clear BK102; clear BK104; clear BK109; clear BK111; clear HB; have BK101 := n0_; have BK102 := n1_; have BK104 := n2_; have BK109 := n3_; have BK111 := n4_; have HB := n5_; have BK115 := n6_; have GW115 := n7_; have GE115 := n8_; have NB101_115 := n9_; have NB115_101 := n10_; have NB102_115 := n11_; have NB115_102 := n12_; have NB104_115 := n13_; have NB115_104 := n14_; have NB109_115 := n15_; have NB115_109 := n16_; have NB111_115 := n17_; have NB115_111 := n18_; clear n0_ n1_ n2_ n3_ n4_ n5_ n6_ n7_ n8_ n9_ n10_ n11_ n12_ n13_ n14_ n15_ n16_ n17_ n18_; clear hb hbox hg; have hnb165 := NB115_101.out; have hnc165 := NB101_115.out; have hnb166 := NB115_102.out; have hnc166 := NB102_115.out; have hnb167 := NB115_104.out; have hnc167 := NB104_115.out; have hnb168 := NB115_109.out; have hnc168 := NB109_115.out; have hnb169 := NB115_111.out; have hnc169 := NB111_115.out; have hcz170_0 : w164.cell? ⟨gb115, 0, none⟩ = some (.int .i64 0) := (blk_cell BK115.out 0).trans rfl; have hcz170_1 : w164.cell? ⟨gb115, 1, none⟩ = some (.int .i64 0) := (blk_cell BK115.out 1).trans rfl; have hfz170_0 := blk_frozen BK115.out 0; have hfz170_1 := blk_frozen BK115.out 1; have hnb171 := NB109_102.out; have hnc171 := NB102_109.out; have hnb172 := NB109_104.out; have hnc172 := NB104_109.out; have hcz173_0 : w164.cell? ⟨gb109, 0, none⟩ = some (.int .i64 ((rd_T49 ((rd_T55 l0_0 a1).f2.f1) 0).f0)) := (blk_cell BK109.out 0).trans rfl; have hcz173_1 : w164.cell? ⟨gb109, 1, none⟩ = some (.int .i64 x110001_2) := (blk_cell BK109.out 1).trans rfl; have hfz173_0 := blk_frozen BK109.out 0; have hfz173_1 := blk_frozen BK109.out 1; have hnb174 := NB102_104.out; have hnc174 := NB104_102.out; have hcz175_0 : w164.cell? ⟨gb102, 0, none⟩ = some (.int .i64 x103000_2) := (blk_cell BK102.out 0).trans rfl; have hcz175_1 : w164.cell? ⟨gb102, 1, none⟩ = some (.int .i64 x103001_2) := (blk_cell BK102.out 1).trans rfl; have hfz175_0 := blk_frozen BK102.out 0; have hfz175_1 := blk_frozen BK102.out 1))
              refine bodyPost_ret (results_ct rfl _ _ gb102 92 #[.int .i64 ((rd_T49 ((rd_T55 l0_0 a1).f2.f1) 0).f0), .int .i64 x110001_2] (0, 0) _ rfl (by (with_reducible repeat (first | refine blk_drewN ?_ _ | refine blk_drew ?_ | refine blk_alloc ?_ _)); refine blk_put (cs := #[.int .i64 ((rd_T49 ((rd_T55 l0_0 a1).f2.f1) 0).f0), .int .i64 x103001_2]) ?_ 1 _ rfl; (with_reducible repeat (first | refine blk_drewN ?_ _ | refine blk_drew ?_ | refine blk_alloc ?_ _)); refine blk_put (cs := #[.int .i64 x103000_2, .int .i64 x103001_2]) ?_ 0 _ rfl; (with_reducible repeat (first | refine blk_drewN ?_ _ | refine blk_drew ?_ | refine blk_alloc ?_ _)); refine blk_far ?_ NB102_115.out _; (with_reducible repeat (first | refine blk_drewN ?_ _ | refine blk_drew ?_ | refine blk_alloc ?_ _)); refine blk_far ?_ NB102_115.out _; (with_reducible repeat (first | refine blk_drewN ?_ _ | refine blk_drew ?_ | refine blk_alloc ?_ _)); exact BK102.out) Try.underlying92 rfl (by kernel_rfl)) rfl ?_
              exact ⟨by first | rfl | (simp [errW_none, errW_some] <;> rfl) | (simp [*, errW_none, errW_some] <;> rfl), by repeat (first | (with_reducible first | exact HB.out | apply below_alloc | apply pw_below_drewN | apply below_drew1 | refine below_set ?_ GE101.out | refine below_set ?_ GE102.out | refine below_set ?_ GE104.out | refine below_set ?_ GE109.out | refine below_set ?_ GE111.out | refine below_set ?_ GE115.out) | exact HB.out)⟩
            ·rw [if_neg c55] at H
             exact absurd H (by simp)
           ·rw [if_neg c54] at H
            exact absurd H (by simp)
          ·rw [if_neg c53] at H
           have c53b0 : decide (x62_2 < (((rd_T55 l0_0 a1).f2.f1).length : Int)) = false := decide_eq_false c53
           clear c53
           simp only [Option.some.injEq, Prod.mk.injEq] at H
           obtain ⟨rfl, rfl, rfl⟩ := H
           have hnb176 := NB109_101.out
           have hnc176 := NB101_109.out
           have hnb177 := NB109_102.out
           have hnc177 := NB102_109.out
           have hnb178 := NB109_104.out
           have hnc178 := NB104_109.out
           have hcz179_0 : wr.cell? ⟨gb109, 0, none⟩ = some (.int .i64 ((rd_T49 ((rd_T55 l0_0 a1).f2.f1) 0).f0)) := (blk_cell BK109.out 0).trans rfl
           have hcz179_1 : wr.cell? ⟨gb109, 1, none⟩ = some (.int .i64 x110001_2) := (blk_cell BK109.out 1).trans rfl
           have hfz179_0 := blk_frozen BK109.out 0
           have hfz179_1 := blk_frozen BK109.out 1
           have hnb180 := NB102_101.out
           have hnc180 := NB101_102.out
           have hnb181 := NB102_104.out
           have hnc181 := NB104_102.out
           have hcz182_0 : wr.cell? ⟨gb102, 0, none⟩ = some (.int .i64 x103000_2) := (blk_cell BK102.out 0).trans rfl
           have hcz182_1 : wr.cell? ⟨gb102, 1, none⟩ = some (.int .i64 x103001_2) := (blk_cell BK102.out 1).trans rfl
           have hfz182_0 := blk_frozen BK102.out 0
           have hfz182_1 := blk_frozen BK102.out 1
           go_wp2
           refine bodyPost_ret (results_ct rfl _ _ gb102 92 #[.int .i64 ((rd_T49 ((rd_T55 l0_0 a1).f2.f1) 0).f0), .int .i64 x110001_2] (0, 0) _ rfl (by (with_reducible repeat (first | refine blk_drewN ?_ _ | refine blk_drew ?_ | refine blk_alloc ?_ _)); refine blk_put (cs := #[.int .i64 ((rd_T49 ((rd_T55 l0_0 a1).f2.f1) 0).f0), .int .i64 x103001_2]) ?_ 1 _ rfl; (with_reducible repeat (first | refine blk_drewN ?_ _ | refine blk_drew ?_ | refine blk_alloc ?_ _)); refine blk_put (cs := #[.int .i64 x103000_2, .int .i64 x103001_2]) ?_ 0 _ rfl; (with_reducible repeat (first | refine blk_drewN ?_ _ | refine blk_drew ?_ | refine blk_alloc ?_ _)); exact BK102.out) Try.underlying92 rfl (by kernel_rfl)) rfl ?_
           exact ⟨by first | rfl | (simp [errW_none, errW_some] <;> rfl) | (simp [*, errW_none, errW_some] <;> rfl), by repeat (first | (with_reducible first | exact HB.out | apply below_alloc | apply pw_below_drewN | apply below_drew1 | refine below_set ?_ GE101.out | refine below_set ?_ GE102.out | refine below_set ?_ GE104.out | refine below_set ?_ GE109.out) | exact HB.out)⟩
       ·rw [if_neg c47] at H
        exact absurd H (by simp)
  ·rw [if_neg c5] at H
   exact absurd H (by simp)
 ·rw [if_neg c4] at H
  exact absurd H (by simp)
end Go.Proofs.Yteiladccdenpbaa.P
end
