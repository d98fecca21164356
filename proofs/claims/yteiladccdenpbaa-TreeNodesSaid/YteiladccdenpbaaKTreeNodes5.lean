/- Texts of this claim's proof put together: HTreeNodes, PureTreeNodesV, CTreeNodes, HRow, QTreeNodes, PureTreeNodes, LawTreeNodes. -/
import Derived.Below
import Derived.Deep.Draws
import Derived.Deep.AppendLies
import Derived.Maps.AppendAt
import Derived.OwnWalk
import Derived.Laws.BytesArg
import Derived.Laws.MakeOwn
import Derived.Laws.OwnMore
import Derived.Deep.OwnRows
import Derived.Tactics
import Derived.Lib.ConvBytes
import Derived.Laws.Slices
import Derived.WalkKit
import Derived.KernelRfl
import Derived.RowKit3
import Derived.Deep.LoopGhost
import Derived.Deep.QuietTactic
import Derived.BigQuiet
import Derived.WideLaws
import Derived.Deep.DeepCutAuto
import Derived.Deep.CutBlock
import Derived.Deep.RegionHeld3
import Derived.Laws.Rows
import Derived.Lib.AppendStr
import Derived.ArgAppend
import Derived.Laws.IdiomCopy
import Derived.RowKit
import Derived.OrdersHeld
import Derived.Laws.BitsLemmas
import Derived.Laws.StructEq
import Derived.Test.YteiladccdenpbaaProg
import Derived.Shelf.RegionOpenPlain
import Derived.Shelf.Abstract
import Derived.RangeFuncNested
import Derived.RangeFuncBound
import Derived.RangeFuncCalls
import Derived.RangeFuncLeaves
import Derived.Shelf.RegionOpen
import Derived.OwnWalkIn
import Derived.TacticsInMore
import Derived.LoopNIn
import Derived.LoopIn
import Derived.Laws.EntriesVeiled
import Derived.RangeFuncBox
import Derived.ChangeArms
import Derived.DataReads
import Derived.DataElems
import Derived.SizedLaws
import Derived.Test.YteiladccdenpbaaRows
import Derived.ProofKit
import Derived.OpenShut
import Derived.ShutString
import Derived.ChangeOld
import Derived.Test.YteiladccdenpbaaKTreeNodes0
import Derived.Test.YteiladccdenpbaaKTreeNodes1
import Derived.Test.YteiladccdenpbaaKTreeNodes2
import Derived.Test.YteiladccdenpbaaKTreeNodes3
import Derived.Test.YteiladccdenpbaaKTreeNodes4
namespace Foot
end Foot
namespace Go.Proofs.Yteiladccdenpbaa
end Go.Proofs.Yteiladccdenpbaa
namespace Go.Proofs.Yteiladccdenpbaa.P
end Go.Proofs.Yteiladccdenpbaa.P
namespace Go.Proofs.Yteiladccdenpbaa.Pure
end Go.Proofs.Yteiladccdenpbaa.Pure
namespace Go.Proofs.Yteiladccdenpbaa.treeNodes
end Go.Proofs.Yteiladccdenpbaa.treeNodes
namespace Go.Proofs.YteiladccdenpbaaW.PrintLast
end Go.Proofs.YteiladccdenpbaaW.PrintLast
namespace Go.Proofs.YteiladccdenpbaaW.PrintMore
end Go.Proofs.YteiladccdenpbaaW.PrintMore
namespace Go.Proofs.YteiladccdenpbaaW.PrintWords
end Go.Proofs.YteiladccdenpbaaW.PrintWords
namespace Kd
end Kd
section
namespace Go.Proofs.Yteiladccdenpbaa.P
open Go.RowKit Go.Proofs.YteiladccdenpbaaW.PrintWords Go.Proofs.YteiladccdenpbaaW.PrintLast Go.Proofs.YteiladccdenpbaaW.PrintMore
attribute [local go_sem] max2_int min2_int max_two min_two max_three min_three max_four min_four
set_option linter.unusedVariables false
set_option linter.unusedSimpArgs false
mutual
def assartlaw07_TreeNodes.l0 : Nat → Int → Bool → List Int → List Bool → List (S49) → Int → List (S55) → Int → Option (Bool)
  | 0, _, _, _, _, _, _, _, _ => none
  | k + 1, x1, x5, x6, x7, x8, x9, x328000, x328001 => if x9 < (x6.length : Int) then (if 0 ≤ x9 then (if (rd x6 x9) < 0 then (assartlaw07_TreeNodes.j1 k x1 x5 x6 x7 x8 x9 true x328000 x328001) else (if (rd x6 x9) ≥ (x328000.length : Int) then (assartlaw07_TreeNodes.j1 k x1 x5 x6 x7 x8 x9 true x328000 x328001) else (if 0 ≤ (rd x6 x9) then (if (rd x6 x9) < (x7.length : Int) then (if rdOf false x7 (rd x6 x9) = true then (assartlaw07_TreeNodes.j1 k x1 x5 x6 x7 x8 x9 true x328000 x328001) else (if (rd x6 x9) < (x328000.length : Int) then (assartlaw07_TreeNodes.j1 k x1 x5 x6 x7 x8 x9 (((rd_T55 x328000 (rd x6 x9)).f0) == 0) x328000 x328001) else (none))) else (none)) else (none)))) else (none)) else (if 0 ≤ x1 then (if x1 < (x328000.length : Int) then (assartlaw07_TreeNodes.l1 k x1 x5 x6 x7 x8 0 x328000 x328001 ((rd_T55 x328000 x1).f2.f0) ((rd_T55 x328000 x1).f2.f1)) else (none)) else (none))
def assartlaw07_TreeNodes.j1 : Nat → Int → Bool → List Int → List Bool → List (S49) → Int → Bool → List (S55) → Int → Option (Bool)
  | 0, _, _, _, _, _, _, _, _, _ => none
  | k + 1, x1, x5, x6, x7, x8, x9, x88, x328000, x328001 => if x88 = true then (some false) else (if 0 ≤ x9 then (if x9 < (x6.length : Int) then (if 0 ≤ (rd x6 x9) then (if (rd x6 x9) < (x7.length : Int) then ((some (x7.set ((rd x6 x9) : Int).toNat true : List Bool)).bind fun y350 => (if (rd x6 x9) < (x328000.length : Int) then (if (rd_T55 x328000 (rd x6 x9)).f2.f0 = true then (if x8.length + ((rd_T55 x328000 (rd x6 x9)).f2.f1).length < 8796093022208 then (assartlaw07_TreeNodes.l0 k x1 x5 x6 y350 (x8 ++ ((rd_T55 x328000 (rd x6 x9)).f2.f1)) (wrap64 (x9 + 1)) x328000 x328001) else (none)) else (assartlaw07_TreeNodes.l0 k x1 x5 x6 y350 x8 (wrap64 (x9 + 1)) x328000 x328001)) else (none))) else (none)) else (none)) else (none)) else (none))
def assartlaw07_TreeNodes.l1 : Nat → Int → Bool → List Int → List Bool → List (S49) → Int → List (S55) → Int → Bool → List (S49) → Option (Bool)
  | 0, _, _, _, _, _, _, _, _, _, _ => none
  | k + 1, x1, x5, x6, x7, x8, x11, x328000, x328001, x360000, x360001 => if x11 < (x360001.length : Int) then (assartlaw07_TreeNodes.j3 k x1 x5 x6 x7 x8 x11 (!x360000) x328000 x328001 x360000 x360001) else (assartlaw07_TreeNodes.j3 k x1 x5 x6 x7 x8 x11 false x328000 x328001 x360000 x360001)
def assartlaw07_TreeNodes.j3 : Nat → Int → Bool → List Int → List Bool → List (S49) → Int → Bool → List (S55) → Int → Bool → List (S49) → Option (Bool)
  | 0, _, _, _, _, _, _, _, _, _, _, _ => none
  | k + 1, x1, x5, x6, x7, x8, x11, x132, x328000, x328001, x360000, x360001 => if x132 = true then (if 0 ≤ x11 then (if x11 < (x360001.length : Int) then ((tree_Right.f k x328000 x328001 ((rd_T49 x360001 x11).f1)).bind fun t361 => (if t361 = true then ((tree_High.f k x328000 x328001 ((rd_T49 x360001 x11).f1)).bind fun t363 => ((tree_High.f k x328000 x328001 x1).bind fun t364 => (if t363 = (wrap64 (t364 - 1)) then (if 0 ≤ ((rd_T49 x360001 x11).f1) then (if ((rd_T49 x360001 x11).f1) < (x7.length : Int) then (if (rdOf false x7 ((rd_T49 x360001 x11).f1) = true) then (assartlaw07_TreeNodes.l1 k x1 x5 x6 x7 x8 (wrap64 (x11 + 1)) x328000 x328001 x360000 x360001) else (some false)) else (none)) else (none)) else (some false)))) else (some false))) else (none)) else (none)) else (if x5 = true then (if (x6.length : Int) > 0 then (if 0 < (x6.length : Int) then (if (rd x6 0) = x1 then ((tree_High.f k x328000 x328001 x1).bind fun t368 => (if t368 ≥ 1 then ((tree_High.f k x328000 x328001 x1).bind fun t369 => (if t369 ≤ 20 then ((tree_Scan.f x328000 x328001 x1 0 2147483648).bind fun t370 => ((assartref04_Items.f k t370 x8).bind fun t373 => (some t373))) else (some false))) else (some false))) else (some false)) else (none)) else (some false)) else (some false))
end
def assartlaw07_TreeNodes.g (k : Nat) (l0_0 : List (S55)) (a0_1 : Int) (a1 : Int) : Option (Bool) := (assartlaw07_shown.f).bind fun t328 => ((assartref07_May.f k l0_0 a0_1 a1 60).bind fun t329 => (if t329 = true then ((tree_Nodes.f k l0_0 a0_1 a1).bind fun t330 => (if a1 < 0 then (if t328 = true then (if (t330.length : Int) = 0 then ((tree_High.f k l0_0 a0_1 a1).bind fun t333 => (if t333 = 0 then ((tree_Scan.f l0_0 a0_1 a1 0 2147483647).bind fun t334 => (some ((t334.length : Int) == 0))) else (some false))) else (some false)) else (some false)) else (if 0 ≤ (l0_0.length : Int) then (if ((l0_0.length : Int) : Int).toNat ≤ 281474976710656 then (assartlaw07_TreeNodes.l0 k a1 t328 t330 (List.replicate ((l0_0.length : Int) : Int).toNat false) (([] : List (S49))) 0 l0_0 a0_1) else (none)) else (none)))) else (some t328)))
def assartlaw07_TreeNodes.T15 : Bool × List (List Nat × List Nat) := (true, [([], []), ([0], [0]), ([], []), ([], []), ([2, 3], [2, 3]), ([4], [4]), ([1, 5], [1, 5]), ([6], [6]), ([7], [7]), ([8], [8])])
def assartlaw07_TreeNodes.B15 : List Nat := [0, 1, 0, 0, 12, 28, 63, 127, 255, 511]
theorem assartlaw07_TreeNodes.tab15 : rtab .any (opsOf Try.f6 15) = assartlaw07_TreeNodes.T15 := by kernel_rfl
theorem assartlaw07_TreeNodes.bits15 : waitsOk assartlaw07_TreeNodes.T15.2 assartlaw07_TreeNodes.B15 = true := by kernel_rfl
def assartlaw07_TreeNodes.T16 : Bool × List (List Nat × List Nat) := (true, [([], []), ([], []), ([1], [1]), ([], []), ([], []), ([3, 4], [3, 4]), ([5], [5]), ([2, 6], [2, 6]), ([7], [7]), ([8], [8]), ([9], [9]), ([0, 10], [0, 10]), ([11, 11, 0, 1, 2, 3, 4, 5, 6, 7, 8, 9, 10, 11], [0, 11])])
def assartlaw07_TreeNodes.B16 : List Nat := [0, 0, 2, 0, 0, 24, 56, 126, 254, 510, 1022, 2047, 4095]
theorem assartlaw07_TreeNodes.tab16 : rtab .any (opsOf Try.f6 16) = assartlaw07_TreeNodes.T16 := by kernel_rfl
theorem assartlaw07_TreeNodes.bits16 : waitsOk assartlaw07_TreeNodes.T16.2 assartlaw07_TreeNodes.B16 = true := by kernel_rfl
def assartlaw07_TreeNodes.T21 : Bool × List (List Nat × List Nat) := (true, [([], []), ([], []), ([1], [1]), ([], []), ([2, 3], [2, 3]), ([4], [4]), ([5], [5]), ([0, 6], [0, 6]), ([7], [7]), ([8, 7], [8]), ([9], [9]), ([9], [9]), ([11, 9], [9, 11]), ([9], [9]), ([12, 13, 9], [9, 12, 13]), ([14, 9], [9, 14]), ([15, 9], [9, 15]), ([10, 16, 9, 9], [9, 10, 16]), ([9], [9]), ([9], [9]), ([18, 19, 17, 9], [9, 18, 19]), ([20, 9], [9, 20]), ([17, 21, 9], [9, 17, 21]), ([9, 22], [9, 22]), ([23, 20], [23]), ([24], [24]), ([24], [24]), ([26, 24], [24, 26]), ([24], [24]), ([27, 28, 24], [24, 27, 28]), ([29, 24], [24, 29]), ([30, 24], [24, 30]), ([25, 31, 24], [24, 25, 31]), ([32, 24], [24, 32]), ([33, 24], [24, 33]), ([24, 34], [24, 34])])
def assartlaw07_TreeNodes.B21 : List Nat := [0, 0, 2, 0, 14, 30, 62, 127, 255, 511, 1023, 1023, 3071, 1023, 15359, 31743, 64511, 131071, 1023, 1023, 1048575, 2097151, 4194303, 8388607, 16777215, 33554431, 33554431, 100663295, 33554431, 503316479, 1040187391, 2113929215, 4294967295, 8589934591, 17179869183, 34359738367]
theorem assartlaw07_TreeNodes.tab21 : rtab .any (opsOf Try.f6 21) = assartlaw07_TreeNodes.T21 := by kernel_rfl
theorem assartlaw07_TreeNodes.bits21 : waitsOk assartlaw07_TreeNodes.T21.2 assartlaw07_TreeNodes.B21 = true := by kernel_rfl
set_option maxHeartbeats 8000000 in
set_option maxRecDepth 100000 in
theorem assartlaw07_TreeNodes.walk (k : Nat) (A0_0 : Option Addr) (c0_0 : Nat) (l0_0 : List (S55)) (a0_1 : Int) (a1 : Int) (r : Bool) (w : World) (hr0_0 : Kd.C k55 w A0_0 l0_0.length l0_0) (hc0_0 : l0_0.length ≤ c0_0) (h : assartlaw07_TreeNodes.g k l0_0 a0_1 a1 = some r) (hr : r = true) :
    Calls Try.prog 6 #[.agg #[.slice A0_0 l0_0.length c0_0, .int .i64 a0_1], .int .i64 a1] w fun e w' => e = .returned (.bool r) ∧ Below w.heap.size w w' := by
  have hu24 := Try.underlying24
  have hu53 := Try.underlying53
  have HR0_0 := Aside0.mk hr0_0
  have HC0_0 := Aside0.mk hc0_0
  clear hr0_0 hc0_0
  have HB := Aside0.mk (Below.refl w.heap.size w)
  have H : ((assartlaw07_shown.f).bind fun t328 => ((assartref07_May.f k l0_0 a0_1 a1 60).bind fun t329 => (if t329 = true then ((tree_Nodes.f k l0_0 a0_1 a1).bind fun t330 => (if a1 < 0 then (if t328 = true then (if (t330.length : Int) = 0 then ((tree_High.f k l0_0 a0_1 a1).bind fun t333 => (if t333 = 0 then ((tree_Scan.f l0_0 a0_1 a1 0 2147483647).bind fun t334 => (some ((t334.length : Int) == 0))) else (some false))) else (some false)) else (some false)) else (if 0 ≤ (l0_0.length : Int) then (if ((l0_0.length : Int) : Int).toNat ≤ 281474976710656 then (assartlaw07_TreeNodes.l0 k a1 t328 t330 (List.replicate ((l0_0.length : Int) : Int).toNat false) (([] : List (S49))) 0 l0_0 a0_1) else (none)) else (none)))) else (some t328)))) = some r := h
  clear h
  replace H := Option.bind_eq_some_iff.mp H
  obtain ⟨t328, A30, H⟩ := H
  replace H : ((assartref07_May.f k l0_0 a0_1 a1 60).bind fun t329 => (if t329 = true then ((tree_Nodes.f k l0_0 a0_1 a1).bind fun t330 => (if a1 < 0 then (if t328 = true then (if (t330.length : Int) = 0 then ((tree_High.f k l0_0 a0_1 a1).bind fun t333 => (if t333 = 0 then ((tree_Scan.f l0_0 a0_1 a1 0 2147483647).bind fun t334 => (some ((t334.length : Int) == 0))) else (some false))) else (some false)) else (some false)) else (if 0 ≤ (l0_0.length : Int) then (if ((l0_0.length : Int) : Int).toNat ≤ 281474976710656 then (assartlaw07_TreeNodes.l0 k a1 t328 t330 (List.replicate ((l0_0.length : Int) : Int).toNat false) (([] : List (S49))) 0 l0_0 a0_1) else (none)) else (none)))) else (some t328))) = some r := H
  have A3 := Aside0.mk A30
  clear A30
  replace H := Option.bind_eq_some_iff.mp H
  obtain ⟨t329, A40, H⟩ := H
  replace H : (if t329 = true then ((tree_Nodes.f k l0_0 a0_1 a1).bind fun t330 => (if a1 < 0 then (if t328 = true then (if (t330.length : Int) = 0 then ((tree_High.f k l0_0 a0_1 a1).bind fun t333 => (if t333 = 0 then ((tree_Scan.f l0_0 a0_1 a1 0 2147483647).bind fun t334 => (some ((t334.length : Int) == 0))) else (some false))) else (some false)) else (some false)) else (if 0 ≤ (l0_0.length : Int) then (if ((l0_0.length : Int) : Int).toNat ≤ 281474976710656 then (assartlaw07_TreeNodes.l0 k a1 t328 t330 (List.replicate ((l0_0.length : Int) : Int).toNat false) (([] : List (S49))) 0 l0_0 a0_1) else (none)) else (none)))) else (some t328)) = some r := H
  have A4 := Aside0.mk A40
  clear A40
  by_cases c5 : t329 = true
  · subst c5
    have H1 : ((tree_Nodes.f k l0_0 a0_1 a1).bind fun t330 => (if a1 < 0 then (if t328 = true then (if (t330.length : Int) = 0 then ((tree_High.f k l0_0 a0_1 a1).bind fun t333 => (if t333 = 0 then ((tree_Scan.f l0_0 a0_1 a1 0 2147483647).bind fun t334 => (some ((t334.length : Int) == 0))) else (some false))) else (some false)) else (some false)) else (if 0 ≤ (l0_0.length : Int) then (if ((l0_0.length : Int) : Int).toNat ≤ 281474976710656 then (assartlaw07_TreeNodes.l0 k a1 t328 t330 (List.replicate ((l0_0.length : Int) : Int).toNat false) (([] : List (S49))) 0 l0_0 a0_1) else (none)) else (none)))) = some r := by rw [if_pos rfl] at H; exact H
    clear H
    have H := H1
    clear H1
    replace H := Option.bind_eq_some_iff.mp H
    obtain ⟨t330, A60, H⟩ := H
    replace H : (if a1 < 0 then (if t328 = true then (if (t330.length : Int) = 0 then ((tree_High.f k l0_0 a0_1 a1).bind fun t333 => (if t333 = 0 then ((tree_Scan.f l0_0 a0_1 a1 0 2147483647).bind fun t334 => (some ((t334.length : Int) == 0))) else (some false))) else (some false)) else (some false)) else (if 0 ≤ (l0_0.length : Int) then (if ((l0_0.length : Int) : Int).toNat ≤ 281474976710656 then (assartlaw07_TreeNodes.l0 k a1 t328 t330 (List.replicate ((l0_0.length : Int) : Int).toNat false) (([] : List (S49))) 0 l0_0 a0_1) else (none)) else (none))) = some r := H
    have A6 := Aside0.mk A60
    clear A60
    by_cases c7 : a1 < 0
    · rw [if_pos c7] at H
      have c7b0 : decide (a1 < 0) = true := decide_eq_true c7
      clear c7
      by_cases c8 : t328 = true
      · subst c8
        have H1 : (if (t330.length : Int) = 0 then ((tree_High.f k l0_0 a0_1 a1).bind fun t333 => (if t333 = 0 then ((tree_Scan.f l0_0 a0_1 a1 0 2147483647).bind fun t334 => (some ((t334.length : Int) == 0))) else (some false))) else (some false)) = some r := by rw [if_pos rfl] at H; exact H
        clear H
        have H := H1
        clear H1
        by_cases c9 : (t330.length : Int) = 0
        · rw [if_pos c9] at H
          have c9b0 : ((t330.length : Int) == 0) = true := beq_iff_eq.mpr c9
          have c9b1 : ((t330.length : Int) != 0) = false := bne_eq_false_iff_eq.mpr c9
          clear c9
          replace H := Option.bind_eq_some_iff.mp H
          obtain ⟨t333, A100, H⟩ := H
          replace H : (if t333 = 0 then ((tree_Scan.f l0_0 a0_1 a1 0 2147483647).bind fun t334 => (some ((t334.length : Int) == 0))) else (some false)) = some r := H
          have A10 := Aside0.mk A100
          clear A100
          by_cases c11 : t333 = 0
          · rw [if_pos c11] at H
            have c11b0 : (t333 == 0) = true := beq_iff_eq.mpr c11
            have c11b1 : (t333 != 0) = false := bne_eq_false_iff_eq.mpr c11
            clear c11
            replace H := Option.bind_eq_some_iff.mp H
            obtain ⟨t334, A120, H⟩ := H
            replace H : (some ((t334.length : Int) == 0)) = some r := H
            have A12 := Aside0.mk A120
            clear A120
            obtain rfl := Option.some.inj H
            go_enter Try.func6, Try.ntmps6
            go_wp2_with (first | ((with_reducible refine gate_dst (N := 2) rfl ?_); (try (refine gate_guard (by rfl) ?_; dsimp only)); refine box_event ?hg (N := 2) ?hd (cs := #[.slice A0_0 l0_0.length c0_0, .int .i64 a0_1]) (t := 24) ?hr ?_; (case hd => rfl); (case hg => rfl); (case hr => first | (go_simp; done) | (go_simp; rfl)); intro gb327 hg w13 hbox hb; have n0_ := Aside0.mk (below_step (by repeat (first | (with_reducible first | exact HB.out | apply below_alloc | apply pw_below_drewN | apply below_drew1) | exact HB.out)) hb); have n1_ := Aside0.mk (hbox); have n2_ := Aside0.mk ((by rw [hg]; exact (below_size (by repeat (first | (with_reducible first | exact HB.out | apply below_alloc | apply pw_below_drewN | apply below_drew1) | exact HB.out))) : w.heap.size ≤ gb327)); have n3_ := Aside0.mk ((by rw [hg]; exact (below_size (by repeat (first | (with_reducible first | exact HB.out | apply below_alloc | apply pw_below_drewN | apply below_drew1) | exact HB.out))) : w.heap.size ≤ gb327)); clear HB; have HB := n0_; have BK327 := n1_; have GW327 := n2_; have GE327 := n3_; clear n0_ n1_ n2_ n3_; clear hb hbox hg) | ((with_reducible refine gate_callee (f := 15) rfl ?_); refine goesL_ (some 12) rfl rfl Try.func15 (by kernel_rfl) rfl #[] rfl (by (try simp only [List.map_toArray, List.map_cons, List.map_nil]); first | done | rfl | (simp only [List.length_drop, List.length_take]; rfl)) ?_; (with_reducible refine (assartlaw07_shown.calls  true _ A3.out).mono ?_); rintro e w14 ⟨rfl, hb⟩; refine ⟨_, rfl, ?_⟩; have n0_ := Aside0.mk (blk_below (g := gb327) (o := .cells #[.slice A0_0 l0_0.length c0_0, .int .i64 a0_1] 24 (0, 0)) (by (with_reducible repeat (first | refine blk_drewN ?_ _ | refine blk_drew ?_ | refine blk_alloc ?_ _)); exact BK327.out) hb); have n1_ := Aside0.mk (below_step (by repeat (first | (with_reducible first | exact HB.out | apply below_alloc | apply pw_below_drewN | apply below_drew1 | refine below_set ?_ GE327.out) | exact HB.out)) hb); clear BK327; clear HB; have BK327 := n0_; have HB := n1_; clear n0_ n1_; (try clear hb); (try clear hb2); (try clear hk); (try clear hi); have hcz15_0 : w14.cell? ⟨gb327, 0, none⟩ = some (.slice A0_0 l0_0.length c0_0) := (blk_cell BK327.out 0).trans rfl; have hcz15_1 : w14.cell? ⟨gb327, 1, none⟩ = some (.int .i64 a0_1) := (blk_cell BK327.out 1).trans rfl; have hfz15_0 := blk_frozen BK327.out 0; have hfz15_1 := blk_frozen BK327.out 1) | ((with_reducible refine gate_callee (f := 26) rfl ?_); refine goesL_ (some 15) rfl rfl Try.func26 (by kernel_rfl) rfl #[.agg #[.slice A0_0 l0_0.length c0_0, .int .i64 a0_1], .int .i64 a1, .int .i64 60] rfl (by (try simp only [List.map_toArray, List.map_cons, List.map_nil]); first | done | rfl | (simp only [List.length_drop, List.length_take]; rfl)) ?_; (with_reducible refine (assartref07_May.calls k _ _ l0_0 a0_1 a1 60 true _ ?side1 ?side2 A4.out).mono ?_); (case side1 => repeat (first | exact (Kd.C_below HR0_0.out HB.out) | (with_reducible refine Kd.C_alloc ?_ _) | (with_reducible refine Kd.C_drewN ?_ _) | (with_reducible refine Kd.C_drew ?_))); (case side2 => exact HC0_0.out); rintro e w16 ⟨rfl, hb⟩; refine ⟨_, rfl, ?_⟩; have n0_ := Aside0.mk (blk_below (g := gb327) (o := .cells #[.slice A0_0 l0_0.length c0_0, .int .i64 a0_1] 24 (0, 0)) (by (with_reducible repeat (first | refine blk_drewN ?_ _ | refine blk_drew ?_ | refine blk_alloc ?_ _)); exact BK327.out) hb); have n1_ := Aside0.mk (below_step (by repeat (first | (with_reducible first | exact HB.out | apply below_alloc | apply pw_below_drewN | apply below_drew1 | refine below_set ?_ GE327.out) | exact HB.out)) hb); clear BK327; clear HB; have BK327 := n0_; have HB := n1_; clear n0_ n1_; (try clear hb); (try clear hb2); (try clear hk); (try clear hi); have hcz17_0 : w16.cell? ⟨gb327, 0, none⟩ = some (.slice A0_0 l0_0.length c0_0) := (blk_cell BK327.out 0).trans rfl; have hcz17_1 : w16.cell? ⟨gb327, 1, none⟩ = some (.int .i64 a0_1) := (blk_cell BK327.out 1).trans rfl; have hfz17_0 := blk_frozen BK327.out 0; have hfz17_1 := blk_frozen BK327.out 1) | ((with_reducible refine gate_callee (f := 24) rfl ?_); refine goesL_ (some 20) rfl rfl Try.func24 (by kernel_rfl) rfl #[.agg #[.slice A0_0 l0_0.length c0_0, .int .i64 a0_1], .int .i64 a1] rfl (by (try simp only [List.map_toArray, List.map_cons, List.map_nil]); first | done | rfl | (simp only [List.length_drop, List.length_take]; rfl)) ?_; (with_reducible refine (tree_Nodes.calls k _ _ l0_0 a0_1 a1 t330 _ ?side1 ?side2 A6.out).mono ?_); (case side1 => repeat (first | exact (Kd.C_below HR0_0.out HB.out) | (with_reducible refine Kd.C_alloc ?_ _) | (with_reducible refine Kd.C_drewN ?_ _) | (with_reducible refine Kd.C_drew ?_))); (case side2 => exact HC0_0.out); rintro e w18 ⟨v331, rfl, ho0, hb⟩; refine ⟨_, rfl, ?_⟩; have n0_ := Aside0.mk (Kd.R_lower ho0 (below_size (by repeat (first | (with_reducible first | exact HB.out | apply below_alloc | apply pw_below_drewN | apply below_drew1 | refine below_set ?_ GE327.out) | exact HB.out)))); have n1_ := Aside0.mk (blk_below (g := gb327) (o := .cells #[.slice A0_0 l0_0.length c0_0, .int .i64 a0_1] 24 (0, 0)) (by (with_reducible repeat (first | refine blk_drewN ?_ _ | refine blk_drew ?_ | refine blk_alloc ?_ _)); exact BK327.out) hb); have n2_ := Aside0.mk (below_step (by repeat (first | (with_reducible first | exact HB.out | apply below_alloc | apply pw_below_drewN | apply below_drew1 | refine below_set ?_ GE327.out) | exact HB.out)) hb); clear BK327; clear HB; have HO332 := n0_; have BK327 := n1_; have HB := n2_; clear n0_ n1_ n2_; (try clear hb); (try clear hb2); (try clear hk); (try clear hi); (try clear ho0); obtain ⟨Ao19, co19, eo19⟩ := Kd.R_slice HO332.out; subst eo19; have hcz20_0 : w18.cell? ⟨gb327, 0, none⟩ = some (.slice A0_0 l0_0.length c0_0) := (blk_cell BK327.out 0).trans rfl; have hcz20_1 : w18.cell? ⟨gb327, 1, none⟩ = some (.int .i64 a0_1) := (blk_cell BK327.out 1).trans rfl; have hfz20_0 := blk_frozen BK327.out 0; have hfz20_1 := blk_frozen BK327.out 1) | (go_at_call 21; (with_reducible refine (tree_High.calls k _ _ l0_0 a0_1 a1 t333 _ ?side1 ?side2 A10.out).mono ?_); (case side1 => repeat (first | exact (Kd.C_below HR0_0.out HB.out) | (with_reducible refine Kd.C_alloc ?_ _) | (with_reducible refine Kd.C_drewN ?_ _) | (with_reducible refine Kd.C_drew ?_))); (case side2 => exact HC0_0.out); rintro e w21 ⟨rfl, hb⟩; have n0_ := Aside0.mk (Kd.R_below (by (with_reducible repeat (first | apply Kd.R_alloc | apply Kd.R_drewN | apply Kd.R_drew)); exact HO332.out) hb); have n1_ := Aside0.mk (blk_below (g := gb327) (o := .cells #[.slice A0_0 l0_0.length c0_0, .int .i64 a0_1] 24 (0, 0)) (by (with_reducible repeat (first | refine blk_drewN ?_ _ | refine blk_drew ?_ | refine blk_alloc ?_ _)); exact BK327.out) hb); have n2_ := Aside0.mk (below_step (by repeat (first | (with_reducible first | exact HB.out | apply below_alloc | apply pw_below_drewN | apply below_drew1 | refine below_set ?_ GE327.out) | exact HB.out)) hb); clear HO332; clear BK327; clear HB; have HO332 := n0_; have BK327 := n1_; have HB := n2_; clear n0_ n1_ n2_; (try clear hb); (try clear hb2); (try clear hk); (try clear hi); have hcz22_0 : w21.cell? ⟨gb327, 0, none⟩ = some (.slice A0_0 l0_0.length c0_0) := (blk_cell BK327.out 0).trans rfl; have hcz22_1 : w21.cell? ⟨gb327, 1, none⟩ = some (.int .i64 a0_1) := (blk_cell BK327.out 1).trans rfl; have hfz22_0 := blk_frozen BK327.out 0; have hfz22_1 := blk_frozen BK327.out 1) | (go_at_call 30; (with_reducible refine (tree_Scan.calls _ _ l0_0 a0_1 a1 0 2147483647 t334 _ ?side1 ?side2 A12.out).mono ?_); (case side1 => repeat (first | exact (Kd.C_below HR0_0.out HB.out) | (with_reducible refine Kd.C_alloc ?_ _) | (with_reducible refine Kd.C_drewN ?_ _) | (with_reducible refine Kd.C_drew ?_))); (case side2 => exact HC0_0.out); rintro e w23 ⟨v335, rfl, ho0, hb⟩; have n0_ := Aside0.mk (Kd.R_below (by (with_reducible repeat (first | apply Kd.R_alloc | apply Kd.R_drewN | apply Kd.R_drew)); exact HO332.out) hb); have n1_ := Aside0.mk (Kd.R_lower ho0 (below_size (by repeat (first | (with_reducible first | exact HB.out | apply below_alloc | apply pw_below_drewN | apply below_drew1 | refine below_set ?_ GE327.out) | exact HB.out)))); have n2_ := Aside0.mk (blk_below (g := gb327) (o := .cells #[.slice A0_0 l0_0.length c0_0, .int .i64 a0_1] 24 (0, 0)) (by (with_reducible repeat (first | refine blk_drewN ?_ _ | refine blk_drew ?_ | refine blk_alloc ?_ _)); exact BK327.out) hb); have n3_ := Aside0.mk (below_step (by repeat (first | (with_reducible first | exact HB.out | apply below_alloc | apply pw_below_drewN | apply below_drew1 | refine below_set ?_ GE327.out) | exact HB.out)) hb); clear HO332; clear BK327; clear HB; have HO332 := n0_; have HO336 := n1_; have BK327 := n2_; have HB := n3_; clear n0_ n1_ n2_ n3_; (try clear hb); (try clear hb2); (try clear hk); (try clear hi); (try clear ho0); obtain ⟨Ao24, co24, eo24⟩ := Kd.R_slice HO336.out; subst eo24))
            go_ret
            exact ⟨by first | rfl | (simp [errW_none, errW_some] <;> rfl) | (simp [*, errW_none, errW_some] <;> rfl), by repeat (first | (with_reducible first | exact HB.out | apply below_alloc | apply pw_below_drewN | apply below_drew1 | refine below_set ?_ GE327.out) | exact HB.out)⟩
          · rw [if_neg c11] at H
            have c11b0 : (t333 == 0) = false := beq_eq_false_iff_ne.mpr c11
            have c11b1 : (t333 != 0) = true := bne_iff_ne.mpr c11
            obtain rfl := Option.some.inj H
            cases hr
        · rw [if_neg c9] at H
          have c9b0 : ((t330.length : Int) == 0) = false := beq_eq_false_iff_ne.mpr c9
          have c9b1 : ((t330.length : Int) != 0) = true := bne_iff_ne.mpr c9
          have c9b2 : ¬ (t330 = []) := fun h_ => c9 (by rw [h_]; rfl)
          obtain rfl := Option.some.inj H
          cases hr
      · replace c8 := Bool.eq_false_iff.mpr c8
        subst c8
        have H1 : (some false) = some r := by rw [if_neg (show ¬ (false = true) by decide)] at H; exact H
        clear H
        have H := H1
        clear H1
        obtain rfl := Option.some.inj H
        cases hr
    · rw [if_neg c7] at H
      have c7b0 : decide (a1 < 0) = false := decide_eq_false c7
      clear c7
      by_cases c47 : 0 ≤ (l0_0.length : Int)
      · rw [if_pos c47] at H
        have c47b0 := eq_true c47
        have c47b1 : decide (0 ≤ (l0_0.length : Int)) = true := decide_eq_true c47
        clear c47
        by_cases c48 : ((l0_0.length : Int) : Int).toNat ≤ 281474976710656
        · rw [if_pos c48] at H
          have c48b0 := eq_true c48
          have c48b1 : decide (((l0_0.length : Int) : Int).toNat ≤ 281474976710656) = true := decide_eq_true c48
          clear c48
          obtain ⟨y337, hy337⟩ : ∃ y_ : List Bool, y_ = (List.replicate ((l0_0.length : Int) : Int).toNat false) := ⟨_, rfl⟩
          replace H : (assartlaw07_TreeNodes.l0 k a1 t328 t330 y337 (([] : List (S49))) 0 l0_0 a0_1) = some r := by first | (rw [hy337]; with_reducible exact H) | (have H2_ := (Option.bind_some _ _).symm.trans H; rw [hy337]; with_reducible exact H2_) | (have H2_ := (Option.bind_some _ _).symm.trans H; with_reducible exact H2_) | with_reducible exact H | (rw [hy337]; exact H) | exact H
          have Ny337 := Aside0.mk hy337
          clear hy337
          obtain ⟨y340, hy340⟩ : ∃ y_ : List (S49), y_ = (([] : List (S49))) := ⟨_, rfl⟩
          replace H : (assartlaw07_TreeNodes.l0 k a1 t328 t330 y337 y340 0 l0_0 a0_1) = some r := by first | (rw [hy340]; with_reducible exact H) | (have H2_ := (Option.bind_some _ _).symm.trans H; rw [hy340]; with_reducible exact H2_) | (have H2_ := (Option.bind_some _ _).symm.trans H; with_reducible exact H2_) | with_reducible exact H | (rw [hy340]; exact H) | exact H
          have Ny340 := Aside0.mk hy340
          clear hy340
          have H' := Aside0.mk H
          clear H
          go_enter Try.func6, Try.ntmps6
          go_wp2_with (first | ((with_reducible refine gate_dst (N := 2) rfl ?_); (try (refine gate_guard (by rfl) ?_; dsimp only)); refine box_event ?hg (N := 2) ?hd (cs := #[.slice A0_0 l0_0.length c0_0, .int .i64 a0_1]) (t := 24) ?hr ?_; (case hd => rfl); (case hg => rfl); (case hr => first | (go_simp; done) | (go_simp; rfl)); intro gb327 hg w49 hbox hb; have n0_ := Aside0.mk (below_step (by repeat (first | (with_reducible first | exact HB.out | apply below_alloc | apply pw_below_drewN | apply below_drew1) | exact HB.out)) hb); have n1_ := Aside0.mk (hbox); have n2_ := Aside0.mk ((by rw [hg]; exact (below_size (by repeat (first | (with_reducible first | exact HB.out | apply below_alloc | apply pw_below_drewN | apply below_drew1) | exact HB.out))) : w.heap.size ≤ gb327)); have n3_ := Aside0.mk ((by rw [hg]; exact (below_size (by repeat (first | (with_reducible first | exact HB.out | apply below_alloc | apply pw_below_drewN | apply below_drew1) | exact HB.out))) : w.heap.size ≤ gb327)); clear HB; have HB := n0_; have BK327 := n1_; have GW327 := n2_; have GE327 := n3_; clear n0_ n1_ n2_ n3_; clear hb hbox hg) | ((with_reducible refine gate_callee (f := 15) rfl ?_); refine goesL_ (some 12) rfl rfl Try.func15 (by kernel_rfl) rfl #[] rfl (by (try simp only [List.map_toArray, List.map_cons, List.map_nil]); first | done | rfl | (simp only [List.length_drop, List.length_take]; rfl)) ?_; (with_reducible refine (assartlaw07_shown.calls  t328 _ A3.out).mono ?_); rintro e w50 ⟨rfl, hb⟩; refine ⟨_, rfl, ?_⟩; have n0_ := Aside0.mk (blk_below (g := gb327) (o := .cells #[.slice A0_0 l0_0.length c0_0, .int .i64 a0_1] 24 (0, 0)) (by (with_reducible repeat (first | refine blk_drewN ?_ _ | refine blk_drew ?_ | refine blk_alloc ?_ _)); exact BK327.out) hb); have n1_ := Aside0.mk (below_step (by repeat (first | (with_reducible first | exact HB.out | apply below_alloc | apply pw_below_drewN | apply below_drew1 | refine below_set ?_ GE327.out) | exact HB.out)) hb); clear BK327; clear HB; have BK327 := n0_; have HB := n1_; clear n0_ n1_; (try clear hb); (try clear hb2); (try clear hk); (try clear hi); have hcz51_0 : w50.cell? ⟨gb327, 0, none⟩ = some (.slice A0_0 l0_0.length c0_0) := (blk_cell BK327.out 0).trans rfl; have hcz51_1 : w50.cell? ⟨gb327, 1, none⟩ = some (.int .i64 a0_1) := (blk_cell BK327.out 1).trans rfl; have hfz51_0 := blk_frozen BK327.out 0; have hfz51_1 := blk_frozen BK327.out 1) | ((with_reducible refine gate_callee (f := 26) rfl ?_); refine goesL_ (some 15) rfl rfl Try.func26 (by kernel_rfl) rfl #[.agg #[.slice A0_0 l0_0.length c0_0, .int .i64 a0_1], .int .i64 a1, .int .i64 60] rfl (by (try simp only [List.map_toArray, List.map_cons, List.map_nil]); first | done | rfl | (simp only [List.length_drop, List.length_take]; rfl)) ?_; (with_reducible refine (assartref07_May.calls k _ _ l0_0 a0_1 a1 60 true _ ?side1 ?side2 A4.out).mono ?_); (case side1 => repeat (first | exact (Kd.C_below HR0_0.out HB.out) | (with_reducible refine Kd.C_alloc ?_ _) | (with_reducible refine Kd.C_drewN ?_ _) | (with_reducible refine Kd.C_drew ?_))); (case side2 => exact HC0_0.out); rintro e w52 ⟨rfl, hb⟩; refine ⟨_, rfl, ?_⟩; have n0_ := Aside0.mk (blk_below (g := gb327) (o := .cells #[.slice A0_0 l0_0.length c0_0, .int .i64 a0_1] 24 (0, 0)) (by (with_reducible repeat (first | refine blk_drewN ?_ _ | refine blk_drew ?_ | refine blk_alloc ?_ _)); exact BK327.out) hb); have n1_ := Aside0.mk (below_step (by repeat (first | (with_reducible first | exact HB.out | apply below_alloc | apply pw_below_drewN | apply below_drew1 | refine below_set ?_ GE327.out) | exact HB.out)) hb); clear BK327; clear HB; have BK327 := n0_; have HB := n1_; clear n0_ n1_; (try clear hb); (try clear hb2); (try clear hk); (try clear hi); have hcz53_0 : w52.cell? ⟨gb327, 0, none⟩ = some (.slice A0_0 l0_0.length c0_0) := (blk_cell BK327.out 0).trans rfl; have hcz53_1 : w52.cell? ⟨gb327, 1, none⟩ = some (.int .i64 a0_1) := (blk_cell BK327.out 1).trans rfl; have hfz53_0 := blk_frozen BK327.out 0; have hfz53_1 := blk_frozen BK327.out 1) | ((with_reducible refine gate_callee (f := 24) rfl ?_); refine goesL_ (some 20) rfl rfl Try.func24 (by kernel_rfl) rfl #[.agg #[.slice A0_0 l0_0.length c0_0, .int .i64 a0_1], .int .i64 a1] rfl (by (try simp only [List.map_toArray, List.map_cons, List.map_nil]); first | done | rfl | (simp only [List.length_drop, List.length_take]; rfl)) ?_; (with_reducible refine (tree_Nodes.calls k _ _ l0_0 a0_1 a1 t330 _ ?side1 ?side2 A6.out).mono ?_); (case side1 => repeat (first | exact (Kd.C_below HR0_0.out HB.out) | (with_reducible refine Kd.C_alloc ?_ _) | (with_reducible refine Kd.C_drewN ?_ _) | (with_reducible refine Kd.C_drew ?_))); (case side2 => exact HC0_0.out); rintro e w54 ⟨v331, rfl, ho0, hb⟩; refine ⟨_, rfl, ?_⟩; have n0_ := Aside0.mk (Kd.R_lower ho0 (below_size (by repeat (first | (with_reducible first | exact HB.out | apply below_alloc | apply pw_below_drewN | apply below_drew1 | refine below_set ?_ GE327.out) | exact HB.out)))); have n1_ := Aside0.mk (blk_below (g := gb327) (o := .cells #[.slice A0_0 l0_0.length c0_0, .int .i64 a0_1] 24 (0, 0)) (by (with_reducible repeat (first | refine blk_drewN ?_ _ | refine blk_drew ?_ | refine blk_alloc ?_ _)); exact BK327.out) hb); have n2_ := Aside0.mk (below_step (by repeat (first | (with_reducible first | exact HB.out | apply below_alloc | apply pw_below_drewN | apply below_drew1 | refine below_set ?_ GE327.out) | exact HB.out)) hb); clear BK327; clear HB; have HO332 := n0_; have BK327 := n1_; have HB := n2_; clear n0_ n1_ n2_; (try clear hb); (try clear hb2); (try clear hk); (try clear hi); (try clear ho0); have hcz55_0 : w54.cell? ⟨gb327, 0, none⟩ = some (.slice A0_0 l0_0.length c0_0) := (blk_cell BK327.out 0).trans rfl; have hcz55_1 : w54.cell? ⟨gb327, 1, none⟩ = some (.int .i64 a0_1) := (blk_cell BK327.out 1).trans rfl; have hfz55_0 := blk_frozen BK327.out 0; have hfz55_1 := blk_frozen BK327.out 1) | ((with_reducible refine gate_dst (N := 45) rfl ?_); (try (refine gate_guard (by rfl) ?_; dsimp only)); refine Kd.R_make Kd.bool _ 4 rfl (N := 45) rfl 51 _ _ rfl (l0_0.length : Int) rfl rfl Try.underlying51 (.bool false) 1 info4 rfl (by decide) (by omega) false (ok := fun _ => True) (okp := fun _ => True) rfl (fun _ hk => hk) trivial (of_decide_eq_true (by first | (with_reducible assumption) | assumption)) (Nat.le_trans (Nat.mul_le_mul_right _ (of_decide_eq_true (by first | (with_reducible assumption) | assumption) : (l0_0.length : Int).toNat ≤ 281474976710656)) (by omega)) (Below.refl _ _) (Nat.le_refl _) ?_; intro v338 w56 ho57 hb hg_ hnew_; clear hg_ hnew_; (first | rw [← Ny337.out] at ho57 | (simp only [Int.reduceToNat] at ho57; rw [← Ny337.out] at ho57)); have n0_ := Aside0.mk (Kd.R_below (by (with_reducible repeat (first | apply Kd.R_alloc | apply Kd.R_drewN | apply Kd.R_drew)); exact HO332.out) hb); have n1_ := Aside0.mk (Kd.R_lower ho57 (below_size (by repeat (first | (with_reducible first | exact HB.out | apply below_alloc | apply pw_below_drewN | apply below_drew1 | refine below_set ?_ GE327.out) | exact HB.out)))); have n2_ := Aside0.mk (blk_below (g := gb327) (o := .cells #[.slice A0_0 l0_0.length c0_0, .int .i64 a0_1] 24 (0, 0)) (by (with_reducible repeat (first | refine blk_drewN ?_ _ | refine blk_drew ?_ | refine blk_alloc ?_ _)); exact BK327.out) hb); have n3_ := Aside0.mk (below_step (by repeat (first | (with_reducible first | exact HB.out | apply below_alloc | apply pw_below_drewN | apply below_drew1 | refine below_set ?_ GE327.out) | exact HB.out)) hb); clear HO332; clear BK327; clear HB; have HO332 := n0_; have HO339 := n1_; have BK327 := n2_; have HB := n3_; clear n0_ n1_ n2_ n3_; clear hb ho57) | ((with_reducible refine gate_dst (N := 46) rfl ?_); (try (refine gate_guard (by rfl) ?_; dsimp only)); refine Kd.R_lit k49 _ 49 ?hg (N := 46) ?hd (xs := ([] : List (S49))) (inner := []) (ok := fun _ => True) (okp := fun _ => True) ?hr ?hp (fun _ hk => hk) trivial (Below.refl _ _) (Nat.le_refl _) (by simp) ?_; (case hd => rfl); (case hg => rfl); (case hr => first | (go_simp; done) | (go_simp; rfl)); (case hp => exact (Reps.none _ _)); intro v341 w58 ho59 hb hg_ hnew_; clear hg_ hnew_; (first | rw [← Ny340.out] at ho59 | (simp only [Int.reduceToNat] at ho59; rw [← Ny340.out] at ho59)); have n0_ := Aside0.mk (Kd.R_below (by (with_reducible repeat (first | apply Kd.R_alloc | apply Kd.R_drewN | apply Kd.R_drew)); exact HO332.out) hb); have n1_ := Aside0.mk (Kd.R_below (by (with_reducible repeat (first | apply Kd.R_alloc | apply Kd.R_drewN | apply Kd.R_drew)); exact HO339.out) hb); have n2_ := Aside0.mk (Kd.R_lower ho59 (below_size (by repeat (first | (with_reducible first | exact HB.out | apply below_alloc | apply pw_below_drewN | apply below_drew1 | refine below_set ?_ GE327.out) | exact HB.out)))); have n3_ := Aside0.mk (blk_below (g := gb327) (o := .cells #[.slice A0_0 l0_0.length c0_0, .int .i64 a0_1] 24 (0, 0)) (by (with_reducible repeat (first | refine blk_drewN ?_ _ | refine blk_drew ?_ | refine blk_alloc ?_ _)); exact BK327.out) hb); have n4_ := Aside0.mk (below_step (by repeat (first | (with_reducible first | exact HB.out | apply below_alloc | apply pw_below_drewN | apply below_drew1 | refine below_set ?_ GE327.out) | exact HB.out)) hb); clear HO332; clear HO339; clear BK327; clear HB; have HO332 := n0_; have HO339 := n1_; have HO342 := n2_; have BK327 := n3_; have HB := n4_; clear n0_ n1_ n2_ n3_ n4_; clear hb ho59))
          go_loopg [8, 9] k (fun kq v8 v9 w' => ∃ (x7_1 : List Bool) (x8_1 : List (S49)) (x9_1 : Int), v9 = .int .i64 x9_1 ∧ Aside0 (assartlaw07_TreeNodes.l0 kq a1 t328 t330 x7_1 x8_1 x9_1 l0_0 a0_1 = some r) ∧ Aside0 (kq ≤ k) ∧ Aside0 (Kd.R (Kd.int .i64) 3 w' w.heap.size (fun _ => True) v331 t330) ∧ Aside0 (Kd.R Kd.bool 4 w' w.heap.size (fun _ => True) v338 x7_1) ∧ Aside0 (Kd.R k49 49 w' w.heap.size (fun _ => True) v8 x8_1) ∧ Aside0 (w'.heap[gb327]? = some (.cells #[(.slice A0_0 l0_0.length c0_0), .int .i64 a0_1] 24 (0, 0))) ∧ Aside0 (Below w.heap.size w w'))
          case atStart => exact ⟨(y337), (y340), (0), (by first | rfl | (simp; done) | (simp [*]; done)), H', ⟨Nat.le_refl _⟩, ⟨by (with_reducible repeat (first | apply Kd.R_alloc | apply Kd.R_drewN | apply Kd.R_drew)); exact HO332.out⟩, ⟨by (with_reducible repeat (first | apply Kd.R_alloc | apply Kd.R_drewN | apply Kd.R_drew)); exact HO339.out⟩, ⟨by (with_reducible repeat (first | apply Kd.R_alloc | apply Kd.R_drewN | apply Kd.R_drew)); exact HO342.out⟩, ⟨by (with_reducible repeat (first | refine blk_drewN ?_ _ | refine blk_drew ?_ | refine blk_alloc ?_ _)); exact BK327.out⟩, ⟨by repeat (first | (with_reducible first | exact HB.out | apply below_alloc | apply pw_below_drewN | apply below_drew1 | refine below_set ?_ GE327.out) | exact HB.out)⟩⟩
          case round =>
            clear H'
            try clear c1
            try clear c2
            try clear p2
            try clear c4
            try clear c5
            try clear c6
            try clear c7
            try clear c7b0
            try clear c8
            try clear c9
            try clear c9b0
            try clear c9b1
            try clear c9b2
            try clear c11
            try clear c11b0
            try clear c11b1
            try clear c15
            try clear c24
            try clear c26
            try clear c47
            try clear c47b0
            try clear c47b1
            try clear c48
            try clear c48b0
            try clear c48b1
            try clear hcz15_0
            try clear hcz15_1
            try clear hcz17_0
            try clear hcz17_1
            try clear hcz20_0
            try clear hcz20_1
            try clear hcz22_0
            try clear hcz22_1
            try clear hcz27_0
            try clear hcz27_1
            try clear hcz29_0
            try clear hcz29_1
            try clear hcz32_0
            try clear hcz32_1
            try clear hcz36_0
            try clear hcz36_1
            try clear hcz38_0
            try clear hcz38_1
            try clear hcz43_0
            try clear hcz43_1
            try clear hcz45_0
            try clear hcz45_1
            try clear hcz51_0
            try clear hcz51_1
            try clear hcz53_0
            try clear hcz53_1
            try clear hcz55_0
            try clear hcz55_1
            try clear hfz15_0
            try clear hfz15_1
            try clear hfz17_0
            try clear hfz17_1
            try clear hfz20_0
            try clear hfz20_1
            try clear hfz22_0
            try clear hfz22_1
            try clear hfz27_0
            try clear hfz27_1
            try clear hfz29_0
            try clear hfz29_1
            try clear hfz32_0
            try clear hfz32_1
            try clear hfz36_0
            try clear hfz36_1
            try clear hfz38_0
            try clear hfz38_1
            try clear hfz43_0
            try clear hfz43_1
            try clear hfz45_0
            try clear hfz45_1
            try clear hfz51_0
            try clear hfz51_1
            try clear hfz53_0
            try clear hfz53_1
            try clear hfz55_0
            try clear hfz55_1
            obtain ⟨x7_1, x8_1, x9_1, rfl, HA, HK1, HO_6, HO_7, HO_8, BK327, HB⟩ := hrel
            cases gk with
            | zero => exact absurd HA.out (by simp [assartlaw07_TreeNodes.l0])
            | succ k1 =>
              have H := HA.out
              clear HA
              simp only [assartlaw07_TreeNodes.l0] at H
              by_cases c60 : x9_1 < (t330.length : Int)
              · rw [if_pos c60] at H
                have c60b0 : decide (x9_1 < (t330.length : Int)) = true := decide_eq_true c60
                clear c60
                have HC61 := Aside0.mk H
                clear H
                obtain ⟨Ao62, co62, eo62⟩ := Kd.R_slice HO_6.out
                subst eo62
                go_upto_region 12 with (fail)
                go_cut [88] (fun v88 wc => ∃ (kq : Nat) (x88_60 : Bool), v88 = .bool x88_60 ∧ Aside0 (assartlaw07_TreeNodes.j1 kq a1 t328 t330 x7_1 x8_1 x9_1 x88_60 l0_0 a0_1 = some r) ∧ Aside0 (kq ≤ k1) ∧ Aside0 (Kd.R (Kd.int .i64) 3 wc w.heap.size (fun _ => True) (.slice Ao62 t330.length co62) t330) ∧ Aside0 (Kd.R Kd.bool 4 wc w.heap.size (fun _ => True) v338 x7_1) ∧ Aside0 (Kd.R k49 49 wc w.heap.size (fun _ => True) u8 x8_1) ∧ Aside0 (wc.heap[gb327]? = some (.cells #[(.slice A0_0 l0_0.length c0_0), .int .i64 a0_1] 24 (0, 0))) ∧ Aside0 (Below w.heap.size w wc))
                case first =>
                  have H := HC61.out
                  clear HC61
                  by_cases c63 : 0 ≤ x9_1
                  · rw [if_pos c63] at H
                    have c63b0 : decide (0 ≤ x9_1) = true := decide_eq_true c63
                    clear c63
                    (first | rw [c63b0] | (simp only [i64_w, i32_w]; rw [c63b0]) | skip)
                    by_cases c64 : (rd t330 x9_1) < 0
                    · rw [if_pos c64] at H
                      have c64b0 : decide ((rd t330 x9_1) < 0) = true := decide_eq_true c64
                      clear c64
                      have H' := Aside0.mk H
                      clear H
                      try go_wp2
                      have p343 : 0 ≤ (x9_1 : Int) := of_decide_eq_true (by first | (with_reducible assumption) | assumption)
                      have q343 : x9_1 < (t330.length : Int) := of_decide_eq_true (by first | (with_reducible assumption) | assumption)
                      obtain ⟨ad343, e343, hx343_0⟩ := Kd.at_int (Kd.R_reads' HO_6.out).2.2 x9_1 p343 q343
                      cases e343
                      replace p343 := eq_true p343
                      replace q343 := eq_true q343
                      have y0_ : wr.cell? (ad343.add (x9_1).toNat) = some (.int .i64 (rd t330 x9_1)) := (hx343_0)
                      go_quiet (fail)
                      try go_wp2
                      go_meet
                      case rel => exact ⟨_, (true), (by first | rfl | (simp; done) | (simp [*]; done)), H', ⟨by have := HK1.out; first | omega | exact Nat.le_refl _⟩, ⟨by (with_reducible repeat (first | apply Kd.R_alloc | apply Kd.R_drewN | apply Kd.R_drew)); exact HO_6.out⟩, ⟨by (with_reducible repeat (first | apply Kd.R_alloc | apply Kd.R_drewN | apply Kd.R_drew)); exact HO_7.out⟩, ⟨by (with_reducible repeat (first | apply Kd.R_alloc | apply Kd.R_drewN | apply Kd.R_drew)); exact HO_8.out⟩, ⟨by (with_reducible repeat (first | refine blk_drewN ?_ _ | refine blk_drew ?_ | refine blk_alloc ?_ _)); exact BK327.out⟩, ⟨by repeat (first | (with_reducible first | exact HB.out | apply below_alloc | apply pw_below_drewN | apply below_drew1 | refine below_set ?_ GE327.out) | exact HB.out)⟩⟩
                    · rw [if_neg c64] at H
                      have c64b0 : decide ((rd t330 x9_1) < 0) = false := decide_eq_false c64
                      clear c64
                      by_cases c66 : (rd t330 x9_1) ≥ (l0_0.length : Int)
                      · rw [if_pos c66] at H
                        have c66b0 : decide ((l0_0.length : Int) ≤ (rd t330 x9_1)) = true := decide_eq_true c66
                        clear c66
                        have H' := Aside0.mk H
                        clear H
                        try go_wp2
                        have p343 : 0 ≤ (x9_1 : Int) := of_decide_eq_true (by first | (with_reducible assumption) | assumption)
                        have q343 : x9_1 < (t330.length : Int) := of_decide_eq_true (by first | (with_reducible assumption) | assumption)
                        obtain ⟨ad343, e343, hx343_0⟩ := Kd.at_int (Kd.R_reads' HO_6.out).2.2 x9_1 p343 q343
                        cases e343
                        replace p343 := eq_true p343
                        replace q343 := eq_true q343
                        have p344 : 0 ≤ (x9_1 : Int) := of_decide_eq_true (by first | (with_reducible assumption) | assumption)
                        have q344 : x9_1 < (t330.length : Int) := of_decide_eq_true (by first | (with_reducible assumption) | assumption)
                        obtain ⟨ad344, e344, hx344_0⟩ := Kd.at_int (Kd.R_reads' HO_6.out).2.2 x9_1 p344 q344
                        obtain rfl : ad343 = ad344 := (by injection e344)
                        replace p344 := eq_true p344
                        replace q344 := eq_true q344
                        obtain ⟨y0_, y1_, y2_, y3_⟩ : wr.cell? ⟨gb327, 0, none⟩ = some (.slice A0_0 l0_0.length c0_0) ∧ wr.cell? ⟨gb327, 1, none⟩ = some (.int .i64 a0_1) ∧ wr.cell? (ad343.add (x9_1).toNat) = some (.int .i64 (rd t330 x9_1)) ∧ wr.cell? (ad343.add (x9_1).toNat) = some (.int .i64 (rd t330 x9_1)) := ⟨(blk_cell BK327.out 0).trans rfl, (blk_cell BK327.out 1).trans rfl, hx343_0, hx344_0⟩
                        go_quiet (fail)
                        try go_wp2
                        go_meet
                        case rel => exact ⟨_, (true), (by first | rfl | (simp; done) | (simp [*]; done)), H', ⟨by have := HK1.out; first | omega | exact Nat.le_refl _⟩, ⟨by (with_reducible repeat (first | apply Kd.R_alloc | apply Kd.R_drewN | apply Kd.R_drew)); exact HO_6.out⟩, ⟨by (with_reducible repeat (first | apply Kd.R_alloc | apply Kd.R_drewN | apply Kd.R_drew)); exact HO_7.out⟩, ⟨by (with_reducible repeat (first | apply Kd.R_alloc | apply Kd.R_drewN | apply Kd.R_drew)); exact HO_8.out⟩, ⟨by (with_reducible repeat (first | refine blk_drewN ?_ _ | refine blk_drew ?_ | refine blk_alloc ?_ _)); exact BK327.out⟩, ⟨by repeat (first | (with_reducible first | exact HB.out | apply below_alloc | apply pw_below_drewN | apply below_drew1 | refine below_set ?_ GE327.out) | exact HB.out)⟩⟩
                      · rw [if_neg c66] at H
                        have c66b0 : decide ((l0_0.length : Int) ≤ (rd t330 x9_1)) = false := decide_eq_false c66
                        clear c66
                        by_cases c68 : 0 ≤ (rd t330 x9_1)
                        · rw [if_pos c68] at H
                          have c68b0 : decide (0 ≤ (rd t330 x9_1)) = true := decide_eq_true c68
                          clear c68
                          by_cases c69 : (rd t330 x9_1) < (x7_1.length : Int)
                          · rw [if_pos c69] at H
                            have c69b0 : decide ((rd t330 x9_1) < (x7_1.length : Int)) = true := decide_eq_true c69
                            clear c69
                            obtain ⟨bq70, hbq70⟩ : ∃ b_ : Bool, b_ = (rdOf false x7_1 (rd t330 x9_1)) := ⟨_, rfl⟩
                            replace H : (if bq70 = true then (assartlaw07_TreeNodes.j1 k1 a1 t328 t330 x7_1 x8_1 x9_1 true l0_0 a0_1) else (if (rd t330 x9_1) < (l0_0.length : Int) then (assartlaw07_TreeNodes.j1 k1 a1 t328 t330 x7_1 x8_1 x9_1 (((rd_T55 l0_0 (rd t330 x9_1)).f0) == 0) l0_0 a0_1) else (none))) = some r := by rw [← hbq70] at H; exact H
                            have Nbq70 := Aside0.mk hbq70
                            clear hbq70
                            by_cases c71 : bq70 = true
                            · subst c71
                              have H1 : (assartlaw07_TreeNodes.j1 k1 a1 t328 t330 x7_1 x8_1 x9_1 true l0_0 a0_1) = some r := by rw [if_pos rfl] at H; exact H
                              clear H
                              have H := H1
                              clear H1
                              have H' := Aside0.mk H
                              clear H
                              try go_wp2
                              have p343 : 0 ≤ (x9_1 : Int) := of_decide_eq_true (by first | (with_reducible assumption) | assumption)
                              have q343 : x9_1 < (t330.length : Int) := of_decide_eq_true (by first | (with_reducible assumption) | assumption)
                              obtain ⟨ad343, e343, hx343_0⟩ := Kd.at_int (Kd.R_reads' HO_6.out).2.2 x9_1 p343 q343
                              cases e343
                              replace p343 := eq_true p343
                              replace q343 := eq_true q343
                              have p344 : 0 ≤ (x9_1 : Int) := of_decide_eq_true (by first | (with_reducible assumption) | assumption)
                              have q344 : x9_1 < (t330.length : Int) := of_decide_eq_true (by first | (with_reducible assumption) | assumption)
                              obtain ⟨ad344, e344, hx344_0⟩ := Kd.at_int (Kd.R_reads' HO_6.out).2.2 x9_1 p344 q344
                              obtain rfl : ad343 = ad344 := (by injection e344)
                              replace p344 := eq_true p344
                              replace q344 := eq_true q344
                              have p345 : 0 ≤ (x9_1 : Int) := of_decide_eq_true (by first | (with_reducible assumption) | assumption)
                              have q345 : x9_1 < (t330.length : Int) := of_decide_eq_true (by first | (with_reducible assumption) | assumption)
                              obtain ⟨ad345, e345, hx345_0⟩ := Kd.at_int (Kd.R_reads' HO_6.out).2.2 x9_1 p345 q345
                              obtain rfl : ad343 = ad345 := (by injection e345)
                              replace p345 := eq_true p345
                              replace q345 := eq_true q345
                              obtain ⟨Ao73, co73, eo73⟩ := Kd.R_slice HO_7.out
                              (first | subst eo73 | (injection eo73 with f1_ f2_ f3_; have f4_ := f1_.symm; have f5_ := f3_.symm; clear f1_ f2_ f3_; subst f4_; subst f5_))
                              have p346 : 0 ≤ ((rd t330 x9_1) : Int) := of_decide_eq_true (by first | (with_reducible assumption) | assumption)
                              have q346 : (rd t330 x9_1) < (x7_1.length : Int) := of_decide_eq_true (by first | (with_reducible assumption) | assumption)
                              obtain ⟨ad346, e346, hx346_0⟩ := Kd.at_bool (Kd.R_reads' HO_7.out).2.2 (rd t330 x9_1) p346 q346
                              (try rw [← Nbq70.out] at hx346_0)
                              (try rw [← Nbq70.out] at hw346_0)
                              cases e346
                              replace p346 := eq_true p346
                              replace q346 := eq_true q346
                              obtain ⟨y0_, y1_, y2_, y3_, y4_, y5_⟩ : wr.cell? ⟨gb327, 0, none⟩ = some (.slice A0_0 l0_0.length c0_0) ∧ wr.cell? ⟨gb327, 1, none⟩ = some (.int .i64 a0_1) ∧ wr.cell? (ad343.add (x9_1).toNat) = some (.int .i64 (rd t330 x9_1)) ∧ wr.cell? (ad343.add (x9_1).toNat) = some (.int .i64 (rd t330 x9_1)) ∧ wr.cell? (ad343.add (x9_1).toNat) = some (.int .i64 (rd t330 x9_1)) ∧ wr.cell? (ad346.add ((rd t330 x9_1)).toNat) = some (.bool true) := ⟨(blk_cell BK327.out 0).trans rfl, (blk_cell BK327.out 1).trans rfl, hx343_0, hx344_0, hx345_0, hx346_0⟩
                              go_quiet (fail)
                              try go_wp2
                              go_meet
                              case rel => exact ⟨_, (true), (by first | rfl | (simp; done) | (simp [*]; done)), H', ⟨by have := HK1.out; first | omega | exact Nat.le_refl _⟩, ⟨by (with_reducible repeat (first | apply Kd.R_alloc | apply Kd.R_drewN | apply Kd.R_drew)); exact HO_6.out⟩, ⟨by (with_reducible repeat (first | apply Kd.R_alloc | apply Kd.R_drewN | apply Kd.R_drew)); exact HO_7.out⟩, ⟨by (with_reducible repeat (first | apply Kd.R_alloc | apply Kd.R_drewN | apply Kd.R_drew)); exact HO_8.out⟩, ⟨by (with_reducible repeat (first | refine blk_drewN ?_ _ | refine blk_drew ?_ | refine blk_alloc ?_ _)); exact BK327.out⟩, ⟨by repeat (first | (with_reducible first | exact HB.out | apply below_alloc | apply pw_below_drewN | apply below_drew1 | refine below_set ?_ GE327.out) | exact HB.out)⟩⟩
                            · replace c71 := Bool.eq_false_iff.mpr c71
                              subst c71
                              have H1 : (if (rd t330 x9_1) < (l0_0.length : Int) then (assartlaw07_TreeNodes.j1 k1 a1 t328 t330 x7_1 x8_1 x9_1 (((rd_T55 l0_0 (rd t330 x9_1)).f0) == 0) l0_0 a0_1) else (none)) = some r := by rw [if_neg (show ¬ (false = true) by decide)] at H; exact H
                              clear H
                              have H := H1
                              clear H1
                              by_cases c74 : (rd t330 x9_1) < (l0_0.length : Int)
                              · rw [if_pos c74] at H
                                have c74b0 : decide ((rd t330 x9_1) < (l0_0.length : Int)) = true := decide_eq_true c74
                                clear c74
                                have H' := Aside0.mk H
                                clear H
                                try go_wp2
                                have p343 : 0 ≤ (x9_1 : Int) := of_decide_eq_true (by first | (with_reducible assumption) | assumption)
                                have q343 : x9_1 < (t330.length : Int) := of_decide_eq_true (by first | (with_reducible assumption) | assumption)
                                obtain ⟨ad343, e343, hx343_0⟩ := Kd.at_int (Kd.R_reads' HO_6.out).2.2 x9_1 p343 q343
                                cases e343
                                replace p343 := eq_true p343
                                replace q343 := eq_true q343
                                have p344 : 0 ≤ (x9_1 : Int) := of_decide_eq_true (by first | (with_reducible assumption) | assumption)
                                have q344 : x9_1 < (t330.length : Int) := of_decide_eq_true (by first | (with_reducible assumption) | assumption)
                                obtain ⟨ad344, e344, hx344_0⟩ := Kd.at_int (Kd.R_reads' HO_6.out).2.2 x9_1 p344 q344
                                obtain rfl : ad343 = ad344 := (by injection e344)
                                replace p344 := eq_true p344
                                replace q344 := eq_true q344
                                have p345 : 0 ≤ (x9_1 : Int) := of_decide_eq_true (by first | (with_reducible assumption) | assumption)
                                have q345 : x9_1 < (t330.length : Int) := of_decide_eq_true (by first | (with_reducible assumption) | assumption)
                                obtain ⟨ad345, e345, hx345_0⟩ := Kd.at_int (Kd.R_reads' HO_6.out).2.2 x9_1 p345 q345
                                obtain rfl : ad343 = ad345 := (by injection e345)
                                replace p345 := eq_true p345
                                replace q345 := eq_true q345
                                obtain ⟨Ao76, co76, eo76⟩ := Kd.R_slice HO_7.out
                                (first | subst eo76 | (injection eo76 with f1_ f2_ f3_; have f4_ := f1_.symm; have f5_ := f3_.symm; clear f1_ f2_ f3_; subst f4_; subst f5_))
                                have p346 : 0 ≤ ((rd t330 x9_1) : Int) := of_decide_eq_true (by first | (with_reducible assumption) | assumption)
                                have q346 : (rd t330 x9_1) < (x7_1.length : Int) := of_decide_eq_true (by first | (with_reducible assumption) | assumption)
                                obtain ⟨ad346, e346, hx346_0⟩ := Kd.at_bool (Kd.R_reads' HO_7.out).2.2 (rd t330 x9_1) p346 q346
                                (try rw [← Nbq70.out] at hx346_0)
                                (try rw [← Nbq70.out] at hw346_0)
                                cases e346
                                replace p346 := eq_true p346
                                replace q346 := eq_true q346
                                have p347 : 0 ≤ (x9_1 : Int) := of_decide_eq_true (by first | (with_reducible assumption) | assumption)
                                have q347 : x9_1 < (t330.length : Int) := of_decide_eq_true (by first | (with_reducible assumption) | assumption)
                                obtain ⟨ad347, e347, hx347_0⟩ := Kd.at_int (Kd.R_reads' HO_6.out).2.2 x9_1 p347 q347
                                obtain rfl : ad343 = ad347 := (by injection e347)
                                replace p347 := eq_true p347
                                replace q347 := eq_true q347
                                have p348 : 0 ≤ ((rd t330 x9_1) : Int) := of_decide_eq_true (by first | (with_reducible assumption) | assumption)
                                have q348 : (rd t330 x9_1) < (l0_0.length : Int) := of_decide_eq_true (by first | (with_reducible assumption) | assumption)
                                obtain ⟨ad348, A348_3, c348_3, e348, hx348_0, hx348_1, hx348_2, hx348_3, hl348_3, hi348_3⟩ := at_T55 HR0_0.out (rd t330 x9_1) p348 q348
                                have hw348_3 := hx348_3
                                have hw348_2 := hx348_2
                                have hw348_1 := hx348_1
                                have hw348_0 := hx348_0
                                (try rw [← Nbq70.out] at hx348_1)
                                (try rw [← Nbq70.out] at hw348_1)
                                (try rw [← Nbq70.out] at hx348_2)
                                (try rw [← Nbq70.out] at hw348_2)
                                cases e348
                                replace hx348_0 := (HB.out.cell (World.block_lt_of_cell? w _ hx348_0)).trans hx348_0
                                replace hx348_1 := (HB.out.cell (World.block_lt_of_cell? w _ hx348_1)).trans hx348_1
                                replace hx348_2 := (HB.out.cell (World.block_lt_of_cell? w _ hx348_2)).trans hx348_2
                                replace hx348_3 := (HB.out.cell (World.block_lt_of_cell? w _ hx348_3)).trans hx348_3
                                have HR348_3 := Aside0.mk hi348_3
                                have HC348_3 := Aside0.mk hl348_3
                                clear hi348_3 hl348_3
                                replace p348 := eq_true p348
                                replace q348 := eq_true q348
                                obtain ⟨y0_, y1_, y2_, y3_, y4_, y5_, y6_, y7_, y8_, y9_, y10_⟩ : wr.cell? ⟨gb327, 0, none⟩ = some (.slice (some ad348) l0_0.length c0_0) ∧ wr.cell? ⟨gb327, 1, none⟩ = some (.int .i64 a0_1) ∧ wr.cell? (ad343.add (x9_1).toNat) = some (.int .i64 (rd t330 x9_1)) ∧ wr.cell? (ad343.add (x9_1).toNat) = some (.int .i64 (rd t330 x9_1)) ∧ wr.cell? (ad343.add (x9_1).toNat) = some (.int .i64 (rd t330 x9_1)) ∧ wr.cell? (ad346.add ((rd t330 x9_1)).toNat) = some (.bool false) ∧ wr.cell? (ad343.add (x9_1).toNat) = some (.int .i64 (rd t330 x9_1)) ∧ wr.cell? (ad348.add (((rd t330 x9_1)).toNat * 4)) = some (.int .i64 ((rd_T55 l0_0 (rd t330 x9_1)).f0)) ∧ wr.cell? ⟨(ad348.add (((rd t330 x9_1)).toNat * 4)).block, (ad348.add (((rd t330 x9_1)).toNat * 4)).off + 1, none⟩ = some (.bool ((rd_T55 l0_0 (rd t330 x9_1)).f1)) ∧ wr.cell? ⟨(ad348.add (((rd t330 x9_1)).toNat * 4)).block, (ad348.add (((rd t330 x9_1)).toNat * 4)).off + 2, none⟩ = some (.bool ((rd_T55 l0_0 (rd t330 x9_1)).f2.f0)) ∧ wr.cell? ⟨(ad348.add (((rd t330 x9_1)).toNat * 4)).block, (ad348.add (((rd t330 x9_1)).toNat * 4)).off + 3, none⟩ = some (.slice A348_3 ((rd_T55 l0_0 (rd t330 x9_1)).f2.f1).length c348_3) := ⟨(blk_cell BK327.out 0).trans rfl, (blk_cell BK327.out 1).trans rfl, hx343_0, hx344_0, hx345_0, hx346_0, hx347_0, ((HB.out.cell (World.block_lt_of_cell? w _ hw348_0)).trans hw348_0), ((HB.out.cell (World.block_lt_of_cell? w _ hw348_1)).trans hw348_1), ((HB.out.cell (World.block_lt_of_cell? w _ hw348_2)).trans hw348_2), ((HB.out.cell (World.block_lt_of_cell? w _ hw348_3)).trans hw348_3)⟩
                                go_quiet (fail)
                                try go_wp2
                                go_meet
                                case rel => exact ⟨_, ((((rd_T55 l0_0 (rd t330 x9_1)).f0) == 0)), (by first | rfl | (simp; done) | (simp [*]; done)), H', ⟨by have := HK1.out; first | omega | exact Nat.le_refl _⟩, ⟨by (with_reducible repeat (first | apply Kd.R_alloc | apply Kd.R_drewN | apply Kd.R_drew)); exact HO_6.out⟩, ⟨by (with_reducible repeat (first | apply Kd.R_alloc | apply Kd.R_drewN | apply Kd.R_drew)); exact HO_7.out⟩, ⟨by (with_reducible repeat (first | apply Kd.R_alloc | apply Kd.R_drewN | apply Kd.R_drew)); exact HO_8.out⟩, ⟨by (with_reducible repeat (first | refine blk_drewN ?_ _ | refine blk_drew ?_ | refine blk_alloc ?_ _)); exact BK327.out⟩, ⟨by repeat (first | (with_reducible first | exact HB.out | apply below_alloc | apply pw_below_drewN | apply below_drew1 | refine below_set ?_ GE327.out) | exact HB.out)⟩⟩
                              · rw [if_neg c74] at H
                                exact absurd H (by simp)
                          · rw [if_neg c69] at H
                            exact absurd H (by simp)
                        · rw [if_neg c68] at H
                          exact absurd H (by simp)
                  · rw [if_neg c63] at H
                    exact absurd H (by simp)
                case rest =>
                  clear HC61
                  try clear p2
                  try clear c3
                  try clear p3
                  try clear q3
                  try clear hx3
                  try clear c6
                  try clear c7
                  try clear q7
                  try clear c34
                  try clear p34
                  try clear q34
                  try clear hx34
                  try clear c63
                  try clear c68
                  try clear c69
                  try clear q70
                  try clear c71
                  try clear c74
                  try clear c74b0
                  try clear hx343_0
                  try clear hx344_0
                  try clear hx345_0
                  try clear hx346_0
                  try clear hx347_0
                  try clear hx348_0
                  try clear hx348_1
                  try clear hx348_2
                  try clear hx348_3
                  try clear p343
                  try clear p344
                  try clear p345
                  try clear p346
                  try clear p347
                  try clear p348
                  try clear q343
                  try clear q344
                  try clear q345
                  try clear q346
                  try clear q347
                  try clear q348
                  obtain ⟨kq, x88_60, rfl, HA, HJ60, HO_6, HO_7, HO_8, BK327, HB⟩ := hcut
                  cases kq with
                  | zero => exact absurd HA.out (by simp [assartlaw07_TreeNodes.j1])
                  | succ kj60 =>
                    have H := HA.out
                    clear HA
                    simp only [assartlaw07_TreeNodes.j1] at H
                    by_cases c77 : x88_60 = true
                    · subst c77
                      have H1 : (some false) = some r := by rw [if_pos rfl] at H; exact H
                      clear H
                      have H := H1
                      clear H1
                      obtain rfl := Option.some.inj H
                      cases hr
                    · replace c77 := Bool.eq_false_iff.mpr c77
                      subst c77
                      have H1 : (if 0 ≤ x9_1 then (if x9_1 < (t330.length : Int) then (if 0 ≤ (rd t330 x9_1) then (if (rd t330 x9_1) < (x7_1.length : Int) then ((some (x7_1.set ((rd t330 x9_1) : Int).toNat true : List Bool)).bind fun y350 => (if (rd t330 x9_1) < (l0_0.length : Int) then (if (rd_T55 l0_0 (rd t330 x9_1)).f2.f0 = true then (if x8_1.length + ((rd_T55 l0_0 (rd t330 x9_1)).f2.f1).length < 8796093022208 then (assartlaw07_TreeNodes.l0 kj60 a1 t328 t330 y350 (x8_1 ++ ((rd_T55 l0_0 (rd t330 x9_1)).f2.f1)) (wrap64 (x9_1 + 1)) l0_0 a0_1) else (none)) else (assartlaw07_TreeNodes.l0 kj60 a1 t328 t330 y350 x8_1 (wrap64 (x9_1 + 1)) l0_0 a0_1)) else (none))) else (none)) else (none)) else (none)) else (none)) = some r := by rw [if_neg (show ¬ (false = true) by decide)] at H; exact H
                      clear H
                      have H := H1
                      clear H1
                      by_cases c78 : 0 ≤ x9_1
                      · rw [if_pos c78] at H
                        have c78b0 : decide (0 ≤ x9_1) = true := decide_eq_true c78
                        clear c78
                        by_cases c79 : x9_1 < (t330.length : Int)
                        · rw [if_pos c79] at H
                          have c79b0 : decide (x9_1 < (t330.length : Int)) = true := decide_eq_true c79
                          clear c79
                          by_cases c80 : 0 ≤ (rd t330 x9_1)
                          · rw [if_pos c80] at H
                            have c80b0 : decide (0 ≤ (rd t330 x9_1)) = true := decide_eq_true c80
                            clear c80
                            by_cases c81 : (rd t330 x9_1) < (x7_1.length : Int)
                            · rw [if_pos c81] at H
                              have c81b0 : decide ((rd t330 x9_1) < (x7_1.length : Int)) = true := decide_eq_true c81
                              clear c81
                              obtain ⟨y350, hy350⟩ : ∃ y_ : List Bool, y_ = (x7_1.set ((rd t330 x9_1) : Int).toNat true) := ⟨_, rfl⟩
                              replace H : (if (rd t330 x9_1) < (l0_0.length : Int) then (if (rd_T55 l0_0 (rd t330 x9_1)).f2.f0 = true then (if x8_1.length + ((rd_T55 l0_0 (rd t330 x9_1)).f2.f1).length < 8796093022208 then (assartlaw07_TreeNodes.l0 kj60 a1 t328 t330 y350 (x8_1 ++ ((rd_T55 l0_0 (rd t330 x9_1)).f2.f1)) (wrap64 (x9_1 + 1)) l0_0 a0_1) else (none)) else (assartlaw07_TreeNodes.l0 kj60 a1 t328 t330 y350 x8_1 (wrap64 (x9_1 + 1)) l0_0 a0_1)) else (none)) = some r := by first | (rw [hy350]; with_reducible exact H) | (have H2_ := (Option.bind_some _ _).symm.trans H; rw [hy350]; with_reducible exact H2_) | (have H2_ := (Option.bind_some _ _).symm.trans H; with_reducible exact H2_) | with_reducible exact H | (rw [hy350]; exact H) | exact H
                              have Ny350 := Aside0.mk hy350
                              clear hy350
                              by_cases c83 : (rd t330 x9_1) < (l0_0.length : Int)
                              · rw [if_pos c83] at H
                                have c83b0 : decide ((rd t330 x9_1) < (l0_0.length : Int)) = true := decide_eq_true c83
                                clear c83
                                obtain ⟨bq84, hbq84⟩ : ∃ b_ : Bool, b_ = ((rd_T55 l0_0 (rd t330 x9_1)).f2.f0) := ⟨_, rfl⟩
                                replace H : (if bq84 = true then (if x8_1.length + ((rd_T55 l0_0 (rd t330 x9_1)).f2.f1).length < 8796093022208 then (assartlaw07_TreeNodes.l0 kj60 a1 t328 t330 y350 (x8_1 ++ ((rd_T55 l0_0 (rd t330 x9_1)).f2.f1)) (wrap64 (x9_1 + 1)) l0_0 a0_1) else (none)) else (assartlaw07_TreeNodes.l0 kj60 a1 t328 t330 y350 x8_1 (wrap64 (x9_1 + 1)) l0_0 a0_1)) = some r := by rw [← hbq84] at H; exact H
                                have Nbq84 := Aside0.mk hbq84
                                clear hbq84
                                by_cases c85 : bq84 = true
                                · subst c85
                                  have H1 : (if x8_1.length + ((rd_T55 l0_0 (rd t330 x9_1)).f2.f1).length < 8796093022208 then (assartlaw07_TreeNodes.l0 kj60 a1 t328 t330 y350 (x8_1 ++ ((rd_T55 l0_0 (rd t330 x9_1)).f2.f1)) (wrap64 (x9_1 + 1)) l0_0 a0_1) else (none)) = some r := by rw [if_pos rfl] at H; exact H
                                  clear H
                                  have H := H1
                                  clear H1
                                  by_cases c86 : x8_1.length + ((rd_T55 l0_0 (rd t330 x9_1)).f2.f1).length < 8796093022208
                                  · rw [if_pos c86] at H
                                    have LMc86 := Aside0.mk c86
                                    clear c86
                                    obtain ⟨y355, hy355⟩ : ∃ y_ : List (S49), y_ = (x8_1 ++ ((rd_T55 l0_0 (rd t330 x9_1)).f2.f1)) := ⟨_, rfl⟩
                                    replace H : (assartlaw07_TreeNodes.l0 kj60 a1 t328 t330 y350 y355 (wrap64 (x9_1 + 1)) l0_0 a0_1) = some r := by first | (rw [hy355]; with_reducible exact H) | (have H2_ := (Option.bind_some _ _).symm.trans H; rw [hy355]; with_reducible exact H2_) | (have H2_ := (Option.bind_some _ _).symm.trans H; with_reducible exact H2_) | with_reducible exact H | (rw [hy355]; exact H) | exact H
                                    have Ny355 := Aside0.mk hy355
                                    clear hy355
                                    have H' := Aside0.mk H
                                    clear H
                                    have p349 : 0 ≤ (x9_1 : Int) := of_decide_eq_true (by first | (with_reducible assumption) | assumption)
                                    have q349 : x9_1 < (t330.length : Int) := of_decide_eq_true (by first | (with_reducible assumption) | assumption)
                                    obtain ⟨ad349, e349, hx349_0⟩ := Kd.at_int (Kd.R_reads' HO_6.out).2.2 x9_1 p349 q349
                                    cases e349
                                    replace p349 := eq_true p349
                                    replace q349 := eq_true q349
                                    have p82 : 0 ≤ ((rd t330 x9_1) : Int) := of_decide_eq_true (by first | (with_reducible assumption) | assumption)
                                    have q82 : ((rd t330 x9_1) : Int) < ((x7_1.length : Int) : Int) := of_decide_eq_true (by first | (with_reducible assumption) | assumption)
                                    obtain ⟨go82, co82, eo82, gb82, gl82, cl82, HG82⟩ := Kd.R_form HO_7.out (by omega)
                                    (first | cases eo82 | (injection eo82 with ea_ en_ ec_; (first | subst ea_ | (injection ea_ with ea_; subst ea_)); subst ec_; clear en_))
                                    have GB82 := Aside0.mk gb82
                                    have GG82 := Aside0.mk HG82
                                    clear gb82 gl82 HG82
                                    obtain ⟨hx82_0, hf82_0⟩ := Kd.R_celln false HO_7.out ((rd t330 x9_1) : Int) p82 q82
                                    replace p82 := eq_true p82
                                    replace q82 := eq_true q82
                                    have HP87 := Kd.R_putg HO_7.out ((rd t330 x9_1) : Int) true
                                    try go_wp2_with (first | ((with_reducible refine gate_store (t := 4) (p := 94) rfl ?_); refine store_event (t := 4) (p := 94) (v := ?vo_w88) (w1 := (wc.setCell ⟨go82, ((rd t330 x9_1) : Int).toNat, none⟩ (.bool true))) ?hg ?ho ?hn ?hr ?_; (case ho => rfl); (case hg => rfl); (case hn => rfl); (case hr => first | (go_simp; done) | (go_simp; rfl)); intro w88 hw; have hg : wc.grownBy w88 (some go82) := (by rw [hw]; exact HP87.2); have hp_ : Kd.R Kd.bool 4 w88 w.heap.size (fun _ => True) (.slice (some ⟨go82, 0, none⟩) x7_1.length co82) y350 := (by rw [hw, Ny350.out]; exact HP87.1); clear HP87; have n0_ := Aside0.mk (Kd.R_over' (v := (.slice (some ⟨go82, 0, none⟩) x7_1.length co82)) (by (with_reducible repeat (first | apply Kd.R_alloc | apply Kd.R_drewN | apply Kd.R_drew)); exact HO_6.out) (Kd.R_typed HO_7.out) (by decide) hg); have n1_ := Aside0.mk (hp_); have n2_ := Aside0.mk (Kd.R_over' (v := (.slice (some ⟨go82, 0, none⟩) x7_1.length co82)) (by (with_reducible repeat (first | apply Kd.R_alloc | apply Kd.R_drewN | apply Kd.R_drew)); exact HO_8.out) (Kd.R_typed HO_7.out) (by decide) hg); have n3_ := Aside0.mk (blk_grown (g := gb327) (o := .cells #[.slice A0_0 l0_0.length c0_0, .int .i64 a0_1] 24 (0, 0)) (by (with_reducible repeat (first | refine blk_drewN ?_ _ | refine blk_drew ?_ | refine blk_alloc ?_ _)); exact BK327.out) hg (Kd.R_ne HO_7.out BK327.out (by decide))); have n4_ := Aside0.mk ((by rw [hw]; exact below_set (HB.out) GB82.out : Below w.heap.size w w88)); clear HO_6; clear HO_7; clear HO_8; clear BK327; clear HB; have HO_6 := n0_; have HO_7 := n1_; have HO_8 := n2_; have BK327 := n3_; have HB := n4_; clear n0_ n1_ n2_ n3_ n4_; clear hg hw hp_))
                                    have n0_ := Aside0.mk (Kd.R_drew HO_6.out)
                                    have n1_ := Aside0.mk (Kd.R_drew HO_7.out)
                                    have n2_ := Aside0.mk (Kd.R_drew HO_8.out)
                                    have n3_ := Aside0.mk (blk_drew BK327.out)
                                    have n4_ := Aside0.mk (below_drew1 HB.out)
                                    clear HO_6
                                    clear HO_7
                                    clear HO_8
                                    clear BK327
                                    clear HB
                                    have HO_6 := n0_
                                    have HO_7 := n1_
                                    have HO_8 := n2_
                                    have BK327 := n3_
                                    have HB := n4_
                                    clear n0_ n1_ n2_ n3_ n4_
                                    have p351 : 0 ≤ (x9_1 : Int) := of_decide_eq_true (by first | (with_reducible assumption) | assumption)
                                    have q351 : x9_1 < (t330.length : Int) := of_decide_eq_true (by first | (with_reducible assumption) | assumption)
                                    obtain ⟨ad351, e351, hx351_0⟩ := Kd.at_int (Kd.R_reads' HO_6.out).2.2 x9_1 p351 q351
                                    obtain rfl : ad349 = ad351 := (by injection e351)
                                    replace p351 := eq_true p351
                                    replace q351 := eq_true q351
                                    have p352 : 0 ≤ ((rd t330 x9_1) : Int) := of_decide_eq_true (by first | (with_reducible assumption) | assumption)
                                    have q352 : (rd t330 x9_1) < (l0_0.length : Int) := of_decide_eq_true (by first | (with_reducible assumption) | assumption)
                                    obtain ⟨ad352, A352_3, c352_3, e352, hx352_0, hx352_1, hx352_2, hx352_3, hl352_3, hi352_3⟩ := at_T55 HR0_0.out (rd t330 x9_1) p352 q352
                                    have hw352_3 := hx352_3
                                    have hw352_2 := hx352_2
                                    have hw352_1 := hx352_1
                                    have hw352_0 := hx352_0
                                    (try rw [← Nbq84.out] at hx352_1)
                                    (try rw [← Nbq84.out] at hw352_1)
                                    (try rw [← Nbq84.out] at hx352_2)
                                    (try rw [← Nbq84.out] at hw352_2)
                                    cases e352
                                    replace hx352_0 := (HB.out.cell (World.block_lt_of_cell? w _ hx352_0)).trans hx352_0
                                    replace hx352_1 := (HB.out.cell (World.block_lt_of_cell? w _ hx352_1)).trans hx352_1
                                    replace hx352_2 := (HB.out.cell (World.block_lt_of_cell? w _ hx352_2)).trans hx352_2
                                    replace hx352_3 := (HB.out.cell (World.block_lt_of_cell? w _ hx352_3)).trans hx352_3
                                    have HR352_3 := Aside0.mk hi352_3
                                    have HC352_3 := Aside0.mk hl352_3
                                    clear hi352_3 hl352_3
                                    replace p352 := eq_true p352
                                    replace q352 := eq_true q352
                                    refine start_ (n := 10) (S := fun w' => w'.cell? ⟨gb327, 0, none⟩ = some (.slice (some ad352) l0_0.length c0_0) ∧ w'.cell? ⟨gb327, 1, none⟩ = some (.int .i64 a0_1) ∧ w'.cell? (ad349.add (x9_1).toNat) = some (.int .i64 (rd t330 x9_1)) ∧ w'.cell? (ad352.add (((rd t330 x9_1)).toNat * 4)) = some (.int .i64 ((rd_T55 l0_0 (rd t330 x9_1)).f0)) ∧ w'.cell? ⟨(ad352.add (((rd t330 x9_1)).toNat * 4)).block, (ad352.add (((rd t330 x9_1)).toNat * 4)).off + 1, none⟩ = some (.bool ((rd_T55 l0_0 (rd t330 x9_1)).f1)) ∧ w'.cell? ⟨(ad352.add (((rd t330 x9_1)).toNat * 4)).block, (ad352.add (((rd t330 x9_1)).toNat * 4)).off + 2, none⟩ = some (.bool true) ∧ w'.cell? ⟨(ad352.add (((rd t330 x9_1)).toNat * 4)).block, (ad352.add (((rd t330 x9_1)).toNat * 4)).off + 3, none⟩ = some (.slice A352_3 ((rd_T55 l0_0 (rd t330 x9_1)).f2.f1).length c352_3)) (ds := []) #[false, false, false, false, false, false, false, false, false, false] (by kernel_rfl) rfl rfl ⟨(blk_cell BK327.out 0).trans rfl, (blk_cell BK327.out 1).trans rfl, hx351_0, ((HB.out.cell (World.block_lt_of_cell? w _ hw352_0)).trans hw352_0), ((HB.out.cell (World.block_lt_of_cell? w _ hw352_1)).trans hw352_1), ((HB.out.cell (World.block_lt_of_cell? w _ hw352_2)).trans hw352_2), ((HB.out.cell (World.block_lt_of_cell? w _ hw352_3)).trans hw352_3)⟩ (fun hHeld => ?_); refine with_tabW assartlaw07_TreeNodes.tab15 assartlaw07_TreeNodes.bits15 (fun HT_ HW_ => ?_)
                                    generalize w88.drew = w89 at HO_6 HO_7 HO_8 BK327 HB HR352_3 hx351_0 hx352_0 hx352_1 hx352_2 hx352_3 hHeld ⊢
                                    refine pure_ (i := 0) (N := some 95) (v := ?_) (a' := ?_) #[true, false, false, false, false, false, false, false, false, false] rfl rfl (any_of HT_.out (by kernel_rfl)) (fun _ _ _ h => h) (Or.inl ⟨by rfl, ?_⟩) ?_ ?_
                                    rotate_left
                                    · intro w'
                                      go_simp
                                      with_reducible rfl
                                    rotate_left
                                    · simp only [Act.put, List.setIfInBounds_toArray, List.set_cons_zero, List.set_cons_succ, i64_w, i32_w]
                                      rfl
                                    refine pure_ (i := 2) (N := some 97) (v := ?_) (a' := ?_) #[true, false, true, false, false, false, false, false, false, false] rfl rfl (any_of HT_.out (by kernel_rfl)) (fun _ _ _ h => h) (Or.inl ⟨by rfl, ?_⟩) ?_ ?_
                                    rotate_left
                                    · intro w'
                                      go_simp
                                      with_reducible rfl
                                    rotate_left
                                    · simp only [Act.put, List.setIfInBounds_toArray, List.set_cons_zero, List.set_cons_succ, i64_w, i32_w]
                                      rfl
                                    refine pure_ (i := 3) (N := some 98) (v := ?_) (a' := ?_) #[true, false, true, true, false, false, false, false, false, false] rfl rfl (any_of HT_.out (by kernel_rfl)) (fun _ _ _ h => h) (Or.inl ⟨by rfl, ?_⟩) ?_ ?_
                                    rotate_left
                                    · intro w'
                                      go_simp
                                      with_reducible rfl
                                    rotate_left
                                    · simp only [Act.put, List.setIfInBounds_toArray, List.set_cons_zero, List.set_cons_succ, i64_w, i32_w]
                                      rfl
                                    refine pure_ (i := 4) (N := some 99) (v := ?_) (a' := ?_) #[true, false, true, true, true, false, false, false, false, false] rfl rfl (any_of HT_.out (by kernel_rfl)) (fun _ _ _ h => h) (Or.inl ⟨by rfl, ?_⟩) ?_ ?_
                                    rotate_left
                                    · intro w'
                                      go_simp
                                      with_reducible rfl
                                    rotate_left
                                    · simp only [Act.put, List.setIfInBounds_toArray, List.set_cons_zero, List.set_cons_succ, i64_w, i32_w]
                                      rfl
                                    refine take_ (i := 1) (N := some 96) (v := ?_) (a' := ?_) #[true, true, true, true, true, false, false, false, false, false] rfl rfl (take_ofW HT_.out HW_.out (by kernel_rfl)) (fun _ _ _ h => h) (Or.inl ⟨by rfl, ?_⟩) hHeld ?_ ?_
                                    rotate_left
                                    · rintro w' ⟨s0, s1, s2, s3, s4, s5, s6⟩
                                      go_simp
                                      with_reducible rfl
                                    rotate_left
                                    · simp only [Act.put, List.setIfInBounds_toArray, List.set_cons_zero, List.set_cons_succ, i64_w, i32_w]
                                      rfl
                                    refine take_ (i := 5) (N := some 100) (v := ?_) (a' := ?_) #[true, true, true, true, true, true, false, false, false, false] rfl rfl (take_ofW HT_.out HW_.out (by kernel_rfl)) (fun _ _ _ h => h) (Or.inl ⟨by rfl, ?_⟩) hHeld ?_ ?_
                                    rotate_left
                                    · rintro w' ⟨s0, s1, s2, s3, s4, s5, s6⟩
                                      go_simp
                                      with_reducible rfl
                                    rotate_left
                                    · simp only [Act.put, List.setIfInBounds_toArray, List.set_cons_zero, List.set_cons_succ, i64_w, i32_w]
                                      rfl
                                    refine pure_ (i := 6) (N := some 101) (v := ?_) (a' := ?_) #[true, true, true, true, true, true, true, false, false, false] rfl rfl (any_of HT_.out (by kernel_rfl)) (fun _ _ _ h => h) (Or.inl ⟨by rfl, ?_⟩) ?_ ?_
                                    rotate_left
                                    · intro w'
                                      go_simp
                                      with_reducible rfl
                                    rotate_left
                                    · simp only [Act.put, List.setIfInBounds_toArray, List.set_cons_zero, List.set_cons_succ, i64_w, i32_w]
                                      rfl
                                    refine pure_ (i := 7) (N := some 102) (v := ?_) (a' := ?_) #[true, true, true, true, true, true, true, true, false, false] rfl rfl (any_of HT_.out (by kernel_rfl)) (fun _ _ _ h => h) (Or.inl ⟨by rfl, ?_⟩) ?_ ?_
                                    rotate_left
                                    · intro w'
                                      go_simp
                                      with_reducible rfl
                                    rotate_left
                                    · simp only [Act.put, List.setIfInBounds_toArray, List.set_cons_zero, List.set_cons_succ, i64_w, i32_w]
                                      rfl
                                    refine pure_ (i := 8) (N := some 103) (v := ?_) (a' := ?_) #[true, true, true, true, true, true, true, true, true, false] rfl rfl (any_of HT_.out (by kernel_rfl)) (fun _ _ _ h => h) (Or.inl ⟨by rfl, ?_⟩) ?_ ?_
                                    rotate_left
                                    · intro w'
                                      go_simp
                                      with_reducible rfl
                                    rotate_left
                                    · simp only [Act.put, List.setIfInBounds_toArray, List.set_cons_zero, List.set_cons_succ, i64_w, i32_w]
                                      rfl
                                    refine take_ (i := 9) (N := some 104) (v := ?_) (a' := ?_) #[true, true, true, true, true, true, true, true, true, true] rfl rfl (take_ofW HT_.out HW_.out (by kernel_rfl)) (fun _ _ _ h => h) (Or.inl ⟨by rfl, ?_⟩) hHeld ?_ ?_
                                    rotate_left
                                    · rintro w' ⟨s0, s1, s2, s3, s4, s5, s6⟩
                                      go_simp
                                      with_reducible rfl
                                    rotate_left
                                    · simp only [Act.put, List.setIfInBounds_toArray, List.set_cons_zero, List.set_cons_succ, i64_w, i32_w]
                                      rfl
                                    refine done_ (done_of HT_.out (by kernel_rfl)) ?_
                                    try go_wp2
                                    have n0_ := Aside0.mk (Kd.R_drew HO_6.out)
                                    have n1_ := Aside0.mk (Kd.R_drew HO_7.out)
                                    have n2_ := Aside0.mk (Kd.R_drew HO_8.out)
                                    have n3_ := Aside0.mk (blk_drew BK327.out)
                                    have n4_ := Aside0.mk (below_drew1 HB.out)
                                    clear HO_6
                                    clear HO_7
                                    clear HO_8
                                    clear BK327
                                    clear HB
                                    have HO_6 := n0_
                                    have HO_7 := n1_
                                    have HO_8 := n2_
                                    have BK327 := n3_
                                    have HB := n4_
                                    clear n0_ n1_ n2_ n3_ n4_
                                    have p353 : 0 ≤ (x9_1 : Int) := of_decide_eq_true (by first | (with_reducible assumption) | assumption)
                                    have q353 : x9_1 < (t330.length : Int) := of_decide_eq_true (by first | (with_reducible assumption) | assumption)
                                    obtain ⟨ad353, e353, hx353_0⟩ := Kd.at_int (Kd.R_reads' HO_6.out).2.2 x9_1 p353 q353
                                    obtain rfl : ad349 = ad353 := (by injection e353)
                                    replace p353 := eq_true p353
                                    replace q353 := eq_true q353
                                    have p354 : 0 ≤ ((rd t330 x9_1) : Int) := of_decide_eq_true (by first | (with_reducible assumption) | assumption)
                                    have q354 : (rd t330 x9_1) < (l0_0.length : Int) := of_decide_eq_true (by first | (with_reducible assumption) | assumption)
                                    obtain ⟨ad354, A354_3, c354_3, e354, hx354_0, hx354_1, hx354_2, hx354_3, hl354_3, hi354_3⟩ := at_T55 HR0_0.out (rd t330 x9_1) p354 q354
                                    have hw354_3 := hx354_3
                                    have hw354_2 := hx354_2
                                    have hw354_1 := hx354_1
                                    have hw354_0 := hx354_0
                                    (try rw [← Nbq84.out] at hx354_1)
                                    (try rw [← Nbq84.out] at hw354_1)
                                    (try rw [← Nbq84.out] at hx354_2)
                                    (try rw [← Nbq84.out] at hw354_2)
                                    obtain rfl : ad352 = ad354 := (by injection e354)
                                    replace hx354_0 := (HB.out.cell (World.block_lt_of_cell? w _ hx354_0)).trans hx354_0
                                    replace hx354_1 := (HB.out.cell (World.block_lt_of_cell? w _ hx354_1)).trans hx354_1
                                    replace hx354_2 := (HB.out.cell (World.block_lt_of_cell? w _ hx354_2)).trans hx354_2
                                    replace hx354_3 := (HB.out.cell (World.block_lt_of_cell? w _ hx354_3)).trans hx354_3
                                    have HR354_3 := Aside0.mk hi354_3
                                    have HC354_3 := Aside0.mk hl354_3
                                    clear hi354_3 hl354_3
                                    replace p354 := eq_true p354
                                    replace q354 := eq_true q354
                                    refine start_ (n := 13) (S := fun w' => w'.cell? ⟨gb327, 0, none⟩ = some (.slice (some ad352) l0_0.length c0_0) ∧ w'.cell? ⟨gb327, 1, none⟩ = some (.int .i64 a0_1) ∧ w'.cell? (ad349.add (x9_1).toNat) = some (.int .i64 (rd t330 x9_1)) ∧ w'.cell? (ad352.add (((rd t330 x9_1)).toNat * 4)) = some (.int .i64 ((rd_T55 l0_0 (rd t330 x9_1)).f0)) ∧ w'.cell? ⟨(ad352.add (((rd t330 x9_1)).toNat * 4)).block, (ad352.add (((rd t330 x9_1)).toNat * 4)).off + 1, none⟩ = some (.bool ((rd_T55 l0_0 (rd t330 x9_1)).f1)) ∧ w'.cell? ⟨(ad352.add (((rd t330 x9_1)).toNat * 4)).block, (ad352.add (((rd t330 x9_1)).toNat * 4)).off + 2, none⟩ = some (.bool (true)) ∧ w'.cell? ⟨(ad352.add (((rd t330 x9_1)).toNat * 4)).block, (ad352.add (((rd t330 x9_1)).toNat * 4)).off + 3, none⟩ = some (.slice A354_3 ((rd_T55 l0_0 (rd t330 x9_1)).f2.f1).length c354_3)) (ds := [11]) #[false, false, false, false, false, false, false, false, false, false, false, false, false] (by kernel_rfl) rfl rfl ⟨(blk_cell BK327.out 0).trans rfl, (blk_cell BK327.out 1).trans rfl, hx353_0, ((HB.out.cell (World.block_lt_of_cell? w _ hw354_0)).trans hw354_0), ((HB.out.cell (World.block_lt_of_cell? w _ hw354_1)).trans hw354_1), ((HB.out.cell (World.block_lt_of_cell? w _ hw354_2)).trans hw354_2), ((HB.out.cell (World.block_lt_of_cell? w _ hw354_3)).trans hw354_3)⟩ (fun hHeld => ?_); refine with_tabW assartlaw07_TreeNodes.tab16 assartlaw07_TreeNodes.bits16 (fun HT_ HW_ => ?_)
                                    generalize w89.drew = w90 at HO_6 HO_7 HO_8 BK327 HB HR354_3 hx353_0 hx354_0 hx354_1 hx354_2 hx354_3 hHeld ⊢
                                    refine pure_ (i := 0) (N := some 105) (v := ?_) (a' := ?_) #[true, false, false, false, false, false, false, false, false, false, false, false, false] rfl rfl (any_of HT_.out (by kernel_rfl)) (fun _ _ _ h => h) (Or.inl ⟨by rfl, ?_⟩) ?_ ?_
                                    rotate_left
                                    · intro w'
                                      go_simp
                                      with_reducible rfl
                                    rotate_left
                                    · simp only [Act.put, List.setIfInBounds_toArray, List.set_cons_zero, List.set_cons_succ, i64_w, i32_w]
                                      rfl
                                    refine pure_ (i := 1) (N := some 106) (v := ?_) (a' := ?_) #[true, true, false, false, false, false, false, false, false, false, false, false, false] rfl rfl (any_of HT_.out (by kernel_rfl)) (fun _ _ _ h => h) (Or.inl ⟨by rfl, ?_⟩) ?_ ?_
                                    rotate_left
                                    · intro w'
                                      go_simp
                                      with_reducible rfl
                                    rotate_left
                                    · simp only [Act.put, List.setIfInBounds_toArray, List.set_cons_zero, List.set_cons_succ, i64_w, i32_w]
                                      rfl
                                    refine pure_ (i := 3) (N := some 108) (v := ?_) (a' := ?_) #[true, true, false, true, false, false, false, false, false, false, false, false, false] rfl rfl (any_of HT_.out (by kernel_rfl)) (fun _ _ _ h => h) (Or.inl ⟨by rfl, ?_⟩) ?_ ?_
                                    rotate_left
                                    · intro w'
                                      go_simp
                                      with_reducible rfl
                                    rotate_left
                                    · simp only [Act.put, List.setIfInBounds_toArray, List.set_cons_zero, List.set_cons_succ, i64_w, i32_w]
                                      rfl
                                    refine pure_ (i := 4) (N := some 109) (v := ?_) (a' := ?_) #[true, true, false, true, true, false, false, false, false, false, false, false, false] rfl rfl (any_of HT_.out (by kernel_rfl)) (fun _ _ _ h => h) (Or.inl ⟨by rfl, ?_⟩) ?_ ?_
                                    rotate_left
                                    · intro w'
                                      go_simp
                                      with_reducible rfl
                                    rotate_left
                                    · simp only [Act.put, List.setIfInBounds_toArray, List.set_cons_zero, List.set_cons_succ, i64_w, i32_w]
                                      rfl
                                    refine pure_ (i := 5) (N := some 110) (v := ?_) (a' := ?_) #[true, true, false, true, true, true, false, false, false, false, false, false, false] rfl rfl (any_of HT_.out (by kernel_rfl)) (fun _ _ _ h => h) (Or.inl ⟨by rfl, ?_⟩) ?_ ?_
                                    rotate_left
                                    · intro w'
                                      go_simp
                                      with_reducible rfl
                                    rotate_left
                                    · simp only [Act.put, List.setIfInBounds_toArray, List.set_cons_zero, List.set_cons_succ, i64_w, i32_w]
                                      rfl
                                    refine take_ (i := 2) (N := some 107) (v := ?_) (a' := ?_) #[true, true, true, true, true, true, false, false, false, false, false, false, false] rfl rfl (take_ofW HT_.out HW_.out (by kernel_rfl)) (fun _ _ _ h => h) (Or.inl ⟨by rfl, ?_⟩) hHeld ?_ ?_
                                    rotate_left
                                    · rintro w' ⟨s0, s1, s2, s3, s4, s5, s6⟩
                                      go_simp
                                      with_reducible rfl
                                    rotate_left
                                    · simp only [Act.put, List.setIfInBounds_toArray, List.set_cons_zero, List.set_cons_succ, i64_w, i32_w]
                                      rfl
                                    refine take_ (i := 6) (N := some 111) (v := ?_) (a' := ?_) #[true, true, true, true, true, true, true, false, false, false, false, false, false] rfl rfl (take_ofW HT_.out HW_.out (by kernel_rfl)) (fun _ _ _ h => h) (Or.inl ⟨by rfl, ?_⟩) hHeld ?_ ?_
                                    rotate_left
                                    · rintro w' ⟨s0, s1, s2, s3, s4, s5, s6⟩
                                      go_simp
                                      with_reducible rfl
                                    rotate_left
                                    · simp only [Act.put, List.setIfInBounds_toArray, List.set_cons_zero, List.set_cons_succ, i64_w, i32_w]
                                      rfl
                                    refine pure_ (i := 7) (N := some 112) (v := ?_) (a' := ?_) #[true, true, true, true, true, true, true, true, false, false, false, false, false] rfl rfl (any_of HT_.out (by kernel_rfl)) (fun _ _ _ h => h) (Or.inl ⟨by rfl, ?_⟩) ?_ ?_
                                    rotate_left
                                    · intro w'
                                      go_simp
                                      with_reducible rfl
                                    rotate_left
                                    · simp only [Act.put, List.setIfInBounds_toArray, List.set_cons_zero, List.set_cons_succ, i64_w, i32_w]
                                      rfl
                                    refine pure_ (i := 8) (N := some 113) (v := ?_) (a' := ?_) #[true, true, true, true, true, true, true, true, true, false, false, false, false] rfl rfl (any_of HT_.out (by kernel_rfl)) (fun _ _ _ h => h) (Or.inl ⟨by rfl, ?_⟩) ?_ ?_
                                    rotate_left
                                    · intro w'
                                      go_simp
                                      with_reducible rfl
                                    rotate_left
                                    · simp only [Act.put, List.setIfInBounds_toArray, List.set_cons_zero, List.set_cons_succ, i64_w, i32_w]
                                      rfl
                                    refine pure_ (i := 9) (N := some 114) (v := ?_) (a' := ?_) #[true, true, true, true, true, true, true, true, true, true, false, false, false] rfl rfl (any_of HT_.out (by kernel_rfl)) (fun _ _ _ h => h) (Or.inl ⟨by rfl, ?_⟩) ?_ ?_
                                    rotate_left
                                    · intro w'
                                      go_simp
                                      with_reducible rfl
                                    rotate_left
                                    · simp only [Act.put, List.setIfInBounds_toArray, List.set_cons_zero, List.set_cons_succ, i64_w, i32_w]
                                      rfl
                                    refine take_ (i := 10) (N := some 115) (v := ?_) (a' := ?_) #[true, true, true, true, true, true, true, true, true, true, true, false, false] rfl rfl (take_ofW HT_.out HW_.out (by kernel_rfl)) (fun _ _ _ h => h) (Or.inl ⟨by rfl, ?_⟩) hHeld ?_ ?_
                                    rotate_left
                                    · rintro w' ⟨s0, s1, s2, s3, s4, s5, s6⟩
                                      go_simp
                                      with_reducible rfl
                                    rotate_left
                                    · simp only [Act.put, List.setIfInBounds_toArray, List.set_cons_zero, List.set_cons_succ, i64_w, i32_w]
                                      rfl
                                    refine last_ (i := 11) (N := some 116) #[true, true, true, true, true, true, true, true, true, true, true, true, false] rfl rfl (one_of HT_.out (by kernel_rfl)) (by decide) (fun K hK => ?_)
                                    refine Kd.R_append_rows_step k49 (w0 := w) w.heap.size (by rfl) (.tmp 105) (.tmp 115) 43 49 (.agg #[(.int .i64 0), (.int .i64 0)]) 16 rfl Try.underlying43 info49 rfl (by decide) (by omega) u8 x8_1 ((rd_T55 l0_0 (rd t330 x9_1)).f2.f1) _ _ _ (fun _ => True) (fun _ => False) rfl rfl ?aO ?aR (fun _ _ h => h) (fun _ h => h.elim) ?aF ?aB ?aS ?aL ?_
                                    (case aR => repeat (first | exact (Kd.C_below HR354_3.out HB.out) | (with_reducible refine Kd.C_alloc ?_ _) | (with_reducible refine Kd.C_drewN ?_ _) | (with_reducible refine Kd.C_drew ?_)))
                                    (case aB => exact (by repeat (first | (with_reducible first | exact HB.out | apply below_alloc | apply pw_below_drewN | apply below_drew1 | refine below_set ?_ GE327.out) | exact HB.out)))
                                    (case aF => exact (fun _ _ => trivial))
                                    (case aO => exact (by (with_reducible repeat (first | apply Kd.R_alloc | apply Kd.R_drewN | apply Kd.R_drew)); exact HO_8.out))
                                    (case aS => exact (below_size (by repeat (first | (with_reducible first | exact HB.out | apply below_alloc | apply pw_below_drewN | apply below_drew1 | refine below_set ?_ GE327.out) | exact HB.out))))
                                    (case aL => have := LMc86.out; omega)
                                    intro v356 w91 ho hb hg hat
                                    rw [← Ny355.out] at ho
                                    have n0_ := Aside0.mk (Kd.R_over' (by (with_reducible repeat (first | apply Kd.R_alloc | apply Kd.R_drewN | apply Kd.R_drew)); exact HO_6.out) (Kd.R_typed (by (with_reducible repeat (first | apply Kd.R_alloc | apply Kd.R_drewN | apply Kd.R_drew)); exact HO_8.out)) (by decide) hg)
                                    have n1_ := Aside0.mk (Kd.R_over' (by (with_reducible repeat (first | apply Kd.R_alloc | apply Kd.R_drewN | apply Kd.R_drew)); exact HO_7.out) (Kd.R_typed (by (with_reducible repeat (first | apply Kd.R_alloc | apply Kd.R_drewN | apply Kd.R_drew)); exact HO_8.out)) (by decide) hg)
                                    have n2_ := Aside0.mk (blk_grown (g := gb327) (o := .cells #[.slice (some ad352) l0_0.length c0_0, .int .i64 a0_1] 24 (0, 0)) (by (with_reducible repeat (first | refine blk_drewN ?_ _ | refine blk_drew ?_ | refine blk_alloc ?_ _)); exact BK327.out) hg (Kd.R_ne HO_8.out BK327.out (by decide)))
                                    have n3_ := Aside0.mk (hb)
                                    have n4_ := Aside0.mk (ho)
                                    clear HO_6
                                    clear HO_7
                                    clear BK327
                                    clear HB
                                    clear HO_8
                                    have HO_6 := n0_
                                    have HO_7 := n1_
                                    have BK327 := n2_
                                    have HB := n3_
                                    have HO357 := n4_
                                    clear n0_ n1_ n2_ n3_ n4_
                                    clear ho hb hg hat
                                    refine hK.out _ _ ?_
                                    clear hK K
                                    refine norm_ (a' := ?_) ?_ ?_
                                    rotate_left
                                    · show Act.put _ (some 116) _ = _
                                      simp only [Act.put, List.setIfInBounds_toArray, List.set_cons_zero, List.set_cons_succ, i64_w, i32_w]
                                      rfl
                                    refine pure_ (i := 12) (N := some 8) (v := ?_) (a' := ?_) #[true, true, true, true, true, true, true, true, true, true, true, true, true] rfl rfl (any_of HT_.out (by kernel_rfl)) (fun _ _ _ h => h) (Or.inl ⟨by rfl, ?_⟩) ?_ ?_
                                    rotate_left
                                    · intro w'
                                      go_simp
                                      with_reducible rfl
                                    rotate_left
                                    · simp only [Act.put, List.setIfInBounds_toArray, List.set_cons_zero, List.set_cons_succ, i64_w, i32_w]
                                      rfl
                                    refine done_ (done_of HT_.out (by kernel_rfl)) ?_
                                    try go_wp2
                                    go_roundg kj60
                                    case measure => have := HK1.out; have := HJ60.out; omega
                                    case rel => exact ⟨(y350), (y355), (wrap64 (x9_1 + 1)), (by first | rfl | (simp; done) | (simp [*]; done)), H', ⟨by have := HK1.out; have := HJ60.out; omega⟩, ⟨by (with_reducible repeat (first | apply Kd.R_alloc | apply Kd.R_drewN | apply Kd.R_drew)); exact HO_6.out⟩, ⟨by (with_reducible repeat (first | apply Kd.R_alloc | apply Kd.R_drewN | apply Kd.R_drew)); exact HO_7.out⟩, ⟨by (with_reducible repeat (first | apply Kd.R_alloc | apply Kd.R_drewN | apply Kd.R_drew)); exact HO357.out⟩, ⟨by (with_reducible repeat (first | refine blk_drewN ?_ _ | refine blk_drew ?_ | refine blk_alloc ?_ _)); exact BK327.out⟩, ⟨by repeat (first | (with_reducible first | exact HB.out | apply below_alloc | apply pw_below_drewN | apply below_drew1 | refine below_set ?_ GE327.out) | exact HB.out)⟩⟩
                                  · rw [if_neg c86] at H
                                    exact absurd H (by simp)
                                · replace c85 := Bool.eq_false_iff.mpr c85
                                  subst c85
                                  have H1 : (assartlaw07_TreeNodes.l0 kj60 a1 t328 t330 y350 x8_1 (wrap64 (x9_1 + 1)) l0_0 a0_1) = some r := by rw [if_neg (show ¬ (false = true) by decide)] at H; exact H
                                  clear H
                                  have H := H1
                                  clear H1
                                  have H' := Aside0.mk H
                                  clear H
                                  have p349 : 0 ≤ (x9_1 : Int) := of_decide_eq_true (by first | (with_reducible assumption) | assumption)
                                  have q349 : x9_1 < (t330.length : Int) := of_decide_eq_true (by first | (with_reducible assumption) | assumption)
                                  obtain ⟨ad349, e349, hx349_0⟩ := Kd.at_int (Kd.R_reads' HO_6.out).2.2 x9_1 p349 q349
                                  cases e349
                                  replace p349 := eq_true p349
                                  replace q349 := eq_true q349
                                  have p82 : 0 ≤ ((rd t330 x9_1) : Int) := of_decide_eq_true (by first | (with_reducible assumption) | assumption)
                                  have q82 : ((rd t330 x9_1) : Int) < ((x7_1.length : Int) : Int) := of_decide_eq_true (by first | (with_reducible assumption) | assumption)
                                  obtain ⟨go82, co82, eo82, gb82, gl82, cl82, HG82⟩ := Kd.R_form HO_7.out (by omega)
                                  (first | cases eo82 | (injection eo82 with ea_ en_ ec_; (first | subst ea_ | (injection ea_ with ea_; subst ea_)); subst ec_; clear en_))
                                  have GB82 := Aside0.mk gb82
                                  have GG82 := Aside0.mk HG82
                                  clear gb82 gl82 HG82
                                  obtain ⟨hx82_0, hf82_0⟩ := Kd.R_celln false HO_7.out ((rd t330 x9_1) : Int) p82 q82
                                  replace p82 := eq_true p82
                                  replace q82 := eq_true q82
                                  have HP92 := Kd.R_putg HO_7.out ((rd t330 x9_1) : Int) true
                                  try go_wp2_with (first | ((with_reducible refine gate_store (t := 4) (p := 94) rfl ?_); refine store_event (t := 4) (p := 94) (v := ?vo_w93) (w1 := (wc.setCell ⟨go82, ((rd t330 x9_1) : Int).toNat, none⟩ (.bool true))) ?hg ?ho ?hn ?hr ?_; (case ho => rfl); (case hg => rfl); (case hn => rfl); (case hr => first | (go_simp; done) | (go_simp; rfl)); intro w93 hw; have hg : wc.grownBy w93 (some go82) := (by rw [hw]; exact HP92.2); have hp_ : Kd.R Kd.bool 4 w93 w.heap.size (fun _ => True) (.slice (some ⟨go82, 0, none⟩) x7_1.length co82) y350 := (by rw [hw, Ny350.out]; exact HP92.1); clear HP92; have n0_ := Aside0.mk (Kd.R_over' (v := (.slice (some ⟨go82, 0, none⟩) x7_1.length co82)) (by (with_reducible repeat (first | apply Kd.R_alloc | apply Kd.R_drewN | apply Kd.R_drew)); exact HO_6.out) (Kd.R_typed HO_7.out) (by decide) hg); have n1_ := Aside0.mk (hp_); have n2_ := Aside0.mk (Kd.R_over' (v := (.slice (some ⟨go82, 0, none⟩) x7_1.length co82)) (by (with_reducible repeat (first | apply Kd.R_alloc | apply Kd.R_drewN | apply Kd.R_drew)); exact HO_8.out) (Kd.R_typed HO_7.out) (by decide) hg); have n3_ := Aside0.mk (blk_grown (g := gb327) (o := .cells #[.slice A0_0 l0_0.length c0_0, .int .i64 a0_1] 24 (0, 0)) (by (with_reducible repeat (first | refine blk_drewN ?_ _ | refine blk_drew ?_ | refine blk_alloc ?_ _)); exact BK327.out) hg (Kd.R_ne HO_7.out BK327.out (by decide))); have n4_ := Aside0.mk ((by rw [hw]; exact below_set (HB.out) GB82.out : Below w.heap.size w w93)); clear HO_6; clear HO_7; clear HO_8; clear BK327; clear HB; have HO_6 := n0_; have HO_7 := n1_; have HO_8 := n2_; have BK327 := n3_; have HB := n4_; clear n0_ n1_ n2_ n3_ n4_; clear hg hw hp_))
                                  have n0_ := Aside0.mk (Kd.R_drew HO_6.out)
                                  have n1_ := Aside0.mk (Kd.R_drew HO_7.out)
                                  have n2_ := Aside0.mk (Kd.R_drew HO_8.out)
                                  have n3_ := Aside0.mk (blk_drew BK327.out)
                                  have n4_ := Aside0.mk (below_drew1 HB.out)
                                  clear HO_6
                                  clear HO_7
                                  clear HO_8
                                  clear BK327
                                  clear HB
                                  have HO_6 := n0_
                                  have HO_7 := n1_
                                  have HO_8 := n2_
                                  have BK327 := n3_
                                  have HB := n4_
                                  clear n0_ n1_ n2_ n3_ n4_
                                  have p351 : 0 ≤ (x9_1 : Int) := of_decide_eq_true (by first | (with_reducible assumption) | assumption)
                                  have q351 : x9_1 < (t330.length : Int) := of_decide_eq_true (by first | (with_reducible assumption) | assumption)
                                  obtain ⟨ad351, e351, hx351_0⟩ := Kd.at_int (Kd.R_reads' HO_6.out).2.2 x9_1 p351 q351
                                  obtain rfl : ad349 = ad351 := (by injection e351)
                                  replace p351 := eq_true p351
                                  replace q351 := eq_true q351
                                  have p352 : 0 ≤ ((rd t330 x9_1) : Int) := of_decide_eq_true (by first | (with_reducible assumption) | assumption)
                                  have q352 : (rd t330 x9_1) < (l0_0.length : Int) := of_decide_eq_true (by first | (with_reducible assumption) | assumption)
                                  obtain ⟨ad352, A352_3, c352_3, e352, hx352_0, hx352_1, hx352_2, hx352_3, hl352_3, hi352_3⟩ := at_T55 HR0_0.out (rd t330 x9_1) p352 q352
                                  have hw352_3 := hx352_3
                                  have hw352_2 := hx352_2
                                  have hw352_1 := hx352_1
                                  have hw352_0 := hx352_0
                                  (try rw [← Nbq84.out] at hx352_1)
                                  (try rw [← Nbq84.out] at hw352_1)
                                  (try rw [← Nbq84.out] at hx352_2)
                                  (try rw [← Nbq84.out] at hw352_2)
                                  cases e352
                                  replace hx352_0 := (HB.out.cell (World.block_lt_of_cell? w _ hx352_0)).trans hx352_0
                                  replace hx352_1 := (HB.out.cell (World.block_lt_of_cell? w _ hx352_1)).trans hx352_1
                                  replace hx352_2 := (HB.out.cell (World.block_lt_of_cell? w _ hx352_2)).trans hx352_2
                                  replace hx352_3 := (HB.out.cell (World.block_lt_of_cell? w _ hx352_3)).trans hx352_3
                                  have HR352_3 := Aside0.mk hi352_3
                                  have HC352_3 := Aside0.mk hl352_3
                                  clear hi352_3 hl352_3
                                  replace p352 := eq_true p352
                                  replace q352 := eq_true q352
                                  refine start_ (n := 10) (S := fun w' => w'.cell? ⟨gb327, 0, none⟩ = some (.slice (some ad352) l0_0.length c0_0) ∧ w'.cell? ⟨gb327, 1, none⟩ = some (.int .i64 a0_1) ∧ w'.cell? (ad349.add (x9_1).toNat) = some (.int .i64 (rd t330 x9_1)) ∧ w'.cell? (ad352.add (((rd t330 x9_1)).toNat * 4)) = some (.int .i64 ((rd_T55 l0_0 (rd t330 x9_1)).f0)) ∧ w'.cell? ⟨(ad352.add (((rd t330 x9_1)).toNat * 4)).block, (ad352.add (((rd t330 x9_1)).toNat * 4)).off + 1, none⟩ = some (.bool ((rd_T55 l0_0 (rd t330 x9_1)).f1)) ∧ w'.cell? ⟨(ad352.add (((rd t330 x9_1)).toNat * 4)).block, (ad352.add (((rd t330 x9_1)).toNat * 4)).off + 2, none⟩ = some (.bool false) ∧ w'.cell? ⟨(ad352.add (((rd t330 x9_1)).toNat * 4)).block, (ad352.add (((rd t330 x9_1)).toNat * 4)).off + 3, none⟩ = some (.slice A352_3 ((rd_T55 l0_0 (rd t330 x9_1)).f2.f1).length c352_3)) (ds := []) #[false, false, false, false, false, false, false, false, false, false] (by kernel_rfl) rfl rfl ⟨(blk_cell BK327.out 0).trans rfl, (blk_cell BK327.out 1).trans rfl, hx351_0, ((HB.out.cell (World.block_lt_of_cell? w _ hw352_0)).trans hw352_0), ((HB.out.cell (World.block_lt_of_cell? w _ hw352_1)).trans hw352_1), ((HB.out.cell (World.block_lt_of_cell? w _ hw352_2)).trans hw352_2), ((HB.out.cell (World.block_lt_of_cell? w _ hw352_3)).trans hw352_3)⟩ (fun hHeld => ?_); refine with_tabW assartlaw07_TreeNodes.tab15 assartlaw07_TreeNodes.bits15 (fun HT_ HW_ => ?_)
                                  generalize w93.drew = w94 at HO_6 HO_7 HO_8 BK327 HB HR352_3 hx351_0 hx352_0 hx352_1 hx352_2 hx352_3 hHeld ⊢
                                  refine pure_ (i := 0) (N := some 95) (v := ?_) (a' := ?_) #[true, false, false, false, false, false, false, false, false, false] rfl rfl (any_of HT_.out (by kernel_rfl)) (fun _ _ _ h => h) (Or.inl ⟨by rfl, ?_⟩) ?_ ?_
                                  rotate_left
                                  · intro w'
                                    go_simp
                                    with_reducible rfl
                                  rotate_left
                                  · simp only [Act.put, List.setIfInBounds_toArray, List.set_cons_zero, List.set_cons_succ, i64_w, i32_w]
                                    rfl
                                  refine pure_ (i := 2) (N := some 97) (v := ?_) (a' := ?_) #[true, false, true, false, false, false, false, false, false, false] rfl rfl (any_of HT_.out (by kernel_rfl)) (fun _ _ _ h => h) (Or.inl ⟨by rfl, ?_⟩) ?_ ?_
                                  rotate_left
                                  · intro w'
                                    go_simp
                                    with_reducible rfl
                                  rotate_left
                                  · simp only [Act.put, List.setIfInBounds_toArray, List.set_cons_zero, List.set_cons_succ, i64_w, i32_w]
                                    rfl
                                  refine pure_ (i := 3) (N := some 98) (v := ?_) (a' := ?_) #[true, false, true, true, false, false, false, false, false, false] rfl rfl (any_of HT_.out (by kernel_rfl)) (fun _ _ _ h => h) (Or.inl ⟨by rfl, ?_⟩) ?_ ?_
                                  rotate_left
                                  · intro w'
                                    go_simp
                                    with_reducible rfl
                                  rotate_left
                                  · simp only [Act.put, List.setIfInBounds_toArray, List.set_cons_zero, List.set_cons_succ, i64_w, i32_w]
                                    rfl
                                  refine pure_ (i := 4) (N := some 99) (v := ?_) (a' := ?_) #[true, false, true, true, true, false, false, false, false, false] rfl rfl (any_of HT_.out (by kernel_rfl)) (fun _ _ _ h => h) (Or.inl ⟨by rfl, ?_⟩) ?_ ?_
                                  rotate_left
                                  · intro w'
                                    go_simp
                                    with_reducible rfl
                                  rotate_left
                                  · simp only [Act.put, List.setIfInBounds_toArray, List.set_cons_zero, List.set_cons_succ, i64_w, i32_w]
                                    rfl
                                  refine take_ (i := 1) (N := some 96) (v := ?_) (a' := ?_) #[true, true, true, true, true, false, false, false, false, false] rfl rfl (take_ofW HT_.out HW_.out (by kernel_rfl)) (fun _ _ _ h => h) (Or.inl ⟨by rfl, ?_⟩) hHeld ?_ ?_
                                  rotate_left
                                  · rintro w' ⟨s0, s1, s2, s3, s4, s5, s6⟩
                                    go_simp
                                    with_reducible rfl
                                  rotate_left
                                  · simp only [Act.put, List.setIfInBounds_toArray, List.set_cons_zero, List.set_cons_succ, i64_w, i32_w]
                                    rfl
                                  refine take_ (i := 5) (N := some 100) (v := ?_) (a' := ?_) #[true, true, true, true, true, true, false, false, false, false] rfl rfl (take_ofW HT_.out HW_.out (by kernel_rfl)) (fun _ _ _ h => h) (Or.inl ⟨by rfl, ?_⟩) hHeld ?_ ?_
                                  rotate_left
                                  · rintro w' ⟨s0, s1, s2, s3, s4, s5, s6⟩
                                    go_simp
                                    with_reducible rfl
                                  rotate_left
                                  · simp only [Act.put, List.setIfInBounds_toArray, List.set_cons_zero, List.set_cons_succ, i64_w, i32_w]
                                    rfl
                                  refine pure_ (i := 6) (N := some 101) (v := ?_) (a' := ?_) #[true, true, true, true, true, true, true, false, false, false] rfl rfl (any_of HT_.out (by kernel_rfl)) (fun _ _ _ h => h) (Or.inl ⟨by rfl, ?_⟩) ?_ ?_
                                  rotate_left
                                  · intro w'
                                    go_simp
                                    with_reducible rfl
                                  rotate_left
                                  · simp only [Act.put, List.setIfInBounds_toArray, List.set_cons_zero, List.set_cons_succ, i64_w, i32_w]
                                    rfl
                                  refine pure_ (i := 7) (N := some 102) (v := ?_) (a' := ?_) #[true, true, true, true, true, true, true, true, false, false] rfl rfl (any_of HT_.out (by kernel_rfl)) (fun _ _ _ h => h) (Or.inl ⟨by rfl, ?_⟩) ?_ ?_
                                  rotate_left
                                  · intro w'
                                    go_simp
                                    with_reducible rfl
                                  rotate_left
                                  · simp only [Act.put, List.setIfInBounds_toArray, List.set_cons_zero, List.set_cons_succ, i64_w, i32_w]
                                    rfl
                                  refine pure_ (i := 8) (N := some 103) (v := ?_) (a' := ?_) #[true, true, true, true, true, true, true, true, true, false] rfl rfl (any_of HT_.out (by kernel_rfl)) (fun _ _ _ h => h) (Or.inl ⟨by rfl, ?_⟩) ?_ ?_
                                  rotate_left
                                  · intro w'
                                    go_simp
                                    with_reducible rfl
                                  rotate_left
                                  · simp only [Act.put, List.setIfInBounds_toArray, List.set_cons_zero, List.set_cons_succ, i64_w, i32_w]
                                    rfl
                                  refine take_ (i := 9) (N := some 104) (v := ?_) (a' := ?_) #[true, true, true, true, true, true, true, true, true, true] rfl rfl (take_ofW HT_.out HW_.out (by kernel_rfl)) (fun _ _ _ h => h) (Or.inl ⟨by rfl, ?_⟩) hHeld ?_ ?_
                                  rotate_left
                                  · rintro w' ⟨s0, s1, s2, s3, s4, s5, s6⟩
                                    go_simp
                                    with_reducible rfl
                                  rotate_left
                                  · simp only [Act.put, List.setIfInBounds_toArray, List.set_cons_zero, List.set_cons_succ, i64_w, i32_w]
                                    rfl
                                  refine done_ (done_of HT_.out (by kernel_rfl)) ?_
                                  try go_wp2
                                  go_roundg kj60
                                  case measure => have := HK1.out; have := HJ60.out; omega
                                  case rel => exact ⟨(y350), (x8_1), (wrap64 (x9_1 + 1)), (by first | rfl | (simp; done) | (simp [*]; done)), H', ⟨by have := HK1.out; have := HJ60.out; omega⟩, ⟨by (with_reducible repeat (first | apply Kd.R_alloc | apply Kd.R_drewN | apply Kd.R_drew)); exact HO_6.out⟩, ⟨by (with_reducible repeat (first | apply Kd.R_alloc | apply Kd.R_drewN | apply Kd.R_drew)); exact HO_7.out⟩, ⟨by (with_reducible repeat (first | apply Kd.R_alloc | apply Kd.R_drewN | apply Kd.R_drew)); exact HO_8.out⟩, ⟨by (with_reducible repeat (first | refine blk_drewN ?_ _ | refine blk_drew ?_ | refine blk_alloc ?_ _)); exact BK327.out⟩, ⟨by repeat (first | (with_reducible first | exact HB.out | apply below_alloc | apply pw_below_drewN | apply below_drew1 | refine below_set ?_ GE327.out) | exact HB.out)⟩⟩
                              · rw [if_neg c83] at H
                                exact absurd H (by simp)
                            · rw [if_neg c81] at H
                              exact absurd H (by simp)
                          · rw [if_neg c80] at H
                            exact absurd H (by simp)
                        · rw [if_neg c79] at H
                          exact absurd H (by simp)
                      · rw [if_neg c78] at H
                        exact absurd H (by simp)
              · rw [if_neg c60] at H
                have c60b0 : decide (x9_1 < (t330.length : Int)) = false := decide_eq_false c60
                clear c60
                by_cases c95 : 0 ≤ a1
                · rw [if_pos c95] at H
                  have c95b0 : decide (0 ≤ a1) = true := decide_eq_true c95
                  clear c95
                  by_cases c96 : a1 < (l0_0.length : Int)
                  · rw [if_pos c96] at H
                    have c96b0 : decide (a1 < (l0_0.length : Int)) = true := decide_eq_true c96
                    clear c96
                    have H' := Aside0.mk H
                    clear H
                    obtain ⟨Ao97, co97, eo97⟩ := Kd.R_slice HO_6.out
                    subst eo97
                    have hcz98_0 : wr.cell? ⟨gb327, 0, none⟩ = some (.slice A0_0 l0_0.length c0_0) := (blk_cell BK327.out 0).trans rfl
                    have hcz98_1 : wr.cell? ⟨gb327, 1, none⟩ = some (.int .i64 a0_1) := (blk_cell BK327.out 1).trans rfl
                    have hfz98_0 := blk_frozen BK327.out 0
                    have hfz98_1 := blk_frozen BK327.out 1
                    have p358 : 0 ≤ (a1 : Int) := of_decide_eq_true (by first | (with_reducible assumption) | assumption)
                    have q358 : a1 < (l0_0.length : Int) := of_decide_eq_true (by first | (with_reducible assumption) | assumption)
                    obtain ⟨ad358, A358_3, c358_3, e358, hx358_0, hx358_1, hx358_2, hx358_3, hl358_3, hi358_3⟩ := at_T55 HR0_0.out a1 p358 q358
                    cases e358
                    replace hx358_0 := (HB.out.cell (World.block_lt_of_cell? w _ hx358_0)).trans hx358_0
                    replace hx358_1 := (HB.out.cell (World.block_lt_of_cell? w _ hx358_1)).trans hx358_1
                    replace hx358_2 := (HB.out.cell (World.block_lt_of_cell? w _ hx358_2)).trans hx358_2
                    replace hx358_3 := (HB.out.cell (World.block_lt_of_cell? w _ hx358_3)).trans hx358_3
                    have HR358_3 := Aside0.mk hi358_3
                    have HC358_3 := Aside0.mk hl358_3
                    clear hi358_3 hl358_3
                    replace p358 := eq_true p358
                    replace q358 := eq_true q358
                    go_wp2_with (first | ((with_reducible refine gate_dst (N := 10) rfl ?_); (try (refine gate_guard (by rfl) ?_; dsimp only)); refine box_event ?hg (N := 10) ?hd (cs := #[.bool false, .slice none 0 0]) (t := 53) ?hr ?_; (case hd => rfl); (case hg => rfl); (case hr => first | (go_simp; done) | (go_simp; rfl)); intro gb359 hg w99 hbox hb; have n0_ := Aside0.mk (Kd.R_below (by (with_reducible repeat (first | apply Kd.R_alloc | apply Kd.R_drewN | apply Kd.R_drew)); exact HO_6.out) hb); have n1_ := Aside0.mk (Kd.R_below (by (with_reducible repeat (first | apply Kd.R_alloc | apply Kd.R_drewN | apply Kd.R_drew)); exact HO_7.out) hb); have n2_ := Aside0.mk (Kd.R_below (by (with_reducible repeat (first | apply Kd.R_alloc | apply Kd.R_drewN | apply Kd.R_drew)); exact HO_8.out) hb); have n3_ := Aside0.mk (blk_below (g := gb327) (o := .cells #[.slice (some ad358) l0_0.length c0_0, .int .i64 a0_1] 24 (0, 0)) (by (with_reducible repeat (first | refine blk_drewN ?_ _ | refine blk_drew ?_ | refine blk_alloc ?_ _)); exact BK327.out) hb); have n4_ := Aside0.mk (below_step (by repeat (first | (with_reducible first | exact HB.out | apply below_alloc | apply pw_below_drewN | apply below_drew1 | refine below_set ?_ GE327.out) | exact HB.out)) hb); have n5_ := Aside0.mk (hbox); have n6_ := Aside0.mk ((by rw [hg]; exact (below_size (by repeat (first | (with_reducible first | exact HB.out | apply below_alloc | apply pw_below_drewN | apply below_drew1 | refine below_set ?_ GE327.out) | exact HB.out))) : w.heap.size ≤ gb359)); have n7_ := Aside0.mk ((by rw [hg]; exact (below_size (by repeat (first | (with_reducible first | exact HB.out | apply below_alloc | apply pw_below_drewN | apply below_drew1 | refine below_set ?_ GE327.out) | exact HB.out))) : w.heap.size ≤ gb359)); have n8_ := Aside0.mk ((by rw [hg]; exact Nat.ne_of_lt (blk_lt (g := gb327) (o := .cells #[.slice (some ad358) l0_0.length c0_0, .int .i64 a0_1] 24 (0, 0)) (by (with_reducible repeat (first | refine blk_drewN ?_ _ | refine blk_drew ?_ | refine blk_alloc ?_ _)); exact BK327.out)) : gb327 ≠ gb359)); have n9_ := Aside0.mk ((by rw [hg]; exact Nat.ne_of_gt (blk_lt (g := gb327) (o := .cells #[.slice (some ad358) l0_0.length c0_0, .int .i64 a0_1] 24 (0, 0)) (by (with_reducible repeat (first | refine blk_drewN ?_ _ | refine blk_drew ?_ | refine blk_alloc ?_ _)); exact BK327.out)) : gb359 ≠ gb327)); clear HO_6; clear HO_7; clear HO_8; clear BK327; clear HB; have HO_6 := n0_; have HO_7 := n1_; have HO_8 := n2_; have BK327 := n3_; have HB := n4_; have BK359 := n5_; have GW359 := n6_; have GE359 := n7_; have NB327_359 := n8_; have NB359_327 := n9_; clear n0_ n1_ n2_ n3_ n4_ n5_ n6_ n7_ n8_ n9_; clear hb hbox hg; have hnb100 := NB359_327.out; have hnc100 := NB327_359.out; have hcz101_0 : w99.cell? ⟨gb359, 0, none⟩ = some (.bool false) := (blk_cell BK359.out 0).trans rfl; have hcz101_1 : w99.cell? ⟨gb359, 1, none⟩ = some (.slice none 0 0) := (blk_cell BK359.out 1).trans rfl; have hfz101_0 := blk_frozen BK359.out 0; have hfz101_1 := blk_frozen BK359.out 1))
                    go_loopg [11] k1 (fun kq v11 w' => ∃ (x11_2 : Int), v11 = .int .i64 x11_2 ∧ Aside0 (assartlaw07_TreeNodes.l1 kq a1 t328 t330 x7_1 x8_1 x11_2 l0_0 a0_1 ((rd_T55 l0_0 a1).f2.f0) ((rd_T55 l0_0 a1).f2.f1) = some r) ∧ Aside0 (kq ≤ k1) ∧ Aside0 (Kd.R (Kd.int .i64) 3 w' w.heap.size (fun _ => True) (.slice Ao97 t330.length co97) t330) ∧ Aside0 (Kd.R Kd.bool 4 w' w.heap.size (fun _ => True) v338 x7_1) ∧ Aside0 (Kd.R k49 49 w' w.heap.size (fun _ => True) u8 x8_1) ∧ Aside0 (w'.heap[gb327]? = some (.cells #[(.slice (some ad358) l0_0.length c0_0), .int .i64 a0_1] 24 (0, 0))) ∧ Aside0 (w'.heap[gb359]? = some (.cells #[.bool ((rd_T55 l0_0 a1).f2.f0), (.slice A358_3 ((rd_T55 l0_0 a1).f2.f1).length c358_3)] 53 (0, 0))) ∧ Aside0 (Below w.heap.size w w'))
                    case atStart => exact ⟨(0), (by first | rfl | (simp; done) | (simp [*]; done)), H', ⟨Nat.le_refl _⟩, ⟨by (with_reducible repeat (first | apply Kd.R_alloc | apply Kd.R_drewN | apply Kd.R_drew)); exact Kd.R_mono (Kd.R_far (p := ⟨gb359, 1, none⟩) (Kd.R_far (p := ⟨gb359, 0, none⟩) (Kd.R_types HO_6.out BK359.out (by decide)) (fun _ hk => hk.2) (.bool ((rd_T55 l0_0 a1).f2.f0))) (fun _ hk => hk.2) (.slice A358_3 ((rd_T55 l0_0 a1).f2.f1).length c358_3)) (fun _ hk => trivial)⟩, ⟨by (with_reducible repeat (first | apply Kd.R_alloc | apply Kd.R_drewN | apply Kd.R_drew)); exact Kd.R_mono (Kd.R_far (p := ⟨gb359, 1, none⟩) (Kd.R_far (p := ⟨gb359, 0, none⟩) (Kd.R_types HO_7.out BK359.out (by decide)) (fun _ hk => hk.2) (.bool ((rd_T55 l0_0 a1).f2.f0))) (fun _ hk => hk.2) (.slice A358_3 ((rd_T55 l0_0 a1).f2.f1).length c358_3)) (fun _ hk => trivial)⟩, ⟨by (with_reducible repeat (first | apply Kd.R_alloc | apply Kd.R_drewN | apply Kd.R_drew)); exact Kd.R_mono (Kd.R_far (p := ⟨gb359, 1, none⟩) (Kd.R_far (p := ⟨gb359, 0, none⟩) (Kd.R_types HO_8.out BK359.out (by decide)) (fun _ hk => hk.2) (.bool ((rd_T55 l0_0 a1).f2.f0))) (fun _ hk => hk.2) (.slice A358_3 ((rd_T55 l0_0 a1).f2.f1).length c358_3)) (fun _ hk => trivial)⟩, ⟨by (with_reducible repeat (first | refine blk_drewN ?_ _ | refine blk_drew ?_ | refine blk_alloc ?_ _)); refine blk_far ?_ NB327_359.out _; (with_reducible repeat (first | refine blk_drewN ?_ _ | refine blk_drew ?_ | refine blk_alloc ?_ _)); refine blk_far ?_ NB327_359.out _; (with_reducible repeat (first | refine blk_drewN ?_ _ | refine blk_drew ?_ | refine blk_alloc ?_ _)); exact BK327.out⟩, ⟨by (with_reducible repeat (first | refine blk_drewN ?_ _ | refine blk_drew ?_ | refine blk_alloc ?_ _)); refine blk_put (cs := #[.bool ((rd_T55 l0_0 a1).f2.f0), .slice none 0 0]) ?_ 1 _ rfl; (with_reducible repeat (first | refine blk_drewN ?_ _ | refine blk_drew ?_ | refine blk_alloc ?_ _)); refine blk_put (cs := #[.bool false, .slice none 0 0]) ?_ 0 _ rfl; (with_reducible repeat (first | refine blk_drewN ?_ _ | refine blk_drew ?_ | refine blk_alloc ?_ _)); exact BK359.out⟩, ⟨by repeat (first | (with_reducible first | exact HB.out | apply below_alloc | apply pw_below_drewN | apply below_drew1 | refine below_set ?_ GE327.out | refine below_set ?_ GE359.out) | exact HB.out)⟩⟩
                    case round =>
                      clear H'
                      try clear c1
                      try clear p2
                      try clear c3
                      try clear p3
                      try clear q3
                      try clear hx3
                      try clear c6
                      try clear p6
                      try clear c7
                      try clear c8
                      try clear p8
                      try clear q8
                      try clear hx8
                      try clear hf8
                      try clear c9
                      try clear c10
                      try clear p34
                      try clear q34
                      try clear hx34
                      try clear c35
                      try clear p35
                      try clear q35
                      try clear hx35
                      try clear c60
                      try clear c60b0
                      try clear p64
                      try clear c77
                      try clear c78
                      try clear c78b0
                      try clear c79
                      try clear c79b0
                      try clear c80
                      try clear c80b0
                      try clear c81
                      try clear c81b0
                      try clear p82
                      try clear q82
                      try clear hx82
                      try clear hf82
                      try clear c83
                      try clear c83b0
                      try clear q84
                      try clear c85
                      try clear c86
                      try clear c95
                      try clear c95b0
                      try clear c96
                      try clear c96b0
                      try clear c100
                      try clear hcz101_0
                      try clear hcz101_1
                      try clear hcz98_0
                      try clear hcz98_1
                      try clear hfz101_0
                      try clear hfz101_1
                      try clear hfz98_0
                      try clear hfz98_1
                      try clear hx349_0
                      try clear hx351_0
                      try clear hx352_0
                      try clear hx352_1
                      try clear hx352_2
                      try clear hx352_3
                      try clear hx353_0
                      try clear hx354_0
                      try clear hx354_1
                      try clear hx354_2
                      try clear hx354_3
                      try clear hx358_0
                      try clear hx358_1
                      try clear hx358_2
                      try clear hx358_3
                      try clear hx82_0
                      try clear p346
                      try clear p347
                      try clear p348
                      try clear p349
                      try clear p351
                      try clear p352
                      try clear p353
                      try clear p354
                      try clear p358
                      try clear p82
                      try clear q343
                      try clear q344
                      try clear q345
                      try clear q346
                      try clear q347
                      try clear q348
                      try clear q349
                      try clear q351
                      try clear q352
                      try clear q353
                      try clear q354
                      try clear q358
                      try clear q82
                      obtain ⟨x11_2, rfl, HA, HK2, HO_6, HO_7, HO_8, BK327, BK359, HB⟩ := hrel
                      cases gk with
                      | zero => exact absurd HA.out (by simp [assartlaw07_TreeNodes.l1])
                      | succ k2 =>
                        have H := HA.out
                        clear HA
                        simp only [assartlaw07_TreeNodes.l1] at H
                        have HC102 := Aside0.mk H
                        clear H
                        go_upto_region 19 with (fail)
                        go_cut [132] (fun v132 wc => ∃ (kq : Nat) (x132_101 : Bool), v132 = .bool x132_101 ∧ Aside0 (assartlaw07_TreeNodes.j3 kq a1 t328 t330 x7_1 x8_1 x11_2 x132_101 l0_0 a0_1 ((rd_T55 l0_0 a1).f2.f0) ((rd_T55 l0_0 a1).f2.f1) = some r) ∧ Aside0 (kq ≤ k2) ∧ Aside0 (Kd.R (Kd.int .i64) 3 wc w.heap.size (fun _ => True) (.slice Ao97 t330.length co97) t330) ∧ Aside0 (Kd.R Kd.bool 4 wc w.heap.size (fun _ => True) v338 x7_1) ∧ Aside0 (Kd.R k49 49 wc w.heap.size (fun _ => True) u8 x8_1) ∧ Aside0 (wc.heap[gb327]? = some (.cells #[(.slice (some ad358) l0_0.length c0_0), .int .i64 a0_1] 24 (0, 0))) ∧ Aside0 (wc.heap[gb359]? = some (.cells #[.bool ((rd_T55 l0_0 a1).f2.f0), (.slice A358_3 ((rd_T55 l0_0 a1).f2.f1).length c358_3)] 53 (0, 0))) ∧ Aside0 (Below w.heap.size w wc))
                        case first =>
                          have H := HC102.out
                          clear HC102
                          by_cases c103 : x11_2 < (((rd_T55 l0_0 a1).f2.f1).length : Int)
                          · rw [if_pos c103] at H
                            have c103b0 : decide (x11_2 < (((rd_T55 l0_0 a1).f2.f1).length : Int)) = true := decide_eq_true c103
                            clear c103
                            (first | rw [c103b0] | (simp only [i64_w, i32_w]; rw [c103b0]) | skip)
                            have H' := Aside0.mk H
                            clear H
                            have hnb104 := NB359_327.out
                            have hnc104 := NB327_359.out
                            have hcz105_0 : wr.cell? ⟨gb359, 0, none⟩ = some (.bool ((rd_T55 l0_0 a1).f2.f0)) := (blk_cell BK359.out 0).trans rfl
                            have hcz105_1 : wr.cell? ⟨gb359, 1, none⟩ = some (.slice A358_3 ((rd_T55 l0_0 a1).f2.f1).length c358_3) := (blk_cell BK359.out 1).trans rfl
                            have hfz105_0 := blk_frozen BK359.out 0
                            have hfz105_1 := blk_frozen BK359.out 1
                            go_wp2
                            go_meet
                            case rel => exact ⟨_, (!((rd_T55 l0_0 a1).f2.f0)), (by first | rfl | (simp; done) | (simp [*]; done)), H', ⟨by have := HK1.out; have := HK2.out; first | omega | exact Nat.le_refl _⟩, ⟨by (with_reducible repeat (first | apply Kd.R_alloc | apply Kd.R_drewN | apply Kd.R_drew)); exact HO_6.out⟩, ⟨by (with_reducible repeat (first | apply Kd.R_alloc | apply Kd.R_drewN | apply Kd.R_drew)); exact HO_7.out⟩, ⟨by (with_reducible repeat (first | apply Kd.R_alloc | apply Kd.R_drewN | apply Kd.R_drew)); exact HO_8.out⟩, ⟨by (with_reducible repeat (first | refine blk_drewN ?_ _ | refine blk_drew ?_ | refine blk_alloc ?_ _)); exact BK327.out⟩, ⟨by (with_reducible repeat (first | refine blk_drewN ?_ _ | refine blk_drew ?_ | refine blk_alloc ?_ _)); exact BK359.out⟩, ⟨by repeat (first | (with_reducible first | exact HB.out | apply below_alloc | apply pw_below_drewN | apply below_drew1 | refine below_set ?_ GE327.out | refine below_set ?_ GE359.out) | exact HB.out)⟩⟩
                          · rw [if_neg c103] at H
                            have c103b0 : decide (x11_2 < (((rd_T55 l0_0 a1).f2.f1).length : Int)) = false := decide_eq_false c103
                            clear c103
                            (first | rw [c103b0] | (simp only [i64_w, i32_w]; rw [c103b0]) | skip)
                            have H' := Aside0.mk H
                            clear H
                            have hnb106 := NB359_327.out
                            have hnc106 := NB327_359.out
                            have hcz107_0 : wr.cell? ⟨gb359, 0, none⟩ = some (.bool ((rd_T55 l0_0 a1).f2.f0)) := (blk_cell BK359.out 0).trans rfl
                            have hcz107_1 : wr.cell? ⟨gb359, 1, none⟩ = some (.slice A358_3 ((rd_T55 l0_0 a1).f2.f1).length c358_3) := (blk_cell BK359.out 1).trans rfl
                            have hfz107_0 := blk_frozen BK359.out 0
                            have hfz107_1 := blk_frozen BK359.out 1
                            go_wp2
                            go_meet
                            case rel => exact ⟨_, (false), (by first | rfl | (simp; done) | (simp [*]; done)), H', ⟨by have := HK1.out; have := HK2.out; first | omega | exact Nat.le_refl _⟩, ⟨by (with_reducible repeat (first | apply Kd.R_alloc | apply Kd.R_drewN | apply Kd.R_drew)); exact HO_6.out⟩, ⟨by (with_reducible repeat (first | apply Kd.R_alloc | apply Kd.R_drewN | apply Kd.R_drew)); exact HO_7.out⟩, ⟨by (with_reducible repeat (first | apply Kd.R_alloc | apply Kd.R_drewN | apply Kd.R_drew)); exact HO_8.out⟩, ⟨by (with_reducible repeat (first | refine blk_drewN ?_ _ | refine blk_drew ?_ | refine blk_alloc ?_ _)); exact BK327.out⟩, ⟨by (with_reducible repeat (first | refine blk_drewN ?_ _ | refine blk_drew ?_ | refine blk_alloc ?_ _)); exact BK359.out⟩, ⟨by repeat (first | (with_reducible first | exact HB.out | apply below_alloc | apply pw_below_drewN | apply below_drew1 | refine below_set ?_ GE327.out | refine below_set ?_ GE359.out) | exact HB.out)⟩⟩
                        case rest =>
                          clear HC102
                          try clear c1
                          try clear p2
                          try clear c3
                          try clear p3
                          try clear q3
                          try clear hx3
                          try clear c6
                          try clear p6
                          try clear c7
                          try clear c8
                          try clear p8
                          try clear q8
                          try clear hx8
                          try clear hf8
                          try clear c9
                          try clear c10
                          try clear p34
                          try clear q34
                          try clear hx34
                          try clear c35
                          try clear p35
                          try clear q35
                          try clear hx35
                          try clear c60
                          try clear c60b0
                          try clear p64
                          try clear c77
                          try clear c78
                          try clear c78b0
                          try clear c79
                          try clear c79b0
                          try clear c80
                          try clear c80b0
                          try clear c81
                          try clear c81b0
                          try clear p82
                          try clear q82
                          try clear hx82
                          try clear hf82
                          try clear c83
                          try clear c83b0
                          try clear q84
                          try clear c85
                          try clear c86
                          try clear c95
                          try clear c95b0
                          try clear c96
                          try clear c96b0
                          try clear c100
                          try clear c103
                          try clear c103b0
                          try clear c104
                          try clear c106
                          try clear hcz101_0
                          try clear hcz101_1
                          try clear hcz105_0
                          try clear hcz105_1
                          try clear hcz107_0
                          try clear hcz107_1
                          try clear hcz98_0
                          try clear hcz98_1
                          try clear hfz101_0
                          try clear hfz101_1
                          try clear hfz105_0
                          try clear hfz105_1
                          try clear hfz107_0
                          try clear hfz107_1
                          try clear hfz98_0
                          try clear hfz98_1
                          try clear hx349_0
                          try clear hx351_0
                          try clear hx352_0
                          try clear hx352_1
                          try clear hx352_2
                          try clear hx352_3
                          try clear hx353_0
                          try clear hx354_0
                          try clear hx354_1
                          try clear hx354_2
                          try clear hx354_3
                          try clear hx358_0
                          try clear hx358_1
                          try clear hx358_2
                          try clear hx358_3
                          try clear hx82_0
                          try clear p2
                          try clear p3
                          try clear p34
                          try clear p346
                          try clear p347
                          try clear p348
                          try clear p349
                          try clear p35
                          try clear p351
                          try clear p352
                          try clear p353
                          try clear p354
                          try clear p358
                          try clear p6
                          try clear p64
                          try clear p8
                          try clear p82
                          try clear q3
                          try clear q34
                          try clear q343
                          try clear q344
                          try clear q345
                          try clear q346
                          try clear q347
                          try clear q348
                          try clear q349
                          try clear q35
                          try clear q351
                          try clear q352
                          try clear q353
                          try clear q354
                          try clear q358
                          try clear q8
                          try clear q82
                          try clear q84
                          obtain ⟨kq, x132_101, rfl, HA, HJ101, HO_6, HO_7, HO_8, BK327, BK359, HB⟩ := hcut
                          cases kq with
                          | zero => exact absurd HA.out (by simp [assartlaw07_TreeNodes.j3])
                          | succ kj101 =>
                            have H := HA.out
                            clear HA
                            simp only [assartlaw07_TreeNodes.j3] at H
                            by_cases c108 : x132_101 = true
                            · subst c108
                              have H1 : (if 0 ≤ x11_2 then (if x11_2 < (((rd_T55 l0_0 a1).f2.f1).length : Int) then ((tree_Right.f kj101 l0_0 a0_1 ((rd_T49 ((rd_T55 l0_0 a1).f2.f1) x11_2).f1)).bind fun t361 => (if t361 = true then ((tree_High.f kj101 l0_0 a0_1 ((rd_T49 ((rd_T55 l0_0 a1).f2.f1) x11_2).f1)).bind fun t363 => ((tree_High.f kj101 l0_0 a0_1 a1).bind fun t364 => (if t363 = (wrap64 (t364 - 1)) then (if 0 ≤ ((rd_T49 ((rd_T55 l0_0 a1).f2.f1) x11_2).f1) then (if ((rd_T49 ((rd_T55 l0_0 a1).f2.f1) x11_2).f1) < (x7_1.length : Int) then (if (rdOf false x7_1 ((rd_T49 ((rd_T55 l0_0 a1).f2.f1) x11_2).f1) = true) then (assartlaw07_TreeNodes.l1 kj101 a1 t328 t330 x7_1 x8_1 (wrap64 (x11_2 + 1)) l0_0 a0_1 ((rd_T55 l0_0 a1).f2.f0) ((rd_T55 l0_0 a1).f2.f1)) else (some false)) else (none)) else (none)) else (some false)))) else (some false))) else (none)) else (none)) = some r := by rw [if_pos rfl] at H; exact H
                              clear H
                              have H := H1
                              clear H1
                              by_cases c109 : 0 ≤ x11_2
                              · rw [if_pos c109] at H
                                have c109b0 : decide (0 ≤ x11_2) = true := decide_eq_true c109
                                clear c109
                                by_cases c110 : x11_2 < (((rd_T55 l0_0 a1).f2.f1).length : Int)
                                · rw [if_pos c110] at H
                                  have c110b0 : decide (x11_2 < (((rd_T55 l0_0 a1).f2.f1).length : Int)) = true := decide_eq_true c110
                                  clear c110
                                  replace H := Option.bind_eq_some_iff.mp H
                                  obtain ⟨t361, A1110, H⟩ := H
                                  replace H : (if t361 = true then ((tree_High.f kj101 l0_0 a0_1 ((rd_T49 ((rd_T55 l0_0 a1).f2.f1) x11_2).f1)).bind fun t363 => ((tree_High.f kj101 l0_0 a0_1 a1).bind fun t364 => (if t363 = (wrap64 (t364 - 1)) then (if 0 ≤ ((rd_T49 ((rd_T55 l0_0 a1).f2.f1) x11_2).f1) then (if ((rd_T49 ((rd_T55 l0_0 a1).f2.f1) x11_2).f1) < (x7_1.length : Int) then (if (rdOf false x7_1 ((rd_T49 ((rd_T55 l0_0 a1).f2.f1) x11_2).f1) = true) then (assartlaw07_TreeNodes.l1 kj101 a1 t328 t330 x7_1 x8_1 (wrap64 (x11_2 + 1)) l0_0 a0_1 ((rd_T55 l0_0 a1).f2.f0) ((rd_T55 l0_0 a1).f2.f1)) else (some false)) else (none)) else (none)) else (some false)))) else (some false)) = some r := H
                                  have A111 := Aside0.mk A1110
                                  clear A1110
                                  by_cases c112 : t361 = true
                                  · subst c112
                                    have H1 : ((tree_High.f kj101 l0_0 a0_1 ((rd_T49 ((rd_T55 l0_0 a1).f2.f1) x11_2).f1)).bind fun t363 => ((tree_High.f kj101 l0_0 a0_1 a1).bind fun t364 => (if t363 = (wrap64 (t364 - 1)) then (if 0 ≤ ((rd_T49 ((rd_T55 l0_0 a1).f2.f1) x11_2).f1) then (if ((rd_T49 ((rd_T55 l0_0 a1).f2.f1) x11_2).f1) < (x7_1.length : Int) then (if (rdOf false x7_1 ((rd_T49 ((rd_T55 l0_0 a1).f2.f1) x11_2).f1) = true) then (assartlaw07_TreeNodes.l1 kj101 a1 t328 t330 x7_1 x8_1 (wrap64 (x11_2 + 1)) l0_0 a0_1 ((rd_T55 l0_0 a1).f2.f0) ((rd_T55 l0_0 a1).f2.f1)) else (some false)) else (none)) else (none)) else (some false)))) = some r := by rw [if_pos rfl] at H; exact H
                                    clear H
                                    have H := H1
                                    clear H1
                                    replace H := Option.bind_eq_some_iff.mp H
                                    obtain ⟨t363, A1130, H⟩ := H
                                    replace H : ((tree_High.f kj101 l0_0 a0_1 a1).bind fun t364 => (if t363 = (wrap64 (t364 - 1)) then (if 0 ≤ ((rd_T49 ((rd_T55 l0_0 a1).f2.f1) x11_2).f1) then (if ((rd_T49 ((rd_T55 l0_0 a1).f2.f1) x11_2).f1) < (x7_1.length : Int) then (if (rdOf false x7_1 ((rd_T49 ((rd_T55 l0_0 a1).f2.f1) x11_2).f1) = true) then (assartlaw07_TreeNodes.l1 kj101 a1 t328 t330 x7_1 x8_1 (wrap64 (x11_2 + 1)) l0_0 a0_1 ((rd_T55 l0_0 a1).f2.f0) ((rd_T55 l0_0 a1).f2.f1)) else (some false)) else (none)) else (none)) else (some false))) = some r := H
                                    have A113 := Aside0.mk A1130
                                    clear A1130
                                    replace H := Option.bind_eq_some_iff.mp H
                                    obtain ⟨t364, A1140, H⟩ := H
                                    replace H : (if t363 = (wrap64 (t364 - 1)) then (if 0 ≤ ((rd_T49 ((rd_T55 l0_0 a1).f2.f1) x11_2).f1) then (if ((rd_T49 ((rd_T55 l0_0 a1).f2.f1) x11_2).f1) < (x7_1.length : Int) then (if (rdOf false x7_1 ((rd_T49 ((rd_T55 l0_0 a1).f2.f1) x11_2).f1) = true) then (assartlaw07_TreeNodes.l1 kj101 a1 t328 t330 x7_1 x8_1 (wrap64 (x11_2 + 1)) l0_0 a0_1 ((rd_T55 l0_0 a1).f2.f0) ((rd_T55 l0_0 a1).f2.f1)) else (some false)) else (none)) else (none)) else (some false)) = some r := H
                                    have A114 := Aside0.mk A1140
                                    clear A1140
                                    by_cases c115 : t363 = (wrap64 (t364 - 1))
                                    · rw [if_pos c115] at H
                                      have c115b0 : (t363 == (wrap64 (t364 - 1))) = true := beq_iff_eq.mpr c115
                                      have c115b1 : (t363 != (wrap64 (t364 - 1))) = false := bne_eq_false_iff_eq.mpr c115
                                      clear c115
                                      by_cases c116 : 0 ≤ ((rd_T49 ((rd_T55 l0_0 a1).f2.f1) x11_2).f1)
                                      · rw [if_pos c116] at H
                                        have c116b0 : decide (0 ≤ ((rd_T49 ((rd_T55 l0_0 a1).f2.f1) x11_2).f1)) = true := decide_eq_true c116
                                        clear c116
                                        by_cases c117 : ((rd_T49 ((rd_T55 l0_0 a1).f2.f1) x11_2).f1) < (x7_1.length : Int)
                                        · rw [if_pos c117] at H
                                          have c117b0 : decide (((rd_T49 ((rd_T55 l0_0 a1).f2.f1) x11_2).f1) < (x7_1.length : Int)) = true := decide_eq_true c117
                                          clear c117
                                          obtain ⟨bq118, hbq118⟩ : ∃ b_ : Bool, b_ = (rdOf false x7_1 ((rd_T49 ((rd_T55 l0_0 a1).f2.f1) x11_2).f1)) := ⟨_, rfl⟩
                                          replace H : (if (bq118 = true) then (assartlaw07_TreeNodes.l1 kj101 a1 t328 t330 x7_1 x8_1 (wrap64 (x11_2 + 1)) l0_0 a0_1 ((rd_T55 l0_0 a1).f2.f0) ((rd_T55 l0_0 a1).f2.f1)) else (some false)) = some r := by rw [← hbq118] at H; exact H
                                          have Nbq118 := Aside0.mk hbq118
                                          clear hbq118
                                          by_cases c119 : (bq118 = true)
                                          · subst c119
                                            have H1 : (assartlaw07_TreeNodes.l1 kj101 a1 t328 t330 x7_1 x8_1 (wrap64 (x11_2 + 1)) l0_0 a0_1 ((rd_T55 l0_0 a1).f2.f0) ((rd_T55 l0_0 a1).f2.f1)) = some r := by rw [if_pos rfl] at H; exact H
                                            clear H
                                            have H := H1
                                            clear H1
                                            have H' := Aside0.mk H
                                            clear H
                                            try go_wp2
                                            have n0_ := Aside0.mk (Kd.R_drew HO_6.out)
                                            have n1_ := Aside0.mk (Kd.R_drew HO_7.out)
                                            have n2_ := Aside0.mk (Kd.R_drew HO_8.out)
                                            have n3_ := Aside0.mk (blk_drew BK327.out)
                                            have n4_ := Aside0.mk (blk_drew BK359.out)
                                            have n5_ := Aside0.mk (below_drew1 HB.out)
                                            clear HO_6
                                            clear HO_7
                                            clear HO_8
                                            clear BK327
                                            clear BK359
                                            clear HB
                                            have HO_6 := n0_
                                            have HO_7 := n1_
                                            have HO_8 := n2_
                                            have BK327 := n3_
                                            have BK359 := n4_
                                            have HB := n5_
                                            clear n0_ n1_ n2_ n3_ n4_ n5_
                                            have p360 : 0 ≤ (x11_2 : Int) := of_decide_eq_true (by first | (with_reducible assumption) | assumption)
                                            have q360 : x11_2 < (((rd_T55 l0_0 a1).f2.f1).length : Int) := of_decide_eq_true (by first | (with_reducible assumption) | assumption)
                                            obtain ⟨ad360, e360, hx360_0, hx360_1⟩ := at_T49 HR358_3.out x11_2 p360 q360
                                            have hw360_1 := hx360_1
                                            have hw360_0 := hx360_0
                                            cases e360
                                            replace hx360_0 := (HB.out.cell (World.block_lt_of_cell? w _ hx360_0)).trans hx360_0
                                            replace hx360_1 := (HB.out.cell (World.block_lt_of_cell? w _ hx360_1)).trans hx360_1
                                            replace p360 := eq_true p360
                                            replace q360 := eq_true q360
                                            have p362 : 0 ≤ (x11_2 : Int) := of_decide_eq_true (by first | (with_reducible assumption) | assumption)
                                            have q362 : x11_2 < (((rd_T55 l0_0 a1).f2.f1).length : Int) := of_decide_eq_true (by first | (with_reducible assumption) | assumption)
                                            obtain ⟨ad362, e362, hx362_0, hx362_1⟩ := at_T49 HR358_3.out x11_2 p362 q362
                                            have hw362_1 := hx362_1
                                            have hw362_0 := hx362_0
                                            obtain rfl : ad360 = ad362 := (by injection e362)
                                            replace hx362_0 := (HB.out.cell (World.block_lt_of_cell? w _ hx362_0)).trans hx362_0
                                            replace hx362_1 := (HB.out.cell (World.block_lt_of_cell? w _ hx362_1)).trans hx362_1
                                            replace p362 := eq_true p362
                                            replace q362 := eq_true q362
                                            have p365 : 0 ≤ (x11_2 : Int) := of_decide_eq_true (by first | (with_reducible assumption) | assumption)
                                            have q365 : x11_2 < (((rd_T55 l0_0 a1).f2.f1).length : Int) := of_decide_eq_true (by first | (with_reducible assumption) | assumption)
                                            obtain ⟨ad365, e365, hx365_0, hx365_1⟩ := at_T49 HR358_3.out x11_2 p365 q365
                                            have hw365_1 := hx365_1
                                            have hw365_0 := hx365_0
                                            obtain rfl : ad360 = ad365 := (by injection e365)
                                            replace hx365_0 := (HB.out.cell (World.block_lt_of_cell? w _ hx365_0)).trans hx365_0
                                            replace hx365_1 := (HB.out.cell (World.block_lt_of_cell? w _ hx365_1)).trans hx365_1
                                            replace p365 := eq_true p365
                                            replace q365 := eq_true q365
                                            obtain ⟨Ao123, co123, eo123⟩ := Kd.R_slice HO_7.out
                                            (first | subst eo123 | (injection eo123 with f1_ f2_ f3_; have f4_ := f1_.symm; have f5_ := f3_.symm; clear f1_ f2_ f3_; subst f4_; subst f5_))
                                            have p366 : 0 ≤ (((rd_T49 ((rd_T55 l0_0 a1).f2.f1) x11_2).f1) : Int) := of_decide_eq_true (by first | (with_reducible assumption) | assumption)
                                            have q366 : ((rd_T49 ((rd_T55 l0_0 a1).f2.f1) x11_2).f1) < (x7_1.length : Int) := of_decide_eq_true (by first | (with_reducible assumption) | assumption)
                                            obtain ⟨ad366, e366, hx366_0⟩ := Kd.at_bool (Kd.R_reads' HO_7.out).2.2 ((rd_T49 ((rd_T55 l0_0 a1).f2.f1) x11_2).f1) p366 q366
                                            (try rw [← Nbq118.out] at hx366_0)
                                            (try rw [← Nbq118.out] at hw366_0)
                                            cases e366
                                            replace p366 := eq_true p366
                                            replace q366 := eq_true q366
                                            refine start_ (n := 36) (S := fun w' => w'.cell? ⟨gb327, 0, none⟩ = some (.slice (some ad358) l0_0.length c0_0) ∧ w'.cell? ⟨gb327, 1, none⟩ = some (.int .i64 a0_1) ∧ w'.cell? ⟨gb359, 0, none⟩ = some (.bool ((rd_T55 l0_0 a1).f2.f0)) ∧ w'.cell? ⟨gb359, 1, none⟩ = some (.slice (some ad360) ((rd_T55 l0_0 a1).f2.f1).length c358_3) ∧ w'.cell? (ad360.add ((x11_2).toNat * 2)) = some (.int .i64 ((rd_T49 ((rd_T55 l0_0 a1).f2.f1) x11_2).f0)) ∧ w'.cell? ⟨(ad360.add ((x11_2).toNat * 2)).block, (ad360.add ((x11_2).toNat * 2)).off + 1, none⟩ = some (.int .i64 ((rd_T49 ((rd_T55 l0_0 a1).f2.f1) x11_2).f1)) ∧ w'.cell? (ad360.add ((x11_2).toNat * 2)) = some (.int .i64 ((rd_T49 ((rd_T55 l0_0 a1).f2.f1) x11_2).f0)) ∧ w'.cell? ⟨(ad360.add ((x11_2).toNat * 2)).block, (ad360.add ((x11_2).toNat * 2)).off + 1, none⟩ = some (.int .i64 ((rd_T49 ((rd_T55 l0_0 a1).f2.f1) x11_2).f1)) ∧ w'.cell? (ad360.add ((x11_2).toNat * 2)) = some (.int .i64 ((rd_T49 ((rd_T55 l0_0 a1).f2.f1) x11_2).f0)) ∧ w'.cell? ⟨(ad360.add ((x11_2).toNat * 2)).block, (ad360.add ((x11_2).toNat * 2)).off + 1, none⟩ = some (.int .i64 ((rd_T49 ((rd_T55 l0_0 a1).f2.f1) x11_2).f1)) ∧ w'.cell? (ad366.add (((rd_T49 ((rd_T55 l0_0 a1).f2.f1) x11_2).f1)).toNat) = some (.bool true)) (ds := []) #[false, false, false, false, false, false, false, false, false, false, false, false, false, false, false, false, false, false, false, false, false, false, false, false, false, false, false, false, false, false, false, false, false, false, false, false] (by kernel_rfl) rfl rfl ⟨(blk_cell BK327.out 0).trans rfl, (blk_cell BK327.out 1).trans rfl, (blk_cell BK359.out 0).trans rfl, (blk_cell BK359.out 1).trans rfl, ((HB.out.cell (World.block_lt_of_cell? w _ hw360_0)).trans hw360_0), ((HB.out.cell (World.block_lt_of_cell? w _ hw360_1)).trans hw360_1), ((HB.out.cell (World.block_lt_of_cell? w _ hw362_0)).trans hw362_0), ((HB.out.cell (World.block_lt_of_cell? w _ hw362_1)).trans hw362_1), ((HB.out.cell (World.block_lt_of_cell? w _ hw365_0)).trans hw365_0), ((HB.out.cell (World.block_lt_of_cell? w _ hw365_1)).trans hw365_1), hx366_0⟩ (fun hHeld => ?_); refine with_tabW assartlaw07_TreeNodes.tab21 assartlaw07_TreeNodes.bits21 (fun HT_ HW_ => ?_)
                                            generalize wc.drew = w120 at HO_6 HO_7 HO_8 BK327 BK359 HB hx360_0 hx360_1 hx362_0 hx362_1 hx365_0 hx365_1 hx366_0 hHeld ⊢
                                            refine pure_ (i := 1) (N := some 136) (v := ?_) (a' := ?_) #[false, true, false, false, false, false, false, false, false, false, false, false, false, false, false, false, false, false, false, false, false, false, false, false, false, false, false, false, false, false, false, false, false, false, false, false] rfl rfl (any_of HT_.out (by kernel_rfl)) (fun _ _ _ h => h) (Or.inl ⟨by rfl, ?_⟩) ?_ ?_
                                            rotate_left
                                            · intro w'
                                              go_simp
                                              with_reducible rfl
                                            rotate_left
                                            · simp only [Act.put, List.setIfInBounds_toArray, List.set_cons_zero, List.set_cons_succ, i64_w, i32_w]
                                              rfl
                                            refine pure_ (i := 3) (N := some 138) (v := ?_) (a' := ?_) #[false, true, false, true, false, false, false, false, false, false, false, false, false, false, false, false, false, false, false, false, false, false, false, false, false, false, false, false, false, false, false, false, false, false, false, false] rfl rfl (any_of HT_.out (by kernel_rfl)) (fun _ _ _ h => h) (Or.inl ⟨by rfl, ?_⟩) ?_ ?_
                                            rotate_left
                                            · intro w'
                                              go_simp
                                              with_reducible rfl
                                            rotate_left
                                            · simp only [Act.put, List.setIfInBounds_toArray, List.set_cons_zero, List.set_cons_succ, i64_w, i32_w]
                                              rfl
                                            refine take_ (i := 0) (N := some 135) (v := ?_) (a' := ?_) #[true, true, false, true, false, false, false, false, false, false, false, false, false, false, false, false, false, false, false, false, false, false, false, false, false, false, false, false, false, false, false, false, false, false, false, false] rfl rfl (take_ofW HT_.out HW_.out (by kernel_rfl)) (fun _ _ _ h => h) (Or.inl ⟨by rfl, ?_⟩) hHeld ?_ ?_
                                            rotate_left
                                            · rintro w' ⟨s0, s1, s2, s3, s4, s5, s6, s7, s8, s9, s10⟩
                                              go_simp
                                              with_reducible rfl
                                            rotate_left
                                            · simp only [Act.put, List.setIfInBounds_toArray, List.set_cons_zero, List.set_cons_succ, i64_w, i32_w]
                                              rfl
                                            refine take_ (i := 2) (N := some 137) (v := ?_) (a' := ?_) #[true, true, true, true, false, false, false, false, false, false, false, false, false, false, false, false, false, false, false, false, false, false, false, false, false, false, false, false, false, false, false, false, false, false, false, false] rfl rfl (take_ofW HT_.out HW_.out (by kernel_rfl)) (fun _ _ _ h => h) (Or.inl ⟨by rfl, ?_⟩) hHeld ?_ ?_
                                            rotate_left
                                            · rintro w' ⟨s0, s1, s2, s3, s4, s5, s6, s7, s8, s9, s10⟩
                                              go_simp
                                              with_reducible rfl
                                            rotate_left
                                            · simp only [Act.put, List.setIfInBounds_toArray, List.set_cons_zero, List.set_cons_succ, i64_w, i32_w]
                                              rfl
                                            refine pure_ (i := 4) (N := some 139) (v := ?_) (a' := ?_) #[true, true, true, true, true, false, false, false, false, false, false, false, false, false, false, false, false, false, false, false, false, false, false, false, false, false, false, false, false, false, false, false, false, false, false, false] rfl rfl (any_of HT_.out (by kernel_rfl)) (fun _ _ _ h => h) (Or.inl ⟨by rfl, ?_⟩) ?_ ?_
                                            rotate_left
                                            · intro w'
                                              go_simp
                                              with_reducible rfl
                                            rotate_left
                                            · simp only [Act.put, List.setIfInBounds_toArray, List.set_cons_zero, List.set_cons_succ, i64_w, i32_w]
                                              rfl
                                            refine pure_ (i := 5) (N := some 140) (v := ?_) (a' := ?_) #[true, true, true, true, true, true, false, false, false, false, false, false, false, false, false, false, false, false, false, false, false, false, false, false, false, false, false, false, false, false, false, false, false, false, false, false] rfl rfl (any_of HT_.out (by kernel_rfl)) (fun _ _ _ h => h) (Or.inl ⟨by rfl, ?_⟩) ?_ ?_
                                            rotate_left
                                            · intro w'
                                              go_simp
                                              with_reducible rfl
                                            rotate_left
                                            · simp only [Act.put, List.setIfInBounds_toArray, List.set_cons_zero, List.set_cons_succ, i64_w, i32_w]
                                              rfl
                                            refine take_ (i := 6) (N := some 141) (v := ?_) (a' := ?_) #[true, true, true, true, true, true, true, false, false, false, false, false, false, false, false, false, false, false, false, false, false, false, false, false, false, false, false, false, false, false, false, false, false, false, false, false] rfl rfl (take_ofW HT_.out HW_.out (by kernel_rfl)) (fun _ _ _ h => h) (Or.inl ⟨by rfl, ?_⟩) hHeld ?_ ?_
                                            rotate_left
                                            · rintro w' ⟨s0, s1, s2, s3, s4, s5, s6, s7, s8, s9, s10⟩
                                              go_simp
                                              with_reducible rfl
                                            rotate_left
                                            · simp only [Act.put, List.setIfInBounds_toArray, List.set_cons_zero, List.set_cons_succ, i64_w, i32_w]
                                              rfl
                                            refine one_ (i := 7) (N := some 142) #[true, true, true, true, true, true, true, true, false, false, false, false, false, false, false, false, false, false, false, false, false, false, false, false, false, false, false, false, false, false, false, false, false, false, false, false] rfl rfl (one_of HT_.out (by kernel_rfl)) (by decide) (fun K hK => ?_)
                                            refine goes_ Try.func18 (by kernel_rfl) rfl #[.agg #[.slice (some ad358) l0_0.length c0_0, .int .i64 a0_1], .int .i64 ((rd_T49 ((rd_T55 l0_0 a1).f2.f1) x11_2).f1)] (by rfl) rfl rfl (by (try simp only [List.map_toArray, List.map_cons, List.map_nil]); first | done | rfl | (simp only [List.length_drop, List.length_take]; rfl)) ?_
                                            with_reducible refine (tree_Right.calls kj101 _ _ l0_0 a0_1 ((rd_T49 ((rd_T55 l0_0 a1).f2.f1) x11_2).f1) true _ ?side1 ?side2 A111.out).mono ?_
                                            (case side1 => repeat (first | exact (Kd.C_below HR0_0.out HB.out) | (with_reducible refine Kd.C_alloc ?_ _) | (with_reducible refine Kd.C_drewN ?_ _) | (with_reducible refine Kd.C_drew ?_)))
                                            (case side2 => exact HC0_0.out)
                                            rintro e w121 ⟨rfl, hb⟩
                                            have HS10_ := (hb.cell (World.block_lt_of_cell? _ _ (hHeld.2.2.2.2.2.2.2.2.2.2))).trans (hHeld.2.2.2.2.2.2.2.2.2.2)
                                            refine ⟨_, rfl, ?_⟩
                                            have n0_ := Aside0.mk (Kd.R_below (by (with_reducible repeat (first | apply Kd.R_alloc | apply Kd.R_drewN | apply Kd.R_drew)); exact HO_6.out) hb)
                                            have n1_ := Aside0.mk (Kd.R_below (by (with_reducible repeat (first | apply Kd.R_alloc | apply Kd.R_drewN | apply Kd.R_drew)); exact HO_7.out) hb)
                                            have n2_ := Aside0.mk (Kd.R_below (by (with_reducible repeat (first | apply Kd.R_alloc | apply Kd.R_drewN | apply Kd.R_drew)); exact HO_8.out) hb)
                                            have n3_ := Aside0.mk (blk_below (g := gb327) (o := .cells #[.slice (some ad358) l0_0.length c0_0, .int .i64 a0_1] 24 (0, 0)) (by (with_reducible repeat (first | refine blk_drewN ?_ _ | refine blk_drew ?_ | refine blk_alloc ?_ _)); exact BK327.out) hb)
                                            have n4_ := Aside0.mk (blk_below (g := gb359) (o := .cells #[.bool ((rd_T55 l0_0 a1).f2.f0), .slice (some ad360) ((rd_T55 l0_0 a1).f2.f1).length c358_3] 53 (0, 0)) (by (with_reducible repeat (first | refine blk_drewN ?_ _ | refine blk_drew ?_ | refine blk_alloc ?_ _)); exact BK359.out) hb)
                                            have n5_ := Aside0.mk (below_step (by repeat (first | (with_reducible first | exact HB.out | apply below_alloc | apply pw_below_drewN | apply below_drew1 | refine below_set ?_ GE327.out | refine below_set ?_ GE359.out) | exact HB.out)) hb)
                                            clear HO_6
                                            clear HO_7
                                            clear HO_8
                                            clear BK327
                                            clear BK359
                                            clear HB
                                            have HO_6 := n0_
                                            have HO_7 := n1_
                                            have HO_8 := n2_
                                            have BK327 := n3_
                                            have BK359 := n4_
                                            have HB := n5_
                                            clear n0_ n1_ n2_ n3_ n4_ n5_
                                            (try clear hb)
                                            (try clear hb2)
                                            (try clear hk)
                                            (try clear hi)
                                            refine hK.out _ _ ⟨(blk_cell BK327.out 0).trans rfl, (blk_cell BK327.out 1).trans rfl, (blk_cell BK359.out 0).trans rfl, (blk_cell BK359.out 1).trans rfl, ((HB.out.cell (World.block_lt_of_cell? w _ hw360_0)).trans hw360_0), ((HB.out.cell (World.block_lt_of_cell? w _ hw360_1)).trans hw360_1), ((HB.out.cell (World.block_lt_of_cell? w _ hw362_0)).trans hw362_0), ((HB.out.cell (World.block_lt_of_cell? w _ hw362_1)).trans hw362_1), ((HB.out.cell (World.block_lt_of_cell? w _ hw365_0)).trans hw365_0), ((HB.out.cell (World.block_lt_of_cell? w _ hw365_1)).trans hw365_1), HS10_⟩ (fun hHeld => ?_)
                                            clear hK K
                                            refine norm_ (a' := ?_) ?_ ?_
                                            rotate_left
                                            · show Act.put _ (some 142) _ = _
                                              simp only [Act.put, List.setIfInBounds_toArray, List.set_cons_zero, List.set_cons_succ, i64_w, i32_w]
                                              rfl
                                            refine pure_ (i := 8) (N := some 143) (v := ?_) (a' := ?_) #[true, true, true, true, true, true, true, true, true, false, false, false, false, false, false, false, false, false, false, false, false, false, false, false, false, false, false, false, false, false, false, false, false, false, false, false] rfl rfl (any_of HT_.out (by kernel_rfl)) (fun _ _ _ h => h) (Or.inl ⟨by rfl, ?_⟩) ?_ ?_
                                            rotate_left
                                            · intro w'
                                              go_simp
                                              with_reducible rfl
                                            rotate_left
                                            · simp only [Act.put, List.setIfInBounds_toArray, List.set_cons_zero, List.set_cons_succ, i64_w, i32_w]
                                              rfl
                                            refine pure_ (i := 9) (N := some 144) (v := ?_) (a' := ?_) #[true, true, true, true, true, true, true, true, true, true, false, false, false, false, false, false, false, false, false, false, false, false, false, false, false, false, false, false, false, false, false, false, false, false, false, false] rfl rfl (any_of HT_.out (by kernel_rfl)) (fun _ _ _ h => h) (Or.inl ⟨by rfl, ?_⟩) ?_ ?_
                                            rotate_left
                                            · intro w'
                                              go_simp
                                              with_reducible rfl
                                            rotate_left
                                            · simp only [Act.put, List.setIfInBounds_toArray, List.set_cons_zero, List.set_cons_succ, i64_w, i32_w]
                                              rfl
                                            refine pure_ (i := 11) (N := some 146) (v := ?_) (a' := ?_) #[true, true, true, true, true, true, true, true, true, true, false, true, false, false, false, false, false, false, false, false, false, false, false, false, false, false, false, false, false, false, false, false, false, false, false, false] rfl rfl (any_of HT_.out (by kernel_rfl)) (fun _ _ _ h => h) (Or.inl ⟨by rfl, ?_⟩) ?_ ?_
                                            rotate_left
                                            · intro w'
                                              go_simp
                                              with_reducible rfl
                                            rotate_left
                                            · simp only [Act.put, List.setIfInBounds_toArray, List.set_cons_zero, List.set_cons_succ, i64_w, i32_w]
                                              rfl
                                            refine pure_ (i := 13) (N := some 148) (v := ?_) (a' := ?_) #[true, true, true, true, true, true, true, true, true, true, false, true, false, true, false, false, false, false, false, false, false, false, false, false, false, false, false, false, false, false, false, false, false, false, false, false] rfl rfl (any_of HT_.out (by kernel_rfl)) (fun _ _ _ h => h) (Or.inl ⟨by rfl, ?_⟩) ?_ ?_
                                            rotate_left
                                            · intro w'
                                              go_simp
                                              with_reducible rfl
                                            rotate_left
                                            · simp only [Act.put, List.setIfInBounds_toArray, List.set_cons_zero, List.set_cons_succ, i64_w, i32_w]
                                              rfl
                                            refine pure_ (i := 19) (N := some 154) (v := ?_) (a' := ?_) #[true, true, true, true, true, true, true, true, true, true, false, true, false, true, false, false, false, false, false, true, false, false, false, false, false, false, false, false, false, false, false, false, false, false, false, false] rfl rfl (any_of HT_.out (by kernel_rfl)) (fun _ _ _ h => h) (Or.inl ⟨by rfl, ?_⟩) ?_ ?_
                                            rotate_left
                                            · intro w'
                                              go_simp
                                              with_reducible rfl
                                            rotate_left
                                            · simp only [Act.put, List.setIfInBounds_toArray, List.set_cons_zero, List.set_cons_succ, i64_w, i32_w]
                                              rfl
                                            refine take_ (i := 10) (N := some 145) (v := ?_) (a' := ?_) #[true, true, true, true, true, true, true, true, true, true, true, true, false, true, false, false, false, false, false, true, false, false, false, false, false, false, false, false, false, false, false, false, false, false, false, false] rfl rfl (take_ofW HT_.out HW_.out (by kernel_rfl)) (fun _ _ _ h => h) (Or.inl ⟨by rfl, ?_⟩) hHeld ?_ ?_
                                            rotate_left
                                            · rintro w' ⟨s0, s1, s2, s3, s4, s5, s6, s7, s8, s9, s10⟩
                                              go_simp
                                              with_reducible rfl
                                            rotate_left
                                            · simp only [Act.put, List.setIfInBounds_toArray, List.set_cons_zero, List.set_cons_succ, i64_w, i32_w]
                                              rfl
                                            refine take_ (i := 12) (N := some 147) (v := ?_) (a' := ?_) #[true, true, true, true, true, true, true, true, true, true, true, true, true, true, false, false, false, false, false, true, false, false, false, false, false, false, false, false, false, false, false, false, false, false, false, false] rfl rfl (take_ofW HT_.out HW_.out (by kernel_rfl)) (fun _ _ _ h => h) (Or.inl ⟨by rfl, ?_⟩) hHeld ?_ ?_
                                            rotate_left
                                            · rintro w' ⟨s0, s1, s2, s3, s4, s5, s6, s7, s8, s9, s10⟩
                                              go_simp
                                              with_reducible rfl
                                            rotate_left
                                            · simp only [Act.put, List.setIfInBounds_toArray, List.set_cons_zero, List.set_cons_succ, i64_w, i32_w]
                                              rfl
                                            refine pure_ (i := 14) (N := some 149) (v := ?_) (a' := ?_) #[true, true, true, true, true, true, true, true, true, true, true, true, true, true, true, false, false, false, false, true, false, false, false, false, false, false, false, false, false, false, false, false, false, false, false, false] rfl rfl (any_of HT_.out (by kernel_rfl)) (fun _ _ _ h => h) (Or.inl ⟨by rfl, ?_⟩) ?_ ?_
                                            rotate_left
                                            · intro w'
                                              go_simp
                                              with_reducible rfl
                                            rotate_left
                                            · simp only [Act.put, List.setIfInBounds_toArray, List.set_cons_zero, List.set_cons_succ, i64_w, i32_w]
                                              rfl
                                            refine pure_ (i := 15) (N := some 150) (v := ?_) (a' := ?_) #[true, true, true, true, true, true, true, true, true, true, true, true, true, true, true, true, false, false, false, true, false, false, false, false, false, false, false, false, false, false, false, false, false, false, false, false] rfl rfl (any_of HT_.out (by kernel_rfl)) (fun _ _ _ h => h) (Or.inl ⟨by rfl, ?_⟩) ?_ ?_
                                            rotate_left
                                            · intro w'
                                              go_simp
                                              with_reducible rfl
                                            rotate_left
                                            · simp only [Act.put, List.setIfInBounds_toArray, List.set_cons_zero, List.set_cons_succ, i64_w, i32_w]
                                              rfl
                                            refine take_ (i := 16) (N := some 151) (v := ?_) (a' := ?_) #[true, true, true, true, true, true, true, true, true, true, true, true, true, true, true, true, true, false, false, true, false, false, false, false, false, false, false, false, false, false, false, false, false, false, false, false] rfl rfl (take_ofW HT_.out HW_.out (by kernel_rfl)) (fun _ _ _ h => h) (Or.inl ⟨by rfl, ?_⟩) hHeld ?_ ?_
                                            rotate_left
                                            · rintro w' ⟨s0, s1, s2, s3, s4, s5, s6, s7, s8, s9, s10⟩
                                              go_simp
                                              with_reducible rfl
                                            rotate_left
                                            · simp only [Act.put, List.setIfInBounds_toArray, List.set_cons_zero, List.set_cons_succ, i64_w, i32_w]
                                              rfl
                                            refine take_ (i := 18) (N := some 153) (v := ?_) (a' := ?_) #[true, true, true, true, true, true, true, true, true, true, true, true, true, true, true, true, true, false, true, true, false, false, false, false, false, false, false, false, false, false, false, false, false, false, false, false] rfl rfl (take_ofW HT_.out HW_.out (by kernel_rfl)) (fun _ _ _ h => h) (Or.inl ⟨by rfl, ?_⟩) hHeld ?_ ?_
                                            rotate_left
                                            · rintro w' ⟨s0, s1, s2, s3, s4, s5, s6, s7, s8, s9, s10⟩
                                              go_simp
                                              with_reducible rfl
                                            rotate_left
                                            · simp only [Act.put, List.setIfInBounds_toArray, List.set_cons_zero, List.set_cons_succ, i64_w, i32_w]
                                              rfl
                                            refine one_ (i := 17) (N := some 152) #[true, true, true, true, true, true, true, true, true, true, true, true, true, true, true, true, true, true, true, true, false, false, false, false, false, false, false, false, false, false, false, false, false, false, false, false] rfl rfl (one_of HT_.out (by kernel_rfl)) (by decide) (fun K hK => ?_)
                                            refine goes_ Try.func21 (by kernel_rfl) rfl #[.agg #[.slice (some ad358) l0_0.length c0_0, .int .i64 a0_1], .int .i64 ((rd_T49 ((rd_T55 l0_0 a1).f2.f1) x11_2).f1)] (by rfl) rfl rfl (by (try simp only [List.map_toArray, List.map_cons, List.map_nil]); first | done | rfl | (simp only [List.length_drop, List.length_take]; rfl)) ?_
                                            with_reducible refine (tree_High.calls kj101 _ _ l0_0 a0_1 ((rd_T49 ((rd_T55 l0_0 a1).f2.f1) x11_2).f1) t363 _ ?side1 ?side2 A113.out).mono ?_
                                            (case side1 => repeat (first | exact (Kd.C_below HR0_0.out HB.out) | (with_reducible refine Kd.C_alloc ?_ _) | (with_reducible refine Kd.C_drewN ?_ _) | (with_reducible refine Kd.C_drew ?_)))
                                            (case side2 => exact HC0_0.out)
                                            rintro e w122 ⟨rfl, hb⟩
                                            have HS10_ := (hb.cell (World.block_lt_of_cell? _ _ (hHeld.2.2.2.2.2.2.2.2.2.2))).trans (hHeld.2.2.2.2.2.2.2.2.2.2)
                                            refine ⟨_, rfl, ?_⟩
                                            have n0_ := Aside0.mk (Kd.R_below (by (with_reducible repeat (first | apply Kd.R_alloc | apply Kd.R_drewN | apply Kd.R_drew)); exact HO_6.out) hb)
                                            have n1_ := Aside0.mk (Kd.R_below (by (with_reducible repeat (first | apply Kd.R_alloc | apply Kd.R_drewN | apply Kd.R_drew)); exact HO_7.out) hb)
                                            have n2_ := Aside0.mk (Kd.R_below (by (with_reducible repeat (first | apply Kd.R_alloc | apply Kd.R_drewN | apply Kd.R_drew)); exact HO_8.out) hb)
                                            have n3_ := Aside0.mk (blk_below (g := gb327) (o := .cells #[.slice (some ad358) l0_0.length c0_0, .int .i64 a0_1] 24 (0, 0)) (by (with_reducible repeat (first | refine blk_drewN ?_ _ | refine blk_drew ?_ | refine blk_alloc ?_ _)); exact BK327.out) hb)
                                            have n4_ := Aside0.mk (blk_below (g := gb359) (o := .cells #[.bool ((rd_T55 l0_0 a1).f2.f0), .slice (some ad360) ((rd_T55 l0_0 a1).f2.f1).length c358_3] 53 (0, 0)) (by (with_reducible repeat (first | refine blk_drewN ?_ _ | refine blk_drew ?_ | refine blk_alloc ?_ _)); exact BK359.out) hb)
                                            have n5_ := Aside0.mk (below_step (by repeat (first | (with_reducible first | exact HB.out | apply below_alloc | apply pw_below_drewN | apply below_drew1 | refine below_set ?_ GE327.out | refine below_set ?_ GE359.out) | exact HB.out)) hb)
                                            clear HO_6
                                            clear HO_7
                                            clear HO_8
                                            clear BK327
                                            clear BK359
                                            clear HB
                                            have HO_6 := n0_
                                            have HO_7 := n1_
                                            have HO_8 := n2_
                                            have BK327 := n3_
                                            have BK359 := n4_
                                            have HB := n5_
                                            clear n0_ n1_ n2_ n3_ n4_ n5_
                                            (try clear hb)
                                            (try clear hb2)
                                            (try clear hk)
                                            (try clear hi)
                                            refine hK.out _ _ ⟨(blk_cell BK327.out 0).trans rfl, (blk_cell BK327.out 1).trans rfl, (blk_cell BK359.out 0).trans rfl, (blk_cell BK359.out 1).trans rfl, ((HB.out.cell (World.block_lt_of_cell? w _ hw360_0)).trans hw360_0), ((HB.out.cell (World.block_lt_of_cell? w _ hw360_1)).trans hw360_1), ((HB.out.cell (World.block_lt_of_cell? w _ hw362_0)).trans hw362_0), ((HB.out.cell (World.block_lt_of_cell? w _ hw362_1)).trans hw362_1), ((HB.out.cell (World.block_lt_of_cell? w _ hw365_0)).trans hw365_0), ((HB.out.cell (World.block_lt_of_cell? w _ hw365_1)).trans hw365_1), HS10_⟩ (fun hHeld => ?_)
                                            clear hK K
                                            refine norm_ (a' := ?_) ?_ ?_
                                            rotate_left
                                            · show Act.put _ (some 152) _ = _
                                              simp only [Act.put, List.setIfInBounds_toArray, List.set_cons_zero, List.set_cons_succ, i64_w, i32_w]
                                              rfl
                                            refine one_ (i := 20) (N := some 155) #[true, true, true, true, true, true, true, true, true, true, true, true, true, true, true, true, true, true, true, true, true, false, false, false, false, false, false, false, false, false, false, false, false, false, false, false] rfl rfl (one_of HT_.out (by kernel_rfl)) (by decide) (fun K hK => ?_)
                                            refine goes_ Try.func21 (by kernel_rfl) rfl #[.agg #[.slice (some ad358) l0_0.length c0_0, .int .i64 a0_1], .int .i64 a1] (by rfl) rfl rfl (by (try simp only [List.map_toArray, List.map_cons, List.map_nil]); first | done | rfl | (simp only [List.length_drop, List.length_take]; rfl)) ?_
                                            with_reducible refine (tree_High.calls kj101 _ _ l0_0 a0_1 a1 t364 _ ?side1 ?side2 A114.out).mono ?_
                                            (case side1 => repeat (first | exact (Kd.C_below HR0_0.out HB.out) | (with_reducible refine Kd.C_alloc ?_ _) | (with_reducible refine Kd.C_drewN ?_ _) | (with_reducible refine Kd.C_drew ?_)))
                                            (case side2 => exact HC0_0.out)
                                            rintro e w123 ⟨rfl, hb⟩
                                            have HS10_ := (hb.cell (World.block_lt_of_cell? _ _ (hHeld.2.2.2.2.2.2.2.2.2.2))).trans (hHeld.2.2.2.2.2.2.2.2.2.2)
                                            refine ⟨_, rfl, ?_⟩
                                            have n0_ := Aside0.mk (Kd.R_below (by (with_reducible repeat (first | apply Kd.R_alloc | apply Kd.R_drewN | apply Kd.R_drew)); exact HO_6.out) hb)
                                            have n1_ := Aside0.mk (Kd.R_below (by (with_reducible repeat (first | apply Kd.R_alloc | apply Kd.R_drewN | apply Kd.R_drew)); exact HO_7.out) hb)
                                            have n2_ := Aside0.mk (Kd.R_below (by (with_reducible repeat (first | apply Kd.R_alloc | apply Kd.R_drewN | apply Kd.R_drew)); exact HO_8.out) hb)
                                            have n3_ := Aside0.mk (blk_below (g := gb327) (o := .cells #[.slice (some ad358) l0_0.length c0_0, .int .i64 a0_1] 24 (0, 0)) (by (with_reducible repeat (first | refine blk_drewN ?_ _ | refine blk_drew ?_ | refine blk_alloc ?_ _)); exact BK327.out) hb)
                                            have n4_ := Aside0.mk (blk_below (g := gb359) (o := .cells #[.bool ((rd_T55 l0_0 a1).f2.f0), .slice (some ad360) ((rd_T55 l0_0 a1).f2.f1).length c358_3] 53 (0, 0)) (by (with_reducible repeat (first | refine blk_drewN ?_ _ | refine blk_drew ?_ | refine blk_alloc ?_ _)); exact BK359.out) hb)
                                            have n5_ := Aside0.mk (below_step (by repeat (first | (with_reducible first | exact HB.out | apply below_alloc | apply pw_below_drewN | apply below_drew1 | refine below_set ?_ GE327.out | refine below_set ?_ GE359.out) | exact HB.out)) hb)
                                            clear HO_6
                                            clear HO_7
                                            clear HO_8
                                            clear BK327
                                            clear BK359
                                            clear HB
                                            have HO_6 := n0_
                                            have HO_7 := n1_
                                            have HO_8 := n2_
                                            have BK327 := n3_
                                            have BK359 := n4_
                                            have HB := n5_
                                            clear n0_ n1_ n2_ n3_ n4_ n5_
                                            (try clear hb)
                                            (try clear hb2)
                                            (try clear hk)
                                            (try clear hi)
                                            obtain ⟨Ao124, co124, eo124⟩ := Kd.R_slice HO_7.out
                                            (first | subst eo124 | (injection eo124 with f1_ f2_ f3_; have f4_ := f1_.symm; have f5_ := f3_.symm; clear f1_ f2_ f3_; subst f4_; subst f5_))
                                            refine hK.out _ _ ⟨(blk_cell BK327.out 0).trans rfl, (blk_cell BK327.out 1).trans rfl, (blk_cell BK359.out 0).trans rfl, (blk_cell BK359.out 1).trans rfl, ((HB.out.cell (World.block_lt_of_cell? w _ hw360_0)).trans hw360_0), ((HB.out.cell (World.block_lt_of_cell? w _ hw360_1)).trans hw360_1), ((HB.out.cell (World.block_lt_of_cell? w _ hw362_0)).trans hw362_0), ((HB.out.cell (World.block_lt_of_cell? w _ hw362_1)).trans hw362_1), ((HB.out.cell (World.block_lt_of_cell? w _ hw365_0)).trans hw365_0), ((HB.out.cell (World.block_lt_of_cell? w _ hw365_1)).trans hw365_1), HS10_⟩ (fun hHeld => ?_)
                                            clear hK K
                                            refine norm_ (a' := ?_) ?_ ?_
                                            rotate_left
                                            · show Act.put _ (some 155) _ = _
                                              simp only [Act.put, List.setIfInBounds_toArray, List.set_cons_zero, List.set_cons_succ, i64_w, i32_w]
                                              rfl
                                            refine pure_ (i := 21) (N := some 156) (v := ?_) (a' := ?_) #[true, true, true, true, true, true, true, true, true, true, true, true, true, true, true, true, true, true, true, true, true, true, false, false, false, false, false, false, false, false, false, false, false, false, false, false] rfl rfl (any_of HT_.out (by kernel_rfl)) (fun _ _ _ h => h) (Or.inl ⟨by rfl, ?_⟩) ?_ ?_
                                            rotate_left
                                            · intro w'
                                              go_simp
                                              with_reducible rfl
                                            rotate_left
                                            · simp only [Act.put, List.setIfInBounds_toArray, List.set_cons_zero, List.set_cons_succ, i64_w, i32_w]
                                              rfl
                                            refine pure_ (i := 22) (N := some 157) (v := ?_) (a' := ?_) #[true, true, true, true, true, true, true, true, true, true, true, true, true, true, true, true, true, true, true, true, true, true, true, false, false, false, false, false, false, false, false, false, false, false, false, false] rfl rfl (any_of HT_.out (by kernel_rfl)) (fun _ _ _ h => h) (Or.inl ⟨by rfl, ?_⟩) ?_ ?_
                                            rotate_left
                                            · intro w'
                                              go_simp
                                              with_reducible rfl
                                            rotate_left
                                            · simp only [Act.put, List.setIfInBounds_toArray, List.set_cons_zero, List.set_cons_succ, i64_w, i32_w]
                                              rfl
                                            refine pure_ (i := 23) (N := some 158) (v := ?_) (a' := ?_) #[true, true, true, true, true, true, true, true, true, true, true, true, true, true, true, true, true, true, true, true, true, true, true, true, false, false, false, false, false, false, false, false, false, false, false, false] rfl rfl (any_of HT_.out (by kernel_rfl)) (fun _ _ _ h => h) (Or.inl ⟨by rfl, ?_⟩) ?_ ?_
                                            rotate_left
                                            · intro w'
                                              go_simp
                                              with_reducible rfl
                                            rotate_left
                                            · simp only [Act.put, List.setIfInBounds_toArray, List.set_cons_zero, List.set_cons_succ, i64_w, i32_w]
                                              rfl
                                            refine pure_ (i := 24) (N := some 159) (v := ?_) (a' := ?_) #[true, true, true, true, true, true, true, true, true, true, true, true, true, true, true, true, true, true, true, true, true, true, true, true, true, false, false, false, false, false, false, false, false, false, false, false] rfl rfl (any_of HT_.out (by kernel_rfl)) (fun _ _ _ h => h) (Or.inl ⟨by rfl, ?_⟩) ?_ ?_
                                            rotate_left
                                            · intro w'
                                              go_simp
                                              with_reducible rfl
                                            rotate_left
                                            · simp only [Act.put, List.setIfInBounds_toArray, List.set_cons_zero, List.set_cons_succ, i64_w, i32_w]
                                              rfl
                                            refine pure_ (i := 25) (N := some 160) (v := ?_) (a' := ?_) #[true, true, true, true, true, true, true, true, true, true, true, true, true, true, true, true, true, true, true, true, true, true, true, true, true, true, false, false, false, false, false, false, false, false, false, false] rfl rfl (any_of HT_.out (by kernel_rfl)) (fun _ _ _ h => h) (Or.inl ⟨by rfl, ?_⟩) ?_ ?_
                                            rotate_left
                                            · intro w'
                                              go_simp
                                              with_reducible rfl
                                            rotate_left
                                            · simp only [Act.put, List.setIfInBounds_toArray, List.set_cons_zero, List.set_cons_succ, i64_w, i32_w]
                                              rfl
                                            refine pure_ (i := 26) (N := some 161) (v := ?_) (a' := ?_) #[true, true, true, true, true, true, true, true, true, true, true, true, true, true, true, true, true, true, true, true, true, true, true, true, true, true, true, false, false, false, false, false, false, false, false, false] rfl rfl (any_of HT_.out (by kernel_rfl)) (fun _ _ _ h => h) (Or.inl ⟨by rfl, ?_⟩) ?_ ?_
                                            rotate_left
                                            · intro w'
                                              go_simp
                                              with_reducible rfl
                                            rotate_left
                                            · simp only [Act.put, List.setIfInBounds_toArray, List.set_cons_zero, List.set_cons_succ, i64_w, i32_w]
                                              rfl
                                            refine pure_ (i := 28) (N := some 163) (v := ?_) (a' := ?_) #[true, true, true, true, true, true, true, true, true, true, true, true, true, true, true, true, true, true, true, true, true, true, true, true, true, true, true, false, true, false, false, false, false, false, false, false] rfl rfl (any_of HT_.out (by kernel_rfl)) (fun _ _ _ h => h) (Or.inl ⟨by rfl, ?_⟩) ?_ ?_
                                            rotate_left
                                            · intro w'
                                              go_simp
                                              with_reducible rfl
                                            rotate_left
                                            · simp only [Act.put, List.setIfInBounds_toArray, List.set_cons_zero, List.set_cons_succ, i64_w, i32_w]
                                              rfl
                                            refine take_ (i := 27) (N := some 162) (v := ?_) (a' := ?_) #[true, true, true, true, true, true, true, true, true, true, true, true, true, true, true, true, true, true, true, true, true, true, true, true, true, true, true, true, true, false, false, false, false, false, false, false] rfl rfl (take_ofW HT_.out HW_.out (by kernel_rfl)) (fun _ _ _ h => h) (Or.inl ⟨by rfl, ?_⟩) hHeld ?_ ?_
                                            rotate_left
                                            · rintro w' ⟨s0, s1, s2, s3, s4, s5, s6, s7, s8, s9, s10⟩
                                              go_simp
                                              with_reducible rfl
                                            rotate_left
                                            · simp only [Act.put, List.setIfInBounds_toArray, List.set_cons_zero, List.set_cons_succ, i64_w, i32_w]
                                              rfl
                                            refine pure_ (i := 29) (N := some 164) (v := ?_) (a' := ?_) #[true, true, true, true, true, true, true, true, true, true, true, true, true, true, true, true, true, true, true, true, true, true, true, true, true, true, true, true, true, true, false, false, false, false, false, false] rfl rfl (any_of HT_.out (by kernel_rfl)) (fun _ _ _ h => h) (Or.inl ⟨by rfl, ?_⟩) ?_ ?_
                                            rotate_left
                                            · intro w'
                                              go_simp
                                              with_reducible rfl
                                            rotate_left
                                            · simp only [Act.put, List.setIfInBounds_toArray, List.set_cons_zero, List.set_cons_succ, i64_w, i32_w]
                                              rfl
                                            refine pure_ (i := 30) (N := some 165) (v := ?_) (a' := ?_) #[true, true, true, true, true, true, true, true, true, true, true, true, true, true, true, true, true, true, true, true, true, true, true, true, true, true, true, true, true, true, true, false, false, false, false, false] rfl rfl (any_of HT_.out (by kernel_rfl)) (fun _ _ _ h => h) (Or.inl ⟨by rfl, ?_⟩) ?_ ?_
                                            rotate_left
                                            · intro w'
                                              go_simp
                                              with_reducible rfl
                                            rotate_left
                                            · simp only [Act.put, List.setIfInBounds_toArray, List.set_cons_zero, List.set_cons_succ, i64_w, i32_w]
                                              rfl
                                            refine take_ (i := 31) (N := some 166) (v := ?_) (a' := ?_) #[true, true, true, true, true, true, true, true, true, true, true, true, true, true, true, true, true, true, true, true, true, true, true, true, true, true, true, true, true, true, true, true, false, false, false, false] rfl rfl (take_ofW HT_.out HW_.out (by kernel_rfl)) (fun _ _ _ h => h) (Or.inl ⟨by rfl, ?_⟩) hHeld ?_ ?_
                                            rotate_left
                                            · rintro w' ⟨s0, s1, s2, s3, s4, s5, s6, s7, s8, s9, s10⟩
                                              go_simp
                                              with_reducible rfl
                                            rotate_left
                                            · simp only [Act.put, List.setIfInBounds_toArray, List.set_cons_zero, List.set_cons_succ, i64_w, i32_w]
                                              rfl
                                            refine pure_ (i := 32) (N := some 167) (v := ?_) (a' := ?_) #[true, true, true, true, true, true, true, true, true, true, true, true, true, true, true, true, true, true, true, true, true, true, true, true, true, true, true, true, true, true, true, true, true, false, false, false] rfl rfl (any_of HT_.out (by kernel_rfl)) (fun _ _ _ h => h) (Or.inl ⟨by rfl, ?_⟩) ?_ ?_
                                            rotate_left
                                            · intro w'
                                              go_simp
                                              with_reducible rfl
                                            rotate_left
                                            · simp only [Act.put, List.setIfInBounds_toArray, List.set_cons_zero, List.set_cons_succ, i64_w, i32_w]
                                              rfl
                                            refine take_ (i := 33) (N := some 168) (v := ?_) (a' := ?_) #[true, true, true, true, true, true, true, true, true, true, true, true, true, true, true, true, true, true, true, true, true, true, true, true, true, true, true, true, true, true, true, true, true, true, false, false] rfl rfl (take_ofW HT_.out HW_.out (by kernel_rfl)) (fun _ _ _ h => h) (Or.inl ⟨by rfl, ?_⟩) hHeld ?_ ?_
                                            rotate_left
                                            · rintro w' ⟨s0, s1, s2, s3, s4, s5, s6, s7, s8, s9, s10⟩
                                              go_simp
                                              with_reducible rfl
                                            rotate_left
                                            · simp only [Act.put, List.setIfInBounds_toArray, List.set_cons_zero, List.set_cons_succ, i64_w, i32_w]
                                              rfl
                                            refine pure_ (i := 34) (N := some 169) (v := ?_) (a' := ?_) #[true, true, true, true, true, true, true, true, true, true, true, true, true, true, true, true, true, true, true, true, true, true, true, true, true, true, true, true, true, true, true, true, true, true, true, false] rfl rfl (any_of HT_.out (by kernel_rfl)) (fun _ _ _ h => h) (Or.inl ⟨by rfl, ?_⟩) ?_ ?_
                                            rotate_left
                                            · intro w'
                                              go_simp
                                              with_reducible rfl
                                            rotate_left
                                            · simp only [Act.put, List.setIfInBounds_toArray, List.set_cons_zero, List.set_cons_succ, i64_w, i32_w]
                                              rfl
                                            refine pure_ (i := 35) (N := some 170) (v := ?_) (a' := ?_) #[true, true, true, true, true, true, true, true, true, true, true, true, true, true, true, true, true, true, true, true, true, true, true, true, true, true, true, true, true, true, true, true, true, true, true, true] rfl rfl (any_of HT_.out (by kernel_rfl)) (fun _ _ _ h => h) (Or.inl ⟨by rfl, ?_⟩) ?_ ?_
                                            rotate_left
                                            · intro w'
                                              go_simp
                                              with_reducible rfl
                                            rotate_left
                                            · simp only [Act.put, List.setIfInBounds_toArray, List.set_cons_zero, List.set_cons_succ, i64_w, i32_w]
                                              rfl
                                            refine done_ (done_of HT_.out (by kernel_rfl)) ?_
                                            try go_wp2
                                            go_roundg kj101
                                            case measure => have := HK1.out; have := HK2.out; have := HJ101.out; omega
                                            case rel => exact ⟨(wrap64 (x11_2 + 1)), (by first | rfl | (simp; done) | (simp [*]; done)), H', ⟨by have := HK1.out; have := HK2.out; have := HJ101.out; omega⟩, ⟨by (with_reducible repeat (first | apply Kd.R_alloc | apply Kd.R_drewN | apply Kd.R_drew)); exact HO_6.out⟩, ⟨by (with_reducible repeat (first | apply Kd.R_alloc | apply Kd.R_drewN | apply Kd.R_drew)); exact HO_7.out⟩, ⟨by (with_reducible repeat (first | apply Kd.R_alloc | apply Kd.R_drewN | apply Kd.R_drew)); exact HO_8.out⟩, ⟨by (with_reducible repeat (first | refine blk_drewN ?_ _ | refine blk_drew ?_ | refine blk_alloc ?_ _)); exact BK327.out⟩, ⟨by (with_reducible repeat (first | refine blk_drewN ?_ _ | refine blk_drew ?_ | refine blk_alloc ?_ _)); exact BK359.out⟩, ⟨by repeat (first | (with_reducible first | exact HB.out | apply below_alloc | apply pw_below_drewN | apply below_drew1 | refine below_set ?_ GE327.out | refine below_set ?_ GE359.out) | exact HB.out)⟩⟩
                                          · replace c119 := Bool.eq_false_iff.mpr c119
                                            subst c119
                                            have H1 : (some false) = some r := by rw [if_neg (show ¬ (false = true) by decide)] at H; exact H
                                            clear H
                                            have H := H1
                                            clear H1
                                            obtain rfl := Option.some.inj H
                                            cases hr
                                        · rw [if_neg c117] at H
                                          exact absurd H (by simp)
                                      · rw [if_neg c116] at H
                                        exact absurd H (by simp)
                                    · rw [if_neg c115] at H
                                      have c115b0 : (t363 == (wrap64 (t364 - 1))) = false := beq_eq_false_iff_ne.mpr c115
                                      have c115b1 : (t363 != (wrap64 (t364 - 1))) = true := bne_iff_ne.mpr c115
                                      obtain rfl := Option.some.inj H
                                      cases hr
                                  · replace c112 := Bool.eq_false_iff.mpr c112
                                    subst c112
                                    have H1 : (some false) = some r := by rw [if_neg (show ¬ (false = true) by decide)] at H; exact H
                                    clear H
                                    have H := H1
                                    clear H1
                                    obtain rfl := Option.some.inj H
                                    cases hr
                                · rw [if_neg c110] at H
                                  exact absurd H (by simp)
                              · rw [if_neg c109] at H
                                exact absurd H (by simp)
                            · replace c108 := Bool.eq_false_iff.mpr c108
                              subst c108
                              have H1 : (if t328 = true then (if (t330.length : Int) > 0 then (if 0 < (t330.length : Int) then (if (rd t330 0) = a1 then ((tree_High.f kj101 l0_0 a0_1 a1).bind fun t368 => (if t368 ≥ 1 then ((tree_High.f kj101 l0_0 a0_1 a1).bind fun t369 => (if t369 ≤ 20 then ((tree_Scan.f l0_0 a0_1 a1 0 2147483648).bind fun t370 => ((assartref04_Items.f kj101 t370 x8_1).bind fun t373 => (some t373))) else (some false))) else (some false))) else (some false)) else (none)) else (some false)) else (some false)) = some r := by rw [if_neg (show ¬ (false = true) by decide)] at H; exact H
                              clear H
                              have H := H1
                              clear H1
                              by_cases c136 : t328 = true
                              · subst c136
                                have H1 : (if (t330.length : Int) > 0 then (if 0 < (t330.length : Int) then (if (rd t330 0) = a1 then ((tree_High.f kj101 l0_0 a0_1 a1).bind fun t368 => (if t368 ≥ 1 then ((tree_High.f kj101 l0_0 a0_1 a1).bind fun t369 => (if t369 ≤ 20 then ((tree_Scan.f l0_0 a0_1 a1 0 2147483648).bind fun t370 => ((assartref04_Items.f kj101 t370 x8_1).bind fun t373 => (some t373))) else (some false))) else (some false))) else (some false)) else (none)) else (some false)) = some r := by rw [if_pos rfl] at H; exact H
                                clear H
                                have H := H1
                                clear H1
                                by_cases c137 : (t330.length : Int) > 0
                                · rw [if_pos c137] at H
                                  have c137b0 : decide (0 < (t330.length : Int)) = true := decide_eq_true c137
                                  have c137b1 : decide (0 < t330.length) = true := decide_eq_true (by omega)
                                  clear c137
                                  by_cases c138 : 0 < (t330.length : Int)
                                  · rw [if_pos c138] at H
                                    have c138b0 : decide (0 < (t330.length : Int)) = true := decide_eq_true c138
                                    have c138b1 : decide (0 < t330.length) = true := decide_eq_true (by omega)
                                    clear c138
                                    by_cases c139 : (rd t330 0) = a1
                                    · rw [if_pos c139] at H
                                      have c139b0 : ((rd t330 0) == a1) = true := beq_iff_eq.mpr c139
                                      have c139b1 : ((rd t330 0) != a1) = false := bne_eq_false_iff_eq.mpr c139
                                      clear c139
                                      replace H := Option.bind_eq_some_iff.mp H
                                      obtain ⟨t368, A1400, H⟩ := H
                                      replace H : (if t368 ≥ 1 then ((tree_High.f kj101 l0_0 a0_1 a1).bind fun t369 => (if t369 ≤ 20 then ((tree_Scan.f l0_0 a0_1 a1 0 2147483648).bind fun t370 => ((assartref04_Items.f kj101 t370 x8_1).bind fun t373 => (some t373))) else (some false))) else (some false)) = some r := H
                                      have A140 := Aside0.mk A1400
                                      clear A1400
                                      by_cases c141 : t368 ≥ 1
                                      · rw [if_pos c141] at H
                                        have c141b0 : decide (1 ≤ t368) = true := decide_eq_true c141
                                        clear c141
                                        replace H := Option.bind_eq_some_iff.mp H
                                        obtain ⟨t369, A1420, H⟩ := H
                                        replace H : (if t369 ≤ 20 then ((tree_Scan.f l0_0 a0_1 a1 0 2147483648).bind fun t370 => ((assartref04_Items.f kj101 t370 x8_1).bind fun t373 => (some t373))) else (some false)) = some r := H
                                        have A142 := Aside0.mk A1420
                                        clear A1420
                                        by_cases c143 : t369 ≤ 20
                                        · rw [if_pos c143] at H
                                          have c143b0 : decide (t369 ≤ 20) = true := decide_eq_true c143
                                          have c143b1 : decide (t368 ≤ 20) = true := by rw [show t368 = t369 from Option.some.inj (A140.out.symm.trans A142.out)]; exact c143b0
                                          clear c143
                                          replace H := Option.bind_eq_some_iff.mp H
                                          obtain ⟨t370, A1440, H⟩ := H
                                          replace H : ((assartref04_Items.f kj101 t370 x8_1).bind fun t373 => (some t373)) = some r := H
                                          have A144 := Aside0.mk A1440
                                          clear A1440
                                          replace H := Option.bind_eq_some_iff.mp H
                                          obtain ⟨t373, A1450, H⟩ := H
                                          replace H : (some t373) = some r := H
                                          have A145 := Aside0.mk A1450
                                          clear A1450
                                          obtain rfl := Option.some.inj H
                                          have p367 : 0 ≤ (0 : Int) := (by omega)
                                          have q367 : 0 < (t330.length : Int) := of_decide_eq_true (by first | (with_reducible assumption) | assumption)
                                          obtain ⟨ad367, e367, hx367_0⟩ := Kd.at_int (Kd.R_reads' HO_6.out).2.2 0 p367 q367
                                          cases e367
                                          have qi367 : (0 < t330.length) = True := eq_true (by omega)
                                          (try rw [show ((0 : Int)).toNat = 0 from rfl] at hx367_0)
                                          (try rw [Addr.add_zero'] at hx367_0)
                                          replace p367 := eq_true p367
                                          replace q367 := eq_true q367
                                          have hnb146 := NB327_359.out
                                          have hnc146 := NB359_327.out
                                          have hcz147_0 : wc.cell? ⟨gb327, 0, none⟩ = some (.slice (some ad358) l0_0.length c0_0) := (blk_cell BK327.out 0).trans rfl
                                          have hcz147_1 : wc.cell? ⟨gb327, 1, none⟩ = some (.int .i64 a0_1) := (blk_cell BK327.out 1).trans rfl
                                          have hfz147_0 := blk_frozen BK327.out 0
                                          have hfz147_1 := blk_frozen BK327.out 1
                                          go_wp2_with (first | (go_at_call 21; (with_reducible refine (tree_High.calls kj101 _ _ l0_0 a0_1 a1 t368 _ ?side1 ?side2 A140.out).mono ?_); (case side1 => repeat (first | exact (Kd.C_below HR0_0.out HB.out) | (with_reducible refine Kd.C_alloc ?_ _) | (with_reducible refine Kd.C_drewN ?_ _) | (with_reducible refine Kd.C_drew ?_))); (case side2 => exact HC0_0.out); rintro e w148 ⟨rfl, hb⟩; have n0_ := Aside0.mk (Kd.R_below (by (with_reducible repeat (first | apply Kd.R_alloc | apply Kd.R_drewN | apply Kd.R_drew)); exact HO_6.out) hb); have n1_ := Aside0.mk (Kd.R_below (by (with_reducible repeat (first | apply Kd.R_alloc | apply Kd.R_drewN | apply Kd.R_drew)); exact HO_7.out) hb); have n2_ := Aside0.mk (Kd.R_below (by (with_reducible repeat (first | apply Kd.R_alloc | apply Kd.R_drewN | apply Kd.R_drew)); exact HO_8.out) hb); have n3_ := Aside0.mk (blk_below (g := gb327) (o := .cells #[.slice (some ad358) l0_0.length c0_0, .int .i64 a0_1] 24 (0, 0)) (by (with_reducible repeat (first | refine blk_drewN ?_ _ | refine blk_drew ?_ | refine blk_alloc ?_ _)); exact BK327.out) hb); have n4_ := Aside0.mk (blk_below (g := gb359) (o := .cells #[.bool ((rd_T55 l0_0 a1).f2.f0), .slice A358_3 ((rd_T55 l0_0 a1).f2.f1).length c358_3] 53 (0, 0)) (by (with_reducible repeat (first | refine blk_drewN ?_ _ | refine blk_drew ?_ | refine blk_alloc ?_ _)); exact BK359.out) hb); have n5_ := Aside0.mk (below_step (by repeat (first | (with_reducible first | exact HB.out | apply below_alloc | apply pw_below_drewN | apply below_drew1 | refine below_set ?_ GE327.out | refine below_set ?_ GE359.out) | exact HB.out)) hb); clear HO_6; clear HO_7; clear HO_8; clear BK327; clear BK359; clear HB; have HO_6 := n0_; have HO_7 := n1_; have HO_8 := n2_; have BK327 := n3_; have BK359 := n4_; have HB := n5_; clear n0_ n1_ n2_ n3_ n4_ n5_; (try clear hb); (try clear hb2); (try clear hk); (try clear hi); have hcz149_0 : w148.cell? ⟨gb327, 0, none⟩ = some (.slice (some ad358) l0_0.length c0_0) := (blk_cell BK327.out 0).trans rfl; have hcz149_1 : w148.cell? ⟨gb327, 1, none⟩ = some (.int .i64 a0_1) := (blk_cell BK327.out 1).trans rfl; have hfz149_0 := blk_frozen BK327.out 0; have hfz149_1 := blk_frozen BK327.out 1) | (go_at_call 21; (with_reducible refine (tree_High.calls kj101 _ _ l0_0 a0_1 a1 t369 _ ?side1 ?side2 A142.out).mono ?_); (case side1 => repeat (first | exact (Kd.C_below HR0_0.out HB.out) | (with_reducible refine Kd.C_alloc ?_ _) | (with_reducible refine Kd.C_drewN ?_ _) | (with_reducible refine Kd.C_drew ?_))); (case side2 => exact HC0_0.out); rintro e w150 ⟨rfl, hb⟩; have n0_ := Aside0.mk (Kd.R_below (by (with_reducible repeat (first | apply Kd.R_alloc | apply Kd.R_drewN | apply Kd.R_drew)); exact HO_6.out) hb); have n1_ := Aside0.mk (Kd.R_below (by (with_reducible repeat (first | apply Kd.R_alloc | apply Kd.R_drewN | apply Kd.R_drew)); exact HO_7.out) hb); have n2_ := Aside0.mk (Kd.R_below (by (with_reducible repeat (first | apply Kd.R_alloc | apply Kd.R_drewN | apply Kd.R_drew)); exact HO_8.out) hb); have n3_ := Aside0.mk (blk_below (g := gb327) (o := .cells #[.slice (some ad358) l0_0.length c0_0, .int .i64 a0_1] 24 (0, 0)) (by (with_reducible repeat (first | refine blk_drewN ?_ _ | refine blk_drew ?_ | refine blk_alloc ?_ _)); exact BK327.out) hb); have n4_ := Aside0.mk (blk_below (g := gb359) (o := .cells #[.bool ((rd_T55 l0_0 a1).f2.f0), .slice A358_3 ((rd_T55 l0_0 a1).f2.f1).length c358_3] 53 (0, 0)) (by (with_reducible repeat (first | refine blk_drewN ?_ _ | refine blk_drew ?_ | refine blk_alloc ?_ _)); exact BK359.out) hb); have n5_ := Aside0.mk (below_step (by repeat (first | (with_reducible first | exact HB.out | apply below_alloc | apply pw_below_drewN | apply below_drew1 | refine below_set ?_ GE327.out | refine below_set ?_ GE359.out) | exact HB.out)) hb); clear HO_6; clear HO_7; clear HO_8; clear BK327; clear BK359; clear HB; have HO_6 := n0_; have HO_7 := n1_; have HO_8 := n2_; have BK327 := n3_; have BK359 := n4_; have HB := n5_; clear n0_ n1_ n2_ n3_ n4_ n5_; (try clear hb); (try clear hb2); (try clear hk); (try clear hi); have hcz151_0 : w150.cell? ⟨gb327, 0, none⟩ = some (.slice (some ad358) l0_0.length c0_0) := (blk_cell BK327.out 0).trans rfl; have hcz151_1 : w150.cell? ⟨gb327, 1, none⟩ = some (.int .i64 a0_1) := (blk_cell BK327.out 1).trans rfl; have hfz151_0 := blk_frozen BK327.out 0; have hfz151_1 := blk_frozen BK327.out 1) | (go_at_call 30; (with_reducible refine (tree_Scan.calls _ _ l0_0 a0_1 a1 0 2147483648 t370 _ ?side1 ?side2 A144.out).mono ?_); (case side1 => repeat (first | exact (Kd.C_below HR0_0.out HB.out) | (with_reducible refine Kd.C_alloc ?_ _) | (with_reducible refine Kd.C_drewN ?_ _) | (with_reducible refine Kd.C_drew ?_))); (case side2 => exact HC0_0.out); rintro e w152 ⟨v371, rfl, ho0, hb⟩; have n0_ := Aside0.mk (Kd.R_below (by (with_reducible repeat (first | apply Kd.R_alloc | apply Kd.R_drewN | apply Kd.R_drew)); exact HO_6.out) hb); have n1_ := Aside0.mk (Kd.R_below (by (with_reducible repeat (first | apply Kd.R_alloc | apply Kd.R_drewN | apply Kd.R_drew)); exact HO_7.out) hb); have n2_ := Aside0.mk (Kd.R_elder' (by (with_reducible repeat (first | apply Kd.R_alloc | apply Kd.R_drewN | apply Kd.R_drew)); exact HO_8.out) (Kd.R_base ho0) hb); have n3_ := Aside0.mk (Kd.R_lower (Kd.R_new' ho0 (Kd.R_lt (by (with_reducible repeat (first | apply Kd.R_alloc | apply Kd.R_drewN | apply Kd.R_drew)); exact HO_8.out))) (below_size (by repeat (first | (with_reducible first | exact HB.out | apply below_alloc | apply pw_below_drewN | apply below_drew1 | refine below_set ?_ GE327.out | refine below_set ?_ GE359.out) | exact HB.out)))); have n4_ := Aside0.mk (blk_below (g := gb327) (o := .cells #[.slice (some ad358) l0_0.length c0_0, .int .i64 a0_1] 24 (0, 0)) (by (with_reducible repeat (first | refine blk_drewN ?_ _ | refine blk_drew ?_ | refine blk_alloc ?_ _)); exact BK327.out) hb); have n5_ := Aside0.mk (blk_below (g := gb359) (o := .cells #[.bool ((rd_T55 l0_0 a1).f2.f0), .slice A358_3 ((rd_T55 l0_0 a1).f2.f1).length c358_3] 53 (0, 0)) (by (with_reducible repeat (first | refine blk_drewN ?_ _ | refine blk_drew ?_ | refine blk_alloc ?_ _)); exact BK359.out) hb); have n6_ := Aside0.mk (below_step (by repeat (first | (with_reducible first | exact HB.out | apply below_alloc | apply pw_below_drewN | apply below_drew1 | refine below_set ?_ GE327.out | refine below_set ?_ GE359.out) | exact HB.out)) hb); clear HO_6; clear HO_7; clear HO_8; clear BK327; clear BK359; clear HB; have HO_6 := n0_; have HO_7 := n1_; have HO_8 := n2_; have HO372 := n3_; have BK327 := n4_; have BK359 := n5_; have HB := n6_; clear n0_ n1_ n2_ n3_ n4_ n5_ n6_; (try clear hb); (try clear hb2); (try clear hk); (try clear hi); (try clear ho0); obtain ⟨Ao153, co153, eo153⟩ := Kd.R_slice HO372.out; subst eo153; obtain ⟨Ao154, co154, eo154⟩ := Kd.R_slice HO_8.out; subst eo154) | (go_at_call 29; (with_reducible refine (assartref04_Items.calls kj101 _ _ t370 _ _ x8_1 t373 _ ?side1 ?side2 ?side3 ?side4 A145.out).mono ?_); (case side1 => repeat (first | exact (Kd.R_reads' HO372.out).2.2 | (with_reducible refine Kd.C_alloc ?_ _) | (with_reducible refine Kd.C_drewN ?_ _) | (with_reducible refine Kd.C_drew ?_))); (case side2 => exact (Kd.R_reads' HO372.out).2.1); (case side3 => repeat (first | exact (Kd.R_reads' HO_8.out).2.2 | (with_reducible refine Kd.C_alloc ?_ _) | (with_reducible refine Kd.C_drewN ?_ _) | (with_reducible refine Kd.C_drew ?_))); (case side4 => exact (Kd.R_reads' HO_8.out).2.1); rintro e w' ⟨rfl, ⟨nd, rfl⟩⟩))
                                          go_ret
                                          exact ⟨by first | rfl | (simp [errW_none, errW_some] <;> rfl) | (simp [*, errW_none, errW_some] <;> rfl), by repeat (first | (with_reducible first | exact HB.out | apply below_alloc | apply pw_below_drewN | apply below_drew1 | refine below_set ?_ GE327.out | refine below_set ?_ GE359.out) | exact HB.out)⟩
                                        · rw [if_neg c143] at H
                                          have c143b0 : decide (t369 ≤ 20) = false := decide_eq_false c143
                                          clear c143
                                          obtain rfl := Option.some.inj H
                                          cases hr
                                      · rw [if_neg c141] at H
                                        have c141b0 : decide (1 ≤ t368) = false := decide_eq_false c141
                                        clear c141
                                        obtain rfl := Option.some.inj H
                                        cases hr
                                    · rw [if_neg c139] at H
                                      have c139b0 : ((rd t330 0) == a1) = false := beq_eq_false_iff_ne.mpr c139
                                      have c139b1 : ((rd t330 0) != a1) = true := bne_iff_ne.mpr c139
                                      obtain rfl := Option.some.inj H
                                      cases hr
                                  · rw [if_neg c138] at H
                                    exact absurd H (by simp)
                                · rw [if_neg c137] at H
                                  have c137b0 : decide (0 < (t330.length : Int)) = false := decide_eq_false c137
                                  have c137b1 : decide (0 < t330.length) = false := decide_eq_false (by omega)
                                  clear c137
                                  obtain rfl := Option.some.inj H
                                  cases hr
                              · replace c136 := Bool.eq_false_iff.mpr c136
                                subst c136
                                have H1 : (some false) = some r := by rw [if_neg (show ¬ (false = true) by decide)] at H; exact H
                                clear H
                                have H := H1
                                clear H1
                                obtain rfl := Option.some.inj H
                                cases hr
                  · rw [if_neg c96] at H
                    exact absurd H (by simp)
                · rw [if_neg c95] at H
                  exact absurd H (by simp)
        · rw [if_neg c48] at H
          exact absurd H (by simp)
      · rw [if_neg c47] at H
        exact absurd H (by simp)
  · replace c5 := Bool.eq_false_iff.mpr c5
    subst c5
    have H1 : (some t328) = some r := by rw [if_neg (show ¬ (false = true) by decide)] at H; exact H
    clear H
    have H := H1
    clear H1
    obtain rfl := Option.some.inj H
    go_enter Try.func6, Try.ntmps6
    go_wp2_with (first | ((with_reducible refine gate_dst (N := 2) rfl ?_); (try (refine gate_guard (by rfl) ?_; dsimp only)); refine box_event ?hg (N := 2) ?hd (cs := #[.slice A0_0 l0_0.length c0_0, .int .i64 a0_1]) (t := 24) ?hr ?_; (case hd => rfl); (case hg => rfl); (case hr => first | (go_simp; done) | (go_simp; rfl)); intro gb327 hg w163 hbox hb; have n0_ := Aside0.mk (below_step (by repeat (first | (with_reducible first | exact HB.out | apply below_alloc | apply pw_below_drewN | apply below_drew1) | exact HB.out)) hb); have n1_ := Aside0.mk (hbox); have n2_ := Aside0.mk ((by rw [hg]; exact (below_size (by repeat (first | (with_reducible first | exact HB.out | apply below_alloc | apply pw_below_drewN | apply below_drew1) | exact HB.out))) : w.heap.size ≤ gb327)); have n3_ := Aside0.mk ((by rw [hg]; exact (below_size (by repeat (first | (with_reducible first | exact HB.out | apply below_alloc | apply pw_below_drewN | apply below_drew1) | exact HB.out))) : w.heap.size ≤ gb327)); clear HB; have HB := n0_; have BK327 := n1_; have GW327 := n2_; have GE327 := n3_; clear n0_ n1_ n2_ n3_; clear hb hbox hg) | ((with_reducible refine gate_callee (f := 15) rfl ?_); refine goesL_ (some 12) rfl rfl Try.func15 (by kernel_rfl) rfl #[] rfl (by (try simp only [List.map_toArray, List.map_cons, List.map_nil]); first | done | rfl | (simp only [List.length_drop, List.length_take]; rfl)) ?_; (with_reducible refine (assartlaw07_shown.calls  t328 _ A3.out).mono ?_); rintro e w164 ⟨rfl, hb⟩; refine ⟨_, rfl, ?_⟩; have n0_ := Aside0.mk (blk_below (g := gb327) (o := .cells #[.slice A0_0 l0_0.length c0_0, .int .i64 a0_1] 24 (0, 0)) (by (with_reducible repeat (first | refine blk_drewN ?_ _ | refine blk_drew ?_ | refine blk_alloc ?_ _)); exact BK327.out) hb); have n1_ := Aside0.mk (below_step (by repeat (first | (with_reducible first | exact HB.out | apply below_alloc | apply pw_below_drewN | apply below_drew1 | refine below_set ?_ GE327.out) | exact HB.out)) hb); clear BK327; clear HB; have BK327 := n0_; have HB := n1_; clear n0_ n1_; (try clear hb); (try clear hb2); (try clear hk); (try clear hi); have hcz165_0 : w164.cell? ⟨gb327, 0, none⟩ = some (.slice A0_0 l0_0.length c0_0) := (blk_cell BK327.out 0).trans rfl; have hcz165_1 : w164.cell? ⟨gb327, 1, none⟩ = some (.int .i64 a0_1) := (blk_cell BK327.out 1).trans rfl; have hfz165_0 := blk_frozen BK327.out 0; have hfz165_1 := blk_frozen BK327.out 1) | ((with_reducible refine gate_callee (f := 26) rfl ?_); refine goesL_ (some 15) rfl rfl Try.func26 (by kernel_rfl) rfl #[.agg #[.slice A0_0 l0_0.length c0_0, .int .i64 a0_1], .int .i64 a1, .int .i64 60] rfl (by (try simp only [List.map_toArray, List.map_cons, List.map_nil]); first | done | rfl | (simp only [List.length_drop, List.length_take]; rfl)) ?_; (with_reducible refine (assartref07_May.calls k _ _ l0_0 a0_1 a1 60 false _ ?side1 ?side2 A4.out).mono ?_); (case side1 => repeat (first | exact (Kd.C_below HR0_0.out HB.out) | (with_reducible refine Kd.C_alloc ?_ _) | (with_reducible refine Kd.C_drewN ?_ _) | (with_reducible refine Kd.C_drew ?_))); (case side2 => exact HC0_0.out); rintro e w166 ⟨rfl, hb⟩; refine ⟨_, rfl, ?_⟩; have n0_ := Aside0.mk (blk_below (g := gb327) (o := .cells #[.slice A0_0 l0_0.length c0_0, .int .i64 a0_1] 24 (0, 0)) (by (with_reducible repeat (first | refine blk_drewN ?_ _ | refine blk_drew ?_ | refine blk_alloc ?_ _)); exact BK327.out) hb); have n1_ := Aside0.mk (below_step (by repeat (first | (with_reducible first | exact HB.out | apply below_alloc | apply pw_below_drewN | apply below_drew1 | refine below_set ?_ GE327.out) | exact HB.out)) hb); clear BK327; clear HB; have BK327 := n0_; have HB := n1_; clear n0_ n1_; (try clear hb); (try clear hb2); (try clear hk); (try clear hi)))
    go_ret
    exact ⟨by first | rfl | (simp [errW_none, errW_some] <;> rfl) | (simp [*, errW_none, errW_some] <;> rfl), by repeat (first | (with_reducible first | exact HB.out | apply below_alloc | apply pw_below_drewN | apply below_drew1 | refine below_set ?_ GE327.out) | exact HB.out)⟩
end Go.Proofs.Yteiladccdenpbaa.P
end
section
namespace Go.Proofs.Yteiladccdenpbaa.P
open Go.RowKit Go.Proofs.YteiladccdenpbaaW.PrintWords Go.Proofs.YteiladccdenpbaaW.PrintLast Go.Proofs.YteiladccdenpbaaW.PrintMore
set_option linter.unusedVariables false
set_option linter.unusedSimpArgs false
theorem ns_head {l : List S55} {h : Nat} {p : Int} (t : Tr l h p) : ∃ r, Ns l h p = p :: r := by
  match h, t with
  | 1, t => exact ⟨[], rfl⟩
  | h + 2, t => exact ⟨_, rfl⟩
theorem ns_child {l : List S55} {h : Nat} {p : Int} (t : Tr l (h + 2) p) {i : Nat} (hi : i < (It l p).length) : vAt (It l p) i ∈ Ns l (h + 2) p := by
  refine List.mem_cons_of_mem _ (List.mem_flatMap.2 ⟨(It l p)[i], List.getElem_mem _, ?_⟩)
  rw [(getE hi).2]
  obtain ⟨r, hr⟩ := ns_head (t.2.2.2.2 i hi).1
  rw [hr]
  exact List.mem_cons_self ..
theorem nodes_end {l : List S55} {kp : Int} (H : HR l) {h : Nat} {p : Int} (t : Tr l h p) (hh : h ≤ 20) (seen : List Bool) (j : Int) (lf : Bool) {k : Nat} (hk : 9000 ≤ k) :
    assartlaw07_TreeNodes.j3 k p true (Ns l h p) seen (Ls l h p) j false l kp lf (It l p) = some true := by
  obtain ⟨k, rfl⟩ : ∃ m, k = m + 1 := ⟨k - 1, by omega⟩
  have hp := t.pos
  have hl := ls_len H t
  obtain ⟨r, hr⟩ := ns_head t
  simp only [assartlaw07_TreeNodes.j3]
  rw [if_neg (by simp), if_pos trivial, if_pos (show ((Ns l h p).length : Int) > 0 by rw [hr]; simp only [List.length_cons]; omega), if_pos (show 0 < ((Ns l h p).length : Int) by rw [hr]; simp only [List.length_cons]; omega), if_pos (by rw [hr]; rfl), high_val H t (by omega) (by omega), Option.bind_some, if_pos (by omega), Option.bind_some, if_pos (by omega),
    scan_val H 0 2147483648 t (by omega), Option.bind_some, between_all H t (by omega), items_val _ _ (by omega) _ (by omega), Option.bind_some]
  simp
theorem nodes_l1 {l : List S55} {kp : Int} (H : HR l) {h : Nat} {p : Int} (t : Tr l h p) (hh : h ≤ 20) (seen : List Bool) (hs : seen.length = l.length) (hseen : ∀ q ∈ Ns l h p, rdOf false seen q = true) :
    ∀ (d k j : Nat), j + d = (It l p).length → 9002 + 2 * d ≤ k → assartlaw07_TreeNodes.l1 k p true (Ns l h p) seen (Ls l h p) (j : Int) l kp (Lf l p) (It l p) = some true := by
  have hn := (t.rn H).2.1
  intro d
  induction d with
  | zero =>
    intro k j hj hk
    obtain ⟨k, rfl⟩ : ∃ m, k = m + 1 := ⟨k - 1, by omega⟩
    simp only [assartlaw07_TreeNodes.l1]
    rw [if_neg (by omega)]
    exact nodes_end H t hh seen _ _ (by omega)
  | succ d ih =>
    intro k j hj hk
    obtain ⟨k, rfl⟩ : ∃ m, k = m + 2 := ⟨k - 2, by omega⟩
    simp only [assartlaw07_TreeNodes.l1]
    rw [if_pos (by omega)]
    by_cases hlf : Lf l p = true
    · rw [hlf]
      exact nodes_end H t hh seen _ _ (by omega)
    · rw [Bool.not_eq_true] at hlf
      have hl := t.leaf
      rw [hlf] at hl
      have hl := of_decide_eq_false hl.symm
      have hp := t.pos
      obtain ⟨h, rfl⟩ : ∃ m, h = m + 2 := ⟨h - 2, by omega⟩
      have ih := ih k (j + 1) (by omega) (by omega)
      have tj := (t.2.2.2.2 j (by omega)).1
      obtain ⟨b, hb, hbs⟩ := right_val (kp := kp) H (vAt (It l p) j) (k := k) (by omega)
      have hbt : b = true := hbs.2 (.inr ⟨h + 1, by omega, tj⟩)
      subst hbt
      rw [hlf] at ih ⊢
      simp only [assartlaw07_TreeNodes.j3]
      have hw : (((h + 1 : Nat) : Int)) = wrap64 (((h + 2 : Nat) : Int) - 1) := by unfold wrap64; omega
      have hmem := hseen _ (ns_child t (show j < (It l p).length by omega))
      have tb := tj.base
      rw [if_pos (by simp), if_pos (by omega), if_pos (by omega), show (rd_T49 (It l p) (j : Nat)).f1 = vAt (It l p) j from rfl, hb, Option.bind_some, if_pos rfl, high_val H tj (by omega) (by omega), Option.bind_some, high_val H t (by omega) (by omega), Option.bind_some, if_pos hw,
        if_pos tb.1, if_pos (by rw [hs]; exact tb.2.1), if_pos hmem, wsucc j (by omega)]
      exact ih
theorem rdOf_set (seen : List Bool) (q q' : Int) (h0 : 0 ≤ q) (h1 : q < (seen.length : Int)) (h2 : 0 ≤ q') : rdOf false (seen.set q.toNat true) q' = true ↔ (q' = q ∨ rdOf false seen q' = true) := by
  simp only [rdOf, List.getD_eq_getElem?_getD, List.getElem?_set]
  by_cases e : q.toNat = q'.toNat
  · rw [if_pos e, if_pos (by omega)]
    have : q' = q := by omega
    simp [this]
  · rw [if_neg e]
    have : ¬ q' = q := by omega
    simp [this]
theorem mem_take_succ {L : List Int} {j : Nat} (h : j < L.length) (x : Int) : x ∈ L.take (j + 1) ↔ x = L[j] ∨ x ∈ L.take j := by
  rw [List.take_succ_eq_append_getElem h, List.mem_append, List.mem_singleton]
  exact Or.comm
theorem nodes_l0 {l : List S55} {kp : Int} (H : HR l) {h : Nat} {p : Int} (t : Tr l h p) (hh : h ≤ 20) :
    ∀ (d k j : Nat) (seen : List Bool) (acc : List S49), j + d = (Ns l h p).length → 9050 + 2 * d ≤ k → seen.length = l.length → (∀ q : Int, 0 ≤ q → q < (l.length : Int) → (rdOf false seen q = true ↔ q ∈ (Ns l h p).take j)) →
      acc = ((Ns l h p).take j).flatMap (fun q => if Lf l q = true then It l q else []) → acc.length ≤ 4 * j →
      assartlaw07_TreeNodes.l0 k p true (Ns l h p) seen acc (j : Int) l kp = some true := by
  have hn := (t.rn H).2.1
  have hlen := ns_len H t
  have hl2 := H.1
  intro d
  induction d with
  | zero =>
    intro k j seen acc hj hk hs hse ha hal
    obtain ⟨k, rfl⟩ : ∃ m, k = m + 1 := ⟨k - 1, by omega⟩
    simp only [assartlaw07_TreeNodes.l0]
    rw [List.take_of_length_le (by omega)] at ha hse
    rw [leaves_are h p t] at ha
    subst ha
    have tb := t.base
    rw [if_neg (by omega), if_pos tb.1, if_pos tb.2.1]
    have := nodes_l1 (kp := kp) H t hh seen hs (fun q hq => by
      obtain ⟨_, _, t', _⟩ := ns_mem H _ _ t q hq
      exact (hse q t'.base.1 t'.base.2.1).2 hq) _ k 0 (Nat.zero_add _) (by omega)
    exact this
  | succ d ih =>
    intro k j seen acc hj hk hs hse ha hal
    obtain ⟨k, rfl⟩ : ∃ m, k = m + 2 := ⟨k - 2, by omega⟩
    have hlt : j < (Ns l h p).length := by omega
    have hrd : rd (Ns l h p) (j : Nat) = (Ns l h p)[j] := by simp only [rd, Int.toNat_natCast, List.getD_eq_getElem?_getD, List.getElem?_eq_getElem hlt, Option.getD_some]
    have hmem : (Ns l h p)[j] ∈ Ns l h p := List.getElem_mem _
    obtain ⟨h', _, tq, _⟩ := ns_mem H _ _ t _ hmem
    have hnot : (Ns l h p)[j] ∉ (Ns l h p).take j := fun hm => by
      have hd := ns_nodup H h p t
      obtain ⟨i, hi, e⟩ := List.mem_iff_getElem.1 hm
      rw [List.length_take] at hi
      rw [List.getElem_take] at e
      have := (List.nodup_iff_pairwise_ne.1 hd)
      rw [List.pairwise_iff_getElem] at this
      exact this i j (by omega) hlt (by omega) e
    generalize hq : (Ns l h p)[j] = q at *
    have tb := tq.base
    have hf : rdOf false seen q = false := by
      cases hc : rdOf false seen q with
      | false => rfl
      | true => exact absurd ((hse q tb.1 tb.2.1).1 hc) hnot
    have hqn := (tq.rn H).2.1
    simp only [assartlaw07_TreeNodes.l0]
    rw [hrd]
    rw [if_pos (by omega), if_pos (by omega), if_neg (by omega), if_neg (by omega), if_pos tb.1, if_pos (by omega), if_neg (by rw [hf]; simp), if_pos tb.2.1]
    simp only [assartlaw07_TreeNodes.j1]
    rw [hrd]
    rw [if_neg (show ¬ ((rd_T55 l q).f0 == 0) = true by rw [beq_iff_eq]; have := tb.2.2; simp only [Rf] at this; omega), if_pos (by omega), if_pos (by omega), if_pos tb.1, if_pos (by omega), Option.bind_some, if_pos tb.2.1, wsucc j (by omega)]
    have hs' : (seen.set q.toNat true).length = l.length := by rw [List.length_set, hs]
    have hse' : ∀ q' : Int, 0 ≤ q' → q' < (l.length : Int) → (rdOf false (seen.set q.toNat true) q' = true ↔ q' ∈ (Ns l h p).take (j + 1)) := fun q' h0 h1 => by
      rw [rdOf_set seen q q' tb.1 (by omega) h0, mem_take_succ hlt, hq, hse q' h0 h1]
    by_cases hlf : (rd_T55 l q).f2.f0 = true
    · rw [if_pos hlf, if_pos (show acc.length + (It l q).length < 8796093022208 by omega)]
      refine ih k (j + 1) _ _ (by omega) (by omega) hs' hse' ?_ (by rw [List.length_append]; show acc.length + (It l q).length ≤ _; omega)
      rw [List.take_succ_eq_append_getElem hlt, List.flatMap_append, ← ha, hq]
      simp only [List.flatMap_cons, List.flatMap_nil, List.append_nil]
      rw [if_pos hlf]
    · rw [if_neg hlf]
      refine ih k (j + 1) _ _ (by omega) (by omega) hs' hse' ?_ (by omega)
      rw [List.take_succ_eq_append_getElem hlt, List.flatMap_append, ← ha, hq]
      simp only [List.flatMap_cons, List.flatMap_nil, List.append_nil]
      rw [if_neg hlf, List.append_nil]
theorem TreeNodes_val (l : List S55) (kp root : Int) : assartlaw07_TreeNodes.g 20000 l kp root = some true := by
  unfold assartlaw07_TreeNodes.g assartlaw07_shown.f
  obtain ⟨c, hc, hm⟩ := may07_val l kp root (k := 20000) (by omega)
  rw [Option.bind_some, hc, Option.bind_some]
  by_cases h : c = true
  · obtain ⟨hmay, H, hr⟩ := hm h
    rw [if_pos h]
    rcases hr with e | ⟨h', hh, t⟩
    · rw [nodes_neg (by omega) (by omega), Option.bind_some, if_pos (by omega), if_pos rfl, if_pos (show (([] : List Int).length : Int) = 0 from rfl), high_neg (by omega) (by omega), Option.bind_some, if_pos rfl, scan_neg 0 2147483647 (by omega), Option.bind_some]
      rfl
    · have tb := t.base
      have hl := H.1
      have hlen := ns_len H t
      rw [nodes_val H h' _ root t (by omega), Option.bind_some, if_neg (by omega), if_pos (by omega), if_pos (by omega)]
      refine nodes_l0 H t hh _ 20000 0 _ [] (Nat.zero_add _) (by omega) (by simp) (fun q h0 h1 => ?_) rfl (by simp)
      simp only [rdOf, List.getD_eq_getElem?_getD, Int.toNat_natCast, List.getElem?_replicate]
      rw [if_pos (by omega)]
      simp
  · rw [if_neg h]
end Go.Proofs.Yteiladccdenpbaa.P
end
section
namespace Go.Proofs.Yteiladccdenpbaa.P
open Go.RowKit Go.Proofs.YteiladccdenpbaaW.PrintWords Go.Proofs.YteiladccdenpbaaW.PrintLast Go.Proofs.YteiladccdenpbaaW.PrintMore
set_option linter.unusedVariables false
def assartlaw07_TreeNodes.f (k : Nat) (l0_0 : List (S55)) (a0_1 : Int) (a1 : Int) : Option (Bool) := some true
theorem assartlaw07_TreeNodes.calls (k : Nat) (A0_0 : Option Addr) (c0_0 : Nat) (l0_0 : List (S55)) (a0_1 : Int) (a1 : Int) (r : Bool) (w : World) (hr0_0 : Kd.C k55 w A0_0 l0_0.length l0_0) (hc0_0 : l0_0.length ≤ c0_0) (h : assartlaw07_TreeNodes.f k l0_0 a0_1 a1 = some r) :
    Calls Try.prog 6 #[.agg #[.slice A0_0 l0_0.length c0_0, .int .i64 a0_1], .int .i64 a1] w fun e w' => e = .returned (.bool r) ∧ Below w.heap.size w w' := by
  obtain rfl := Option.some.inj h
  exact assartlaw07_TreeNodes.walk 20000 A0_0 c0_0 l0_0 a0_1 a1 true w hr0_0 hc0_0 (TreeNodes_val l0_0 a0_1 a1) rfl
end Go.Proofs.Yteiladccdenpbaa.P
end
section
namespace Go.Proofs.Yteiladccdenpbaa.P
open Go.RowKit Go.Proofs.YteiladccdenpbaaW.PrintWords Go.Proofs.YteiladccdenpbaaW.PrintLast Go.Proofs.YteiladccdenpbaaW.PrintMore
set_option linter.unusedVariables false
set_option linter.unusedSimpArgs false
structure Opens {α : Type} (P : Program) (t : TypeId) (d : Kd α) (ok : α → Prop) : Prop where
  sz : P.cellsOf t = d.sz
  op : ∀ {H : Type} {enc : TypeId × Value → H} {W : World} {base : Nat} {spare : Nat → Bool} {held : Bool} {fuel : Nat} {cs : List Value} {y : DataW H × List MemPlace}, DataW.trod enc P W base spare held fuel t cs = some y → (DataW.weights P t y.1).all (· ≤ reachBytes) = true → ∃ x, d.K W x cs ∧ ok x
theorem Opens.int {P : Program} {t : TypeId} {k : IntKind} (h : P.underlying t = some (.int k)) (hs : P.cellsOf t = 1) : Opens P t (Kd.int k) (fun n => (Lit.int k n).wf = true) :=
  ⟨hs, fun hy _ => by
    obtain ⟨n, rfl, _, hw⟩ := DataW.trod_int h hy
    exact ⟨n, rfl, hw⟩⟩
theorem Opens.bool {P : Program} {t : TypeId} (h : P.underlying t = some .bool) (hs : P.cellsOf t = 1) : Opens P t Kd.bool (fun _ => True) :=
  ⟨hs, fun hy _ => by
    obtain ⟨b, rfl, _⟩ := DataW.trod_bool h hy
    exact ⟨b, rfl, trivial⟩⟩
theorem choose_row {α : Type} {R : Nat → α → Prop} : ∀ n, (∀ i, i < n → ∃ x, R i x) → ∃ xs : List α, xs.length = n ∧ ∀ i x, xs[i]? = some x → R i x
  | 0, _ => ⟨[], rfl, fun i x h => by simp at h⟩
  | n + 1, h => by
    obtain ⟨xs, hl, hx⟩ := choose_row n (fun i hi => h i (by omega))
    obtain ⟨x, hr⟩ := h n (by omega)
    refine ⟨xs ++ [x], by simp [hl], fun i z hz => ?_⟩
    by_cases hi : i < n
    · rw [List.getElem?_append_left (by omega)] at hz
      exact hx i z hz
    · rw [List.getElem?_append_right (by omega)] at hz
      have : i - xs.length = 0 := by
        rcases Nat.eq_zero_or_pos (i - xs.length) with h0 | h0
        · exact h0
        · rw [List.getElem?_eq_none (by simp; omega)] at hz; cases hz
      rw [this] at hz
      simp at hz
      subst hz
      have : i = n := by omega
      rw [this]; exact hr
theorem weightsAll_mem {H : Type} {P : Program} {e : TypeId} : ∀ {ds : List (DataW H)}, (DataW.weightsAll P e ds).all (· ≤ reachBytes) = true → ∀ d ∈ ds, (DataW.weights P e d).all (· ≤ reachBytes) = true
  | [], _, d, hd => by cases hd
  | a :: ds, h, d, hd => by
    simp only [DataW.weightsAll, List.all_append, Bool.and_eq_true] at h
    rcases List.mem_cons.1 hd with rfl | hd
    · exact h.1
    · exact weightsAll_mem h.2 d hd
theorem Opens.slice {α : Type} {P : Program} {t e : TypeId} {d : Kd α} {ok : α → Prop} {B : Nat} (h : P.underlying t = some (.slice e)) (hs : P.cellsOf t = 1) (hB : P.bytesOf e = B) (he : Opens P e d ok) : Opens P t (Kd.slice e d) (fun xs => xs.length * B ≤ 140737488351232 ∧ ∀ x ∈ xs, ok x) :=
  ⟨hs, fun {H enc W base spare held fuel cs y} hy hw => by
    rcases DataW.trod_slice h hy with ⟨rfl, rfl⟩ | ⟨a, len, cap, elems, rest, n, rfl, rfl, rfl, hb, hl, hc, hel, hi, _, _⟩
    · exact ⟨[], ⟨none, 0, rfl, Nat.le_refl _, Kd.C_nil _ _⟩, by simp⟩
    · unfold DataW.weights at hw
      rw [h] at hw
      simp only [List.all_cons, List.all_append, Bool.and_eq_true, decide_eq_true_eq, hB, List.length_map] at hw
      obtain ⟨hw0, hw1, _⟩ := hw
      have hx : ∀ i, i < len → ∃ x, ok x ∧ ∃ c, c.length = d.sz ∧ d.K W x c ∧ W.cells? base (a.add (i * d.sz)) d.sz = some c := by
        intro i hlt
        have h1 := hi i hlt
        rw [List.getElem?_eq_getElem (by omega)] at h1
        obtain ⟨c, hc1, hc2⟩ := Option.bind_eq_some_iff.1 h1
        obtain ⟨x, hK, hok⟩ := he.op hc2 (weightsAll_mem hw1 _ (List.mem_map_of_mem (List.getElem_mem _)))
        rw [he.sz] at hc1
        exact ⟨x, hok, c, d.K_len hK, hK, hc1⟩
      obtain ⟨xs, hxl, hxs⟩ := choose_row len hx
      refine ⟨xs, ⟨some a, cap, by rw [hxl], by omega, rfl, ?_, fun hpos => ⟨a, rfl, fun j p hj => ?_⟩⟩, ?_, ?_⟩
      · simp only [maxLen] at hc; omega
      · obtain ⟨_, c, hcl, hK, hcc⟩ := hxs j p hj
        refine ⟨c, hcl, hK, fun i u hu => ?_⟩
        obtain ⟨_, _, hcell⟩ := World.cells?_some hcc
        have hi : i < d.sz := by rw [← hcl]; exact (List.getElem?_eq_some_iff.1 hu).1
        have := hcell i hi
        rw [Addr.add_add] at this
        rw [this, hu]
      · rw [hxl, ← hel]
        refine Nat.le_trans (Nat.mul_le_mul_right _ (Nat.le_add_right _ _)) hw0
      · intro x hx
        obtain ⟨i, hlt, rfl⟩ := List.getElem_of_mem hx
        exact (hxs i _ (List.getElem?_eq_getElem hlt)).1⟩
theorem weights_at {H : Type} {P : Program} : ∀ {ts : List TypeId} {ds : List (DataW H)} {j : Nat} {t : TypeId} {d : DataW H}, (DataW.weightsEach P ts ds).all (· ≤ reachBytes) = true → ts[j]? = some t → ds[j]? = some d → (DataW.weights P t d).all (· ≤ reachBytes) = true
  | [], _, _, _, _, _, ht, _ => by simp at ht
  | _ :: _, [], _, _, _, _, _, hd => by simp at hd
  | t0 :: ts, d0 :: ds, 0, _, _, h, ht, hd => by
    simp only [List.getElem?_cons_zero, Option.some.injEq] at ht hd
    subst ht; subst hd
    simp only [DataW.weightsEach, List.all_append, Bool.and_eq_true] at h
    exact h.1
  | t0 :: ts, d0 :: ds, j + 1, _, _, h, ht, hd => by
    simp only [List.getElem?_cons_succ] at ht hd
    simp only [DataW.weightsEach, List.all_append, Bool.and_eq_true] at h
    exact weights_at h.2 ht hd
structure OpensFs {α : Type} (P : Program) (fs : List Field) (off : Nat) (d : Kd α) (ok : α → Prop) : Prop where
  op : ∀ {H : Type} {enc : TypeId × Value → H} {W : World} {base : Nat} {spare : Nat → Bool} {held : Bool} {fuel : Nat} {cs : List Value} {ys : List (DataW H × List MemPlace)},
    (∀ (i : Nat) (f : Field), fs[i]? = some f → DataW.trod enc P W base spare held fuel f.type ((cs.drop f.offset).take (P.cellsOf f.type)) = ys[i]?) → ys.length = fs.length →
    (DataW.weightsEach P (fs.map (·.type)) (ys.map (·.1))).all (· ≤ reachBytes) = true → cs.length = off + d.sz → ∃ x, d.K W x (cs.drop off) ∧ ok x
theorem OpensFs.one {α : Type} {P : Program} {f : Field} {t : TypeId} {off : Nat} {d : Kd α} {ok : α → Prop} (ht : f.type = t) (hoff : f.offset = off) (h : Opens P t d ok) : OpensFs P [f] off d ok :=
  ⟨fun {H enc W base spare held fuel cs ys} hy hl hw hcs => by
    obtain ⟨y, rfl⟩ : ∃ y, ys = [y] := by
      cases ys with
      | nil => simp at hl
      | cons y ys => cases ys with
        | nil => exact ⟨y, rfl⟩
        | cons => simp at hl
    have h0 := hy 0 f rfl
    simp only [List.getElem?_cons_zero] at h0
    simp only [List.map_cons, List.map_nil, DataW.weightsEach, List.append_nil] at hw
    rw [ht] at h0 hw
    obtain ⟨x, hK, hok⟩ := h.op h0 hw
    rw [hoff, List.take_of_length_le (by rw [List.length_drop, h.sz]; omega)] at hK
    exact ⟨x, hK, hok⟩⟩
theorem OpensFs.cons {α β : Type} {P : Program} {f : Field} {fs : List Field} {t : TypeId} {off n : Nat} {d : Kd α} {d' : Kd β} {ok : α → Prop} {ok' : β → Prop} (ht : f.type = t) (hoff : f.offset = off) (h : Opens P t d ok) (hn : off + d.sz = n) (hr : OpensFs P fs n d' ok') :
    OpensFs P (f :: fs) off (Kd.pair d d') (fun x => ok x.1 ∧ ok' x.2) :=
  ⟨fun {H enc W base spare held fuel cs ys} hy hl hw hcs => by
    cases ys with
    | nil => simp at hl
    | cons y ys =>
      have h0 := hy 0 f rfl
      simp only [List.getElem?_cons_zero] at h0
      simp only [List.map_cons, DataW.weightsEach, List.all_append, Bool.and_eq_true] at hw
      have hw0 := hw.1
      rw [ht] at h0 hw0
      obtain ⟨x, hK, hok⟩ := h.op h0 hw0
      have hsz : (Kd.pair d d').sz = d.sz + d'.sz := rfl
      rw [hsz] at hcs
      obtain ⟨x', hK', hok'⟩ := hr.op (fun i g hg => hy (i + 1) g (by simpa using hg)) (by simpa using hl) hw.2 (by omega)
      refine ⟨(x, x'), ⟨_, _, ?_, hK, hK'⟩, hok, hok'⟩
      rw [hoff, h.sz, ← hn, ← List.drop_drop]
      exact (List.take_append_drop _ _).symm⟩
theorem Opens.struct {α β : Type} {P : Program} {t : TypeId} {fs : Array Field} {fl : List Field} {d : Kd α} {ok : α → Prop} (f : β → α) (g : α → β) (hfg : ∀ x, f (g x) = x) (h : P.underlying t = some (.struct fs)) (hfl : fs.toList = fl) (hs : P.cellsOf t = d.sz) (ho : OpensFs P fl 0 d ok) :
    Opens P t (Kd.iso d f) (fun x => ok (f x)) :=
  ⟨hs, fun {H enc W base spare held fuel cs y} hy hw => by
    obtain ⟨xs, n, rfl, rfl, hcl, hxl, hx⟩ := DataW.trod_struct h hy
    unfold DataW.weights at hw
    rw [h] at hw
    simp only [hfl] at hw
    subst hfl
    obtain ⟨x, hK, hok⟩ := ho.op (ys := xs) (fun i f hf => hx i f (by simpa using hf)) (by simpa using hxl) hw (by omega)
    rw [List.drop_zero] at hK
    refine ⟨g x, ?_, ?_⟩
    · show d.K W (f (g x)) cs
      rw [hfg]; exact hK
    · rw [hfg]; exact hok⟩
end Go.Proofs.Yteiladccdenpbaa.P
end
section
namespace Go.Proofs.Yteiladccdenpbaa.P
open Go.RowKit Go.Proofs.YteiladccdenpbaaW.PrintWords Go.Proofs.YteiladccdenpbaaW.PrintLast Go.Proofs.YteiladccdenpbaaW.PrintMore
attribute [local go_sem] max2_int min2_int max_two min_two max_three min_three max_four min_four
set_option linter.unusedVariables false
set_option linter.unusedSimpArgs false
def ok49 (x : S49) : Prop := (fun x => (Lit.int .i64 x).wf = true) x.f0 ∧ (fun x => (Lit.int .i64 x).wf = true) x.f1
theorem opens49 : Opens Try.prog 49 k49 ok49 := Opens.struct (fs := _) (fun x : S49 => (x.f0, x.f1)) (fun p => ⟨p.1, p.2⟩) (fun _ => rfl) Try.underlying49 rfl (by kernel_rfl) (OpensFs.cons rfl rfl (Opens.int Try.underlying3 (by kernel_rfl)) rfl (OpensFs.one rfl rfl (Opens.int Try.underlying3 (by kernel_rfl))))
def ok53 (x : S53) : Prop := (fun x => True) x.f0 ∧ (fun x => x.length * 16 ≤ 140737488351232 ∧ ∀ y ∈ x, (ok49) y) x.f1
theorem opens53 : Opens Try.prog 53 k53 ok53 := Opens.struct (fs := _) (fun x : S53 => (x.f0, x.f1)) (fun p => ⟨p.1, p.2⟩) (fun _ => rfl) Try.underlying53 rfl (by kernel_rfl) (OpensFs.cons rfl rfl (Opens.bool Try.underlying4 (by kernel_rfl)) rfl (OpensFs.one rfl rfl (Opens.slice (B := 16) Try.underlying43 (by kernel_rfl) (by kernel_rfl) opens49)))
def ok55 (x : S55) : Prop := (fun x => (Lit.int .i64 x).wf = true) x.f0 ∧ (fun x => True) x.f1 ∧ (ok53) x.f2
theorem opens55 : Opens Try.prog 55 k55 ok55 := Opens.struct (fs := _) (fun x : S55 => (x.f0, x.f1, x.f2)) (fun p => ⟨p.1, p.2.1, p.2.2⟩) (fun _ => rfl) Try.underlying55 rfl (by kernel_rfl) (OpensFs.cons rfl rfl (Opens.int Try.underlying3 (by kernel_rfl)) rfl (OpensFs.cons rfl rfl (Opens.bool Try.underlying4 (by kernel_rfl)) rfl (OpensFs.one rfl rfl opens53)))
def assartlaw07_TreeNodes.QPure : Prop := ∀ (l0_0 : List (S55)) (a0_1 : Int) (a1 : Int), (l0_0.length * 48 ≤ 140737488351232 ∧ ∀ x ∈ l0_0, ok55 x) → ((Lit.int .i64 a0_1).wf = true) → ((Lit.int .i64 a1).wf = true) → ∃ k, assartlaw07_TreeNodes.f k l0_0 a0_1 a1 = some true
end Go.Proofs.Yteiladccdenpbaa.P
end
section
namespace Go.Proofs.Yteiladccdenpbaa.Pure
open Go.RowKit Go.Proofs.Yteiladccdenpbaa.P
theorem TreeNodes : assartlaw07_TreeNodes.QPure := by
  unfold assartlaw07_TreeNodes.QPure
  intros
  exact ⟨0, rfl⟩
end Go.Proofs.Yteiladccdenpbaa.Pure
end
section
namespace Go.Proofs.Yteiladccdenpbaa.treeNodes
open Go.ChangeShapes Go.WideShapes Go.ChangeAt Go.RowKit Go.Proofs.Yteiladccdenpbaa.P Go.Proofs.YteiladccdenpbaaW.PrintWords Go.Proofs.YteiladccdenpbaaW.PrintLast Go.Proofs.YteiladccdenpbaaW.PrintMore
open Go.ChangeMaps (open_string shut_string)
set_option linter.unusedVariables false
set_option linter.unusedSimpArgs false
theorem own : ownKnob Try.prog.godebug = none := by kernel_rfl
theorem laidOut : laidOutB Try.prog = true := by kernel_rfl
set_option maxHeartbeats 1000000 in
set_option maxRecDepth 100000 in
theorem lifted (os : Os) (started : os.Started) (H : Type) (enc : TypeId × Value → H) :
  ReturnsInHanded {} Try.checked os 6 .any (Rows.treeNodesSpec.pre6 enc Try.prog Try.f6 Rows.treeNodesRow.domain false) (Rows.treeNodesSpec.post enc Try.prog Try.f6 false true false false) := by
 refine returnsInHanded_of_change_sized (C := Try.checked) own started (by kernel_rfl) Try.func6
  (ChangeSpec.witness6 (enc := enc) (C := Try.checked) false ⟨#[], #[.agg #[.slice none 0 0, .int .i64 0], .int .i64 0], []⟩ 8 (by kernel_rfl) (by kernel_rfl) (by kernel_rfl) (by kernel_rfl)) ?_
 intro W base args ds gs before hval0 hW hcnd hsz0 _
 have hsz : (DataW.weightsEach Try.prog (Try.f6.params.toList ++ Rows.treeNodesSpec.plain.varTypes Try.prog) (ds ++ gs)).all (· ≤ reachBytes) = true := hsz0
 have hval : ∀ (j : Nat) t v, Try.f6.params[j]? = some t → args[j]? = some v → Value.okWide Try.prog W .any base t v := hval0
 have hW' := hW
 obtain ⟨p, q, hA0, hV, rfl, hfz, hnd⟩ := hW
 have hA : DataW.TrodAll enc Try.prog W 0 (fun _ => true) true Try.f6.params.toList args.toList ds p := hA0
 rw [Try.params6] at hA hval hsz
 obtain ⟨v0, vs0, d0, ds0, p0, q0, hargs, rfl, rfl, h0, r0⟩ := trodAll_cons hA
 obtain ⟨v1, vs1, d1, ds1, p1, q1, rfl, rfl, rfl, h1, r1⟩ := trodAll_cons r0
 obtain ⟨rfl, rfl, rfl⟩ := trodAll_nil r1
 obtain rfl : args = #[v0, v1] := by cases args; simp_all
 obtain ⟨rfl, rfl⟩ := trodVars_none hV
 have k0 := h0
 have lt0 : ∀ x ∈ p0, x.block < W.heap.size := by obtain ⟨m, hm⟩ := k0; exact DataW.trod_lt m _ _ _ hm
 have wt0 := weights_at hsz (j := 0) (t := 24) (d := d0) rfl rfl
 obtain ⟨fuel0, hf0⟩ := h0
 obtain ⟨x0, hK0, hok0⟩ := (Opens.struct (f := id) (g := id) (fun _ => rfl) Try.underlying24 rfl (by kernel_rfl) (OpensFs.cons rfl rfl (Opens.slice (B := 48) Try.underlying22 (by kernel_rfl) (by kernel_rfl) opens55) rfl (OpensFs.one rfl rfl (Opens.int Try.underlying3 (by kernel_rfl))))).op hf0 wt0
 obtain ⟨cs0, rfl, hsz0⟩ := okWide_struct Try.underlying24 (hval 0 24 v0 rfl rfl)
 obtain ⟨l0_0, a0_1⟩ := x0
 obtain ⟨L0, hL0⟩ : ∃ L, (Value.agg cs0).cells.toList = L := ⟨_, rfl⟩
 rw [hL0] at hK0
 obtain ⟨_, _, rfl, ⟨A0_0, c0_0, rfl, hc0_0, hr0_0⟩, rfl⟩ := hK0
 obtain rfl : cs0 = #[.slice A0_0 l0_0.length c0_0, .int .i64 a0_1] := by have h := hL0; simp [Value.cells] at h; cases cs0; simp_all
 obtain ⟨o0_0, o0_1⟩ := hok0
 have k1 := h1
 have lt1 : ∀ x ∈ p1, x.block < W.heap.size := by obtain ⟨m, hm⟩ := k1; exact DataW.trod_lt m _ _ _ hm
 have wt1 := weights_at hsz (j := 1) (t := 3) (d := d1) rfl rfl
 obtain ⟨a1, rfl, _, _, o1⟩ := open_int Try.underlying3 (hval 1 3 v1 rfl rfl) h1
 clear hA0 hval0 hsz0 hsz
 obtain ⟨k, h⟩ := Pure.TreeNodes l0_0 a0_1 a1 o0_0 o0_1 o1
 refine (assartlaw07_TreeNodes.calls k _ _ l0_0 a0_1 a1 true W hr0_0 hc0_0 h).mono fun e W' ⟨he, bel0⟩ => ?_
 have bel := bel0
 subst he
 exact ⟨_, rfl, _, _, _, [], _, [], hW', trodAll_mk1 (shut_bool Try.underlying4 _), (trodAll_cons_mk (Below.trod laidOut (by kernel_rfl) (of_decide_eq_true (by kernel_rfl)) k0 bel lt0) (trodAll_cons_mk (Below.trod laidOut (by kernel_rfl) (of_decide_eq_true (by kernel_rfl)) k1 bel lt1) trodAll_mk0)), rfl, bel.frame _, fun h => by cases h⟩
theorem over : Rows.treeNodesRow.holds Try.pinned (OpenSpec.ofChange Rows.treeNodesSpec) :=
 OpenClaim.holds_of_wide 6 Try.f6 rfl rfl rfl rfl rfl rfl rfl ⟨rfl, rfl, rfl, rfl, rfl⟩ rfl rfl rfl rfl rfl (by kernel_rfl) Try.func6 (by kernel_rfl)
  (of_decide_eq_true (by kernel_rfl)) (by unfold Func.isWrapper; first | (rw [if_pos (by decide +kernel)]; kernel_rfl) | (rw [if_neg (by decide +kernel)]; exact ⟨rfl, rfl⟩))
  (fun os started H enc _ => lifted os started H enc)
theorem proved : Rows.TreeNodesSaid := over
#print axioms proved
end Go.Proofs.Yteiladccdenpbaa.treeNodes
namespace Go.Proofs.Yteiladccdenpbaa
theorem treeNodes_holds : Rows.TreeNodesSaid := treeNodes.proved
end Go.Proofs.Yteiladccdenpbaa
end
