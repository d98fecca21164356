/- Texts of this claim's proof put together: F78, PHeap3, F80, HRef5, F49, PHeap4. -/
import Derived.Below
import Derived.Deep.Draws
import Derived.Deep.AppendLies
import Derived.Maps.AppendAt
import Derived.OwnWalk
import Derived.Laws.BytesArg
import Derived.Laws.MakeOwn
import Derived.Laws.OwnMore
import Derived.Deep.OwnRows
import Derived.Tactics
import Derived.Lib.ConvBytes
import Derived.Laws.Slices
import Derived.WalkKit
import Derived.KernelRfl
import Derived.RowKit3
import Derived.Deep.LoopGhost
import Derived.Deep.QuietTactic
import Derived.BigQuiet
import Derived.WideLaws
import Derived.Deep.DeepCutAuto
import Derived.Deep.CutBlock
import Derived.Deep.RegionHeld3
import Derived.Laws.Rows
import Derived.Lib.AppendStr
import Derived.ArgAppend
import Derived.Laws.IdiomCopy
import Derived.RowKit
import Derived.OrdersHeld
import Derived.Laws.BitsLemmas
import Derived.Laws.StructEq
import Derived.Test.YteiladccdenpbaaProg
import Derived.Shelf.RegionOpenPlain
import Derived.Shelf.Abstract
import Derived.Laws.CopyOwn
import Derived.Lib.SlBuf
import Derived.ChangeArms
import Derived.DataReads
import Derived.DataElems
import Derived.SizedLaws
import Derived.Test.YteiladccdenpbaaRows
import Derived.ProofKit
import Derived.OpenShut
import Derived.ShutString
import Derived.ChangeOld
import Derived.Test.YteiladccdenpbaaKHeapDoes0
import Derived.Test.YteiladccdenpbaaKHeapDoes1
import Derived.Test.YteiladccdenpbaaKHeapDoes2
import Derived.Test.YteiladccdenpbaaKHeapDoes3
namespace Foot
end Foot
namespace Go.Proofs.Yteiladccdenpbaa
end Go.Proofs.Yteiladccdenpbaa
namespace Go.Proofs.Yteiladccdenpbaa.P
end Go.Proofs.Yteiladccdenpbaa.P
namespace Go.Proofs.Yteiladccdenpbaa.heapDoes
end Go.Proofs.Yteiladccdenpbaa.heapDoes
namespace Go.Proofs.YteiladccdenpbaaW.PrintLast
end Go.Proofs.YteiladccdenpbaaW.PrintLast
namespace Go.Proofs.YteiladccdenpbaaW.PrintMore
end Go.Proofs.YteiladccdenpbaaW.PrintMore
namespace Go.Proofs.YteiladccdenpbaaW.PrintWords
end Go.Proofs.YteiladccdenpbaaW.PrintWords
namespace Kd
end Kd
section
namespace Go.Proofs.Yteiladccdenpbaa.P
open Go.RowKit Go.Proofs.YteiladccdenpbaaW.PrintWords Go.Proofs.YteiladccdenpbaaW.PrintLast Go.Proofs.YteiladccdenpbaaW.PrintMore
attribute [local go_sem] max2_int min2_int max_two min_two max_three min_three max_four min_four
set_option linter.unusedVariables false
set_option linter.unusedSimpArgs false
mutual
def assartref05_leads.l0 : Nat → Int → List (S55) → Int → Bool → List (S49) → Option (Bool)
 | 0, _, _, _, _, _ => none
 | k + 1, x5, x205000, x205001, x206000, x206001 => if x5 < (x206001.length : Int) then (assartref05_leads.j1 k x5 (!x206000) x205000 x205001 x206000 x206001) else (assartref05_leads.j1 k x5 false x205000 x205001 x206000 x206001)
def assartref05_leads.j1 : Nat → Int → Bool → List (S55) → Int → Bool → List (S49) → Option (Bool)
 | 0, _, _, _, _, _, _ => none
 | k + 1, x5, x16, x205000, x205001, x206000, x206001 => if x16 = true then (if 0 ≤ x5 then (if x5 < (x206001.length : Int) then ((assartref05_Used.f x205000 x205001 ((rd_T49 x206001 x5).f1)).bind fun t207 => (if t207 = true then (assartref05_leads.l0 k (wrap64 (x5 + 1)) x205000 x205001 x206000 x206001) else (some false))) else (none)) else (none)) else (some true)
end
def assartref05_leads.f (k : Nat) (l0_0 : List (S55)) (a0_1 : Int) (a1_0 : Bool) (l1_1 : List (S49)) : Option (Bool) := assartref05_leads.l0 k 0 l0_0 a0_1 a1_0 l1_1
def assartref05_leads.T4 : Bool × List (List Nat × List Nat) := (true, [([], []), ([], []), ([1], [1]), ([], []), ([2, 3], [2, 3]), ([4], [4]), ([5], [5]), ([0, 6], [0, 6]), ([7, 7, 0, 1, 2, 3, 4, 5, 6, 7], [7])])
def assartref05_leads.B4 : List Nat := [0, 0, 2, 0, 14, 30, 62, 127, 255]
theorem assartref05_leads.tab4 : rtab .any (opsOf Try.f78 4) = assartref05_leads.T4 := by kernel_rfl
theorem assartref05_leads.bits4 : waitsOk assartref05_leads.T4.2 assartref05_leads.B4 = true := by kernel_rfl
set_option maxHeartbeats 8000000 in
set_option maxRecDepth 100000 in
theorem assartref05_leads.calls (k : Nat) (A0_0 : Option Addr) (c0_0 : Nat) (l0_0 : List (S55)) (a0_1 : Int) (a1_0 : Bool) (A1_1 : Option Addr) (c1_1 : Nat) (l1_1 : List (S49)) (r : Bool) (w : World) (hr0_0 : Kd.C k55 w A0_0 l0_0.length l0_0) (hc0_0 : l0_0.length ≤ c0_0) (hr1_1 : Kd.C k49 w A1_1 l1_1.length l1_1) (hc1_1 : l1_1.length ≤ c1_1) (h : assartref05_leads.f k l0_0 a0_1 a1_0 l1_1 = some r) :
  Calls Try.prog 78 #[.agg #[.slice A0_0 l0_0.length c0_0, .int .i64 a0_1], .agg #[.bool a1_0, .slice A1_1 l1_1.length c1_1]] w fun e w' => e = .returned (.bool r) ∧ Below w.heap.size w w' := by
 have hu24 := Try.underlying24
 have hu53 := Try.underlying53
 have HR0_0 := Aside0.mk hr0_0
 have HC0_0 := Aside0.mk hc0_0
 clear hr0_0 hc0_0
 have HR1_1 := Aside0.mk hr1_1
 have HC1_1 := Aside0.mk hc1_1
 clear hr1_1 hc1_1
 have HB := Aside0.mk (Below.refl w.heap.size w)
 have H : (assartref05_leads.l0 k 0 l0_0 a0_1 a1_0 l1_1) = some r := h
 clear h
 have H' := Aside0.mk H
 clear H
 go_enter Try.func78, Try.ntmps78
 go_wp2_with (first | ((with_reducible refine gate_dst (N := 2) rfl ?_); refine box_event ?hg (N := 2) ?hd (cs := #[.slice A0_0 l0_0.length c0_0, .int .i64 a0_1]) (t := 24) ?hr ?_; (case hd => rfl); (case hg => rfl); (case hr => first | (go_simp; done) | (go_simp; rfl)); intro gb204 hg w3 hbox hb; have n0_ := Aside0.mk (below_step (by repeat (first | (with_reducible first | exact HB.out | apply below_alloc | apply pw_below_drewN | apply below_drew1) | exact HB.out)) hb); have n1_ := Aside0.mk (hbox); have n2_ := Aside0.mk ((by rw [hg]; exact (below_size (by repeat (first | (with_reducible first | exact HB.out | apply below_alloc | apply pw_below_drewN | apply below_drew1) | exact HB.out))) : w.heap.size ≤ gb204)); have n3_ := Aside0.mk ((by rw [hg]; exact (below_size (by repeat (first | (with_reducible first | exact HB.out | apply below_alloc | apply pw_below_drewN | apply below_drew1) | exact HB.out))) : w.heap.size ≤ gb204)); clear HB; have HB := n0_; have BK204 := n1_; have GW204 := n2_; have GE204 := n3_; clear n0_ n1_ n2_ n3_; clear hb hbox hg) | ((with_reducible refine gate_dst (N := 3) rfl ?_); refine box_event ?hg (N := 3) ?hd (cs := #[.bool a1_0, .slice A1_1 l1_1.length c1_1]) (t := 53) ?hr ?_; (case hd => rfl); (case hg => rfl); (case hr => first | (go_simp; done) | (go_simp; rfl)); intro gb205 hg w4 hbox hb; have n0_ := Aside0.mk (blk_below (g := gb204) (o := .cells #[.slice A0_0 l0_0.length c0_0, .int .i64 a0_1] 24 (0, 0)) (by (with_reducible repeat (first | refine blk_drewN ?_ _ | refine blk_drew ?_ | refine blk_alloc ?_ _)); exact BK204.out) hb); have n1_ := Aside0.mk (below_step (by repeat (first | (with_reducible first | exact HB.out | apply below_alloc | apply pw_below_drewN | apply below_drew1 | refine below_set ?_ GE204.out) | exact HB.out)) hb); have n2_ := Aside0.mk (hbox); have n3_ := Aside0.mk ((by rw [hg]; exact (below_size (by repeat (first | (with_reducible first | exact HB.out | apply below_alloc | apply pw_below_drewN | apply below_drew1 | refine below_set ?_ GE204.out) | exact HB.out))) : w.heap.size ≤ gb205)); have n4_ := Aside0.mk ((by rw [hg]; exact (below_size (by repeat (first | (with_reducible first | exact HB.out | apply below_alloc | apply pw_below_drewN | apply below_drew1 | refine below_set ?_ GE204.out) | exact HB.out))) : w.heap.size ≤ gb205)); have n5_ := Aside0.mk ((by rw [hg]; exact Nat.ne_of_lt (blk_lt (g := gb204) (o := .cells #[.slice A0_0 l0_0.length c0_0, .int .i64 a0_1] 24 (0, 0)) (by (with_reducible repeat (first | refine blk_drewN ?_ _ | refine blk_drew ?_ | refine blk_alloc ?_ _)); exact BK204.out)) : gb204 ≠ gb205)); have n6_ := Aside0.mk ((by rw [hg]; exact Nat.ne_of_gt (blk_lt (g := gb204) (o := .cells #[.slice A0_0 l0_0.length c0_0, .int .i64 a0_1] 24 (0, 0)) (by (with_reducible repeat (first | refine blk_drewN ?_ _ | refine blk_drew ?_ | refine blk_alloc ?_ _)); exact BK204.out)) : gb205 ≠ gb204)); clear BK204; clear HB; have BK204 := n0_; have HB := n1_; have BK205 := n2_; have GW205 := n3_; have GE205 := n4_; have NB204_205 := n5_; have NB205_204 := n6_; clear n0_ n1_ n2_ n3_ n4_ n5_ n6_; clear hb hbox hg))
 go_loopg [5] k (fun kq v5 w' => ∃ (x5_1 : Int), v5 = .int .i64 x5_1 ∧ Aside0 (assartref05_leads.l0 kq x5_1 l0_0 a0_1 a1_0 l1_1 = some r) ∧ Aside0 (kq ≤ k) ∧ Aside0 (w'.heap[gb204]? = some (.cells #[(.slice A0_0 l0_0.length c0_0), .int .i64 a0_1] 24 (0, 0))) ∧ Aside0 (w'.heap[gb205]? = some (.cells #[.bool a1_0, (.slice A1_1 l1_1.length c1_1)] 53 (0, 0))) ∧ Aside0 (Below w.heap.size w w'))
 case atStart => exact ⟨(0), (by first | rfl | (simp; done) | (simp [*]; done)), H', ⟨Nat.le_refl _⟩, ⟨by (with_reducible repeat (first | refine blk_drewN ?_ _ | refine blk_drew ?_ | refine blk_alloc ?_ _)); exact BK204.out⟩, ⟨by (with_reducible repeat (first | refine blk_drewN ?_ _ | refine blk_drew ?_ | refine blk_alloc ?_ _)); exact BK205.out⟩, ⟨by repeat (first | (with_reducible first | exact HB.out | apply below_alloc | apply pw_below_drewN | apply below_drew1 | refine below_set ?_ GE204.out | refine below_set ?_ GE205.out) | exact HB.out)⟩⟩
 case round =>
  clear H'
  try clear c1
  try clear p2
  obtain ⟨x5_1, rfl, HA, HK1, BK204, BK205, HB⟩ := hrel
  cases gk with
  | zero => exact absurd HA.out (by simp [assartref05_leads.l0])
  | succ k1 =>
   have H := HA.out
   clear HA
   simp only [assartref05_leads.l0] at H
   have HC5 := Aside0.mk H
   clear H
   go_upto_region 2 with (fail)
   go_cut [16] (fun v16 wc => ∃ (kq : Nat) (x16_4 : Bool), v16 = .bool x16_4 ∧ Aside0 (assartref05_leads.j1 kq x5_1 x16_4 l0_0 a0_1 a1_0 l1_1 = some r) ∧ Aside0 (kq ≤ k1) ∧ Aside0 (wc.heap[gb204]? = some (.cells #[(.slice A0_0 l0_0.length c0_0), .int .i64 a0_1] 24 (0, 0))) ∧ Aside0 (wc.heap[gb205]? = some (.cells #[.bool a1_0, (.slice A1_1 l1_1.length c1_1)] 53 (0, 0))) ∧ Aside0 (Below w.heap.size w wc))
   case first =>
    have H := HC5.out
    clear HC5
    by_cases c6 : x5_1 < (l1_1.length : Int)
    ·rw [if_pos c6] at H
     have c6b0 : decide (x5_1 < (l1_1.length : Int)) = true := decide_eq_true c6
     clear c6
     (first | rw [c6b0] | (simp only [i64_w, i32_w]; rw [c6b0]) | skip)
     have H' := Aside0.mk H
     clear H
     have hnb7 := NB205_204.out
     have hnc7 := NB204_205.out
     have hcz8_0 : wr.cell? ⟨gb205, 0, none⟩ = some (.bool a1_0) := (blk_cell BK205.out 0).trans rfl
     have hcz8_1 : wr.cell? ⟨gb205, 1, none⟩ = some (.slice A1_1 l1_1.length c1_1) := (blk_cell BK205.out 1).trans rfl
     have hfz8_0 := blk_frozen BK205.out 0
     have hfz8_1 := blk_frozen BK205.out 1
     go_wp2
     go_meet
     case rel => exact ⟨_, (!a1_0), (by first | rfl | (simp; done) | (simp [*]; done)), H', ⟨by have := HK1.out; first | omega | exact Nat.le_refl _⟩, ⟨by (with_reducible repeat (first | refine blk_drewN ?_ _ | refine blk_drew ?_ | refine blk_alloc ?_ _)); exact BK204.out⟩, ⟨by (with_reducible repeat (first | refine blk_drewN ?_ _ | refine blk_drew ?_ | refine blk_alloc ?_ _)); exact BK205.out⟩, ⟨by repeat (first | (with_reducible first | exact HB.out | apply below_alloc | apply pw_below_drewN | apply below_drew1 | refine below_set ?_ GE204.out | refine below_set ?_ GE205.out) | exact HB.out)⟩⟩
    ·rw [if_neg c6] at H
     have c6b0 : decide (x5_1 < (l1_1.length : Int)) = false := decide_eq_false c6
     clear c6
     (first | rw [c6b0] | (simp only [i64_w, i32_w]; rw [c6b0]) | skip)
     have H' := Aside0.mk H
     clear H
     have hnb9 := NB205_204.out
     have hnc9 := NB204_205.out
     have hcz10_0 : wr.cell? ⟨gb205, 0, none⟩ = some (.bool a1_0) := (blk_cell BK205.out 0).trans rfl
     have hcz10_1 : wr.cell? ⟨gb205, 1, none⟩ = some (.slice A1_1 l1_1.length c1_1) := (blk_cell BK205.out 1).trans rfl
     have hfz10_0 := blk_frozen BK205.out 0
     have hfz10_1 := blk_frozen BK205.out 1
     go_wp2
     go_meet
     case rel => exact ⟨_, (false), (by first | rfl | (simp; done) | (simp [*]; done)), H', ⟨by have := HK1.out; first | omega | exact Nat.le_refl _⟩, ⟨by (with_reducible repeat (first | refine blk_drewN ?_ _ | refine blk_drew ?_ | refine blk_alloc ?_ _)); exact BK204.out⟩, ⟨by (with_reducible repeat (first | refine blk_drewN ?_ _ | refine blk_drew ?_ | refine blk_alloc ?_ _)); exact BK205.out⟩, ⟨by repeat (first | (with_reducible first | exact HB.out | apply below_alloc | apply pw_below_drewN | apply below_drew1 | refine below_set ?_ GE204.out | refine below_set ?_ GE205.out) | exact HB.out)⟩⟩
   case rest =>
    clear HC5
    try clear c1
    try clear p2
    try clear c6
    try clear c6b0
    try clear c7
    try clear c9
    try clear hcz10_0
    try clear hcz10_1
    try clear hcz8_0
    try clear hcz8_1
    try clear hfz10_0
    try clear hfz10_1
    try clear hfz8_0
    try clear hfz8_1
    try clear p2
    obtain ⟨kq, x16_4, rfl, HA, HJ4, BK204, BK205, HB⟩ := hcut
    cases kq with
    | zero => exact absurd HA.out (by simp [assartref05_leads.j1])
    | succ kj4 =>
     have H := HA.out
     clear HA
     simp only [assartref05_leads.j1] at H
     by_cases c11 : x16_4 = true
     ·subst c11
      have H1 : (if 0 ≤ x5_1 then (if x5_1 < (l1_1.length : Int) then ((assartref05_Used.f l0_0 a0_1 ((rd_T49 l1_1 x5_1).f1)).bind fun t207 => (if t207 = true then (assartref05_leads.l0 kj4 (wrap64 (x5_1 + 1)) l0_0 a0_1 a1_0 l1_1) else (some false))) else (none)) else (none)) = some r := by rw [if_pos rfl] at H; exact H
      clear H
      have H := H1
      clear H1
      by_cases c12 : 0 ≤ x5_1
      ·rw [if_pos c12] at H
       have c12b0 : decide (0 ≤ x5_1) = true := decide_eq_true c12
       clear c12
       by_cases c13 : x5_1 < (l1_1.length : Int)
       ·rw [if_pos c13] at H
        have c13b0 : decide (x5_1 < (l1_1.length : Int)) = true := decide_eq_true c13
        clear c13
        replace H := Option.bind_eq_some_iff.mp H
        obtain ⟨t207, A140, H⟩ := H
        replace H : (if t207 = true then (assartref05_leads.l0 kj4 (wrap64 (x5_1 + 1)) l0_0 a0_1 a1_0 l1_1) else (some false)) = some r := H
        have A14 := Aside0.mk A140
        clear A140
        by_cases c15 : t207 = true
        ·subst c15
         have H1 : (assartref05_leads.l0 kj4 (wrap64 (x5_1 + 1)) l0_0 a0_1 a1_0 l1_1) = some r := by rw [if_pos rfl] at H; exact H
         clear H
         have H := H1
         clear H1
         have H' := Aside0.mk H
         clear H
         try go_wp2
         have n0_ := Aside0.mk (blk_drew BK204.out)
         have n1_ := Aside0.mk (blk_drew BK205.out)
         have n2_ := Aside0.mk (below_drew1 HB.out)
         clear BK204
         clear BK205
         clear HB
         have BK204 := n0_
         have BK205 := n1_
         have HB := n2_
         clear n0_ n1_ n2_
         have p206 : 0 ≤ (x5_1 : Int) := of_decide_eq_true (by first | (with_reducible assumption) | assumption)
         have q206 : x5_1 < (l1_1.length : Int) := of_decide_eq_true (by first | (with_reducible assumption) | assumption)
         obtain ⟨ad206, e206, hx206_0, hx206_1⟩ := at_T49 HR1_1.out x5_1 p206 q206
         have hw206_1 := hx206_1
         have hw206_0 := hx206_0
         cases e206
         replace hx206_0 := (HB.out.cell (World.block_lt_of_cell? w _ hx206_0)).trans hx206_0
         replace hx206_1 := (HB.out.cell (World.block_lt_of_cell? w _ hx206_1)).trans hx206_1
         replace p206 := eq_true p206
         replace q206 := eq_true q206
         refine start_ (n := 9) (S := fun w' => w'.cell? ⟨gb204, 0, none⟩ = some (.slice A0_0 l0_0.length c0_0) ∧ w'.cell? ⟨gb204, 1, none⟩ = some (.int .i64 a0_1) ∧ w'.cell? ⟨gb205, 0, none⟩ = some (.bool a1_0) ∧ w'.cell? ⟨gb205, 1, none⟩ = some (.slice (some ad206) l1_1.length c1_1) ∧ w'.cell? (ad206.add ((x5_1).toNat * 2)) = some (.int .i64 ((rd_T49 l1_1 x5_1).f0)) ∧ w'.cell? ⟨(ad206.add ((x5_1).toNat * 2)).block, (ad206.add ((x5_1).toNat * 2)).off + 1, none⟩ = some (.int .i64 ((rd_T49 l1_1 x5_1).f1))) (ds := []) #[false, false, false, false, false, false, false, false, false] (by kernel_rfl) rfl rfl ⟨(blk_cell BK204.out 0).trans rfl, (blk_cell BK204.out 1).trans rfl, (blk_cell BK205.out 0).trans rfl, (blk_cell BK205.out 1).trans rfl, ((HB.out.cell (World.block_lt_of_cell? w _ hw206_0)).trans hw206_0), ((HB.out.cell (World.block_lt_of_cell? w _ hw206_1)).trans hw206_1)⟩ (fun hHeld => ?_); refine with_tabW assartref05_leads.tab4 assartref05_leads.bits4 (fun HT_ HW_ => ?_)
         generalize wc.drew = w16 at BK204 BK205 HB hx206_0 hx206_1 hHeld ⊢
         refine pure_ (i := 1) (N := some 20) (v := ?_) (a' := ?_) #[false, true, false, false, false, false, false, false, false] rfl rfl (any_of HT_.out (by kernel_rfl)) (fun _ _ _ h => h) (Or.inl ⟨by rfl, ?_⟩) ?_ ?_
         rotate_left
         ·intro w'
          go_simp
          with_reducible rfl
         rotate_left
         ·simp only [Act.put, List.setIfInBounds_toArray, List.set_cons_zero, List.set_cons_succ, i64_w, i32_w]
          rfl
         refine pure_ (i := 3) (N := some 22) (v := ?_) (a' := ?_) #[false, true, false, true, false, false, false, false, false] rfl rfl (any_of HT_.out (by kernel_rfl)) (fun _ _ _ h => h) (Or.inl ⟨by rfl, ?_⟩) ?_ ?_
         rotate_left
         ·intro w'
          go_simp
          with_reducible rfl
         rotate_left
         ·simp only [Act.put, List.setIfInBounds_toArray, List.set_cons_zero, List.set_cons_succ, i64_w, i32_w]
          rfl
         refine take_ (i := 0) (N := some 19) (v := ?_) (a' := ?_) #[true, true, false, true, false, false, false, false, false] rfl rfl (take_ofW HT_.out HW_.out (by kernel_rfl)) (fun _ _ _ h => h) (Or.inl ⟨by rfl, ?_⟩) hHeld ?_ ?_
         rotate_left
         ·rintro w' ⟨s0, s1, s2, s3, s4, s5⟩
          go_simp
          with_reducible rfl
         rotate_left
         ·simp only [Act.put, List.setIfInBounds_toArray, List.set_cons_zero, List.set_cons_succ, i64_w, i32_w]
          rfl
         refine take_ (i := 2) (N := some 21) (v := ?_) (a' := ?_) #[true, true, true, true, false, false, false, false, false] rfl rfl (take_ofW HT_.out HW_.out (by kernel_rfl)) (fun _ _ _ h => h) (Or.inl ⟨by rfl, ?_⟩) hHeld ?_ ?_
         rotate_left
         ·rintro w' ⟨s0, s1, s2, s3, s4, s5⟩
          go_simp
          with_reducible rfl
         rotate_left
         ·simp only [Act.put, List.setIfInBounds_toArray, List.set_cons_zero, List.set_cons_succ, i64_w, i32_w]
          rfl
         refine pure_ (i := 4) (N := some 23) (v := ?_) (a' := ?_) #[true, true, true, true, true, false, false, false, false] rfl rfl (any_of HT_.out (by kernel_rfl)) (fun _ _ _ h => h) (Or.inl ⟨by rfl, ?_⟩) ?_ ?_
         rotate_left
         ·intro w'
          go_simp
          with_reducible rfl
         rotate_left
         ·simp only [Act.put, List.setIfInBounds_toArray, List.set_cons_zero, List.set_cons_succ, i64_w, i32_w]
          rfl
         refine pure_ (i := 5) (N := some 24) (v := ?_) (a' := ?_) #[true, true, true, true, true, true, false, false, false] rfl rfl (any_of HT_.out (by kernel_rfl)) (fun _ _ _ h => h) (Or.inl ⟨by rfl, ?_⟩) ?_ ?_
         rotate_left
         ·intro w'
          go_simp
          with_reducible rfl
         rotate_left
         ·simp only [Act.put, List.setIfInBounds_toArray, List.set_cons_zero, List.set_cons_succ, i64_w, i32_w]
          rfl
         refine take_ (i := 6) (N := some 25) (v := ?_) (a' := ?_) #[true, true, true, true, true, true, true, false, false] rfl rfl (take_ofW HT_.out HW_.out (by kernel_rfl)) (fun _ _ _ h => h) (Or.inl ⟨by rfl, ?_⟩) hHeld ?_ ?_
         rotate_left
         ·rintro w' ⟨s0, s1, s2, s3, s4, s5⟩
          go_simp
          with_reducible rfl
         rotate_left
         ·simp only [Act.put, List.setIfInBounds_toArray, List.set_cons_zero, List.set_cons_succ, i64_w, i32_w]
          rfl
         refine one_ (i := 7) (N := some 26) #[true, true, true, true, true, true, true, true, false] rfl rfl (one_of HT_.out (by kernel_rfl)) (by decide) (fun K hK => ?_)
         refine goes_ Try.func52 (by kernel_rfl) rfl #[.agg #[.slice A0_0 l0_0.length c0_0, .int .i64 a0_1], .int .i64 ((rd_T49 l1_1 x5_1).f1)] (by rfl) rfl rfl (by (try simp only [List.map_toArray, List.map_cons, List.map_nil]); first | done | rfl | (simp only [List.length_drop, List.length_take]; rfl)) ?_
         with_reducible refine (assartref05_Used.calls _ _ l0_0 a0_1 ((rd_T49 l1_1 x5_1).f1) true _ ?side1 ?side2 A14.out).mono ?_
         (case side1 => repeat (first | exact (Kd.C_below HR0_0.out HB.out) | (with_reducible refine Kd.C_alloc ?_ _) | (with_reducible refine Kd.C_drewN ?_ _) | (with_reducible refine Kd.C_drew ?_)))
         (case side2 => exact HC0_0.out)
         rintro e w17 ⟨rfl, hb⟩
         refine ⟨_, rfl, ?_⟩
         have n0_ := Aside0.mk (blk_below (g := gb204) (o := .cells #[.slice A0_0 l0_0.length c0_0, .int .i64 a0_1] 24 (0, 0)) (by (with_reducible repeat (first | refine blk_drewN ?_ _ | refine blk_drew ?_ | refine blk_alloc ?_ _)); exact BK204.out) hb)
         have n1_ := Aside0.mk (blk_below (g := gb205) (o := .cells #[.bool a1_0, .slice (some ad206) l1_1.length c1_1] 53 (0, 0)) (by (with_reducible repeat (first | refine blk_drewN ?_ _ | refine blk_drew ?_ | refine blk_alloc ?_ _)); exact BK205.out) hb)
         have n2_ := Aside0.mk (below_step (by repeat (first | (with_reducible first | exact HB.out | apply below_alloc | apply pw_below_drewN | apply below_drew1 | refine below_set ?_ GE204.out | refine below_set ?_ GE205.out) | exact HB.out)) hb)
         clear BK204
         clear BK205
         clear HB
         have BK204 := n0_
         have BK205 := n1_
         have HB := n2_
         clear n0_ n1_ n2_
         (try clear hb)
         (try clear hb2)
         (try clear hk)
         (try clear hi)
         refine hK.out _ _ ⟨(blk_cell BK204.out 0).trans rfl, (blk_cell BK204.out 1).trans rfl, (blk_cell BK205.out 0).trans rfl, (blk_cell BK205.out 1).trans rfl, ((HB.out.cell (World.block_lt_of_cell? w _ hw206_0)).trans hw206_0), ((HB.out.cell (World.block_lt_of_cell? w _ hw206_1)).trans hw206_1)⟩ (fun hHeld => ?_)
         clear hK K
         refine norm_ (a' := ?_) ?_ ?_
         rotate_left
         ·show Act.put _ (some 26) _ = _
          simp only [Act.put, List.setIfInBounds_toArray, List.set_cons_zero, List.set_cons_succ, i64_w, i32_w]
          rfl
         refine pure_ (i := 8) (N := some 6) (v := ?_) (a' := ?_) #[true, true, true, true, true, true, true, true, true] rfl rfl (any_of HT_.out (by kernel_rfl)) (fun _ _ _ h => h) (Or.inl ⟨by rfl, ?_⟩) ?_ ?_
         rotate_left
         ·intro w'
          go_simp
          with_reducible rfl
         rotate_left
         ·simp only [Act.put, List.setIfInBounds_toArray, List.set_cons_zero, List.set_cons_succ, i64_w, i32_w]
          rfl
         refine done_ (done_of HT_.out (by kernel_rfl)) ?_
         try go_wp2
         go_roundg kj4
         case measure => have := HK1.out; have := HJ4.out; omega
         case rel => exact ⟨(wrap64 (x5_1 + 1)), (by first | rfl | (simp; done) | (simp [*]; done)), H', ⟨by have := HK1.out; have := HJ4.out; omega⟩, ⟨by (with_reducible repeat (first | refine blk_drewN ?_ _ | refine blk_drew ?_ | refine blk_alloc ?_ _)); exact BK204.out⟩, ⟨by (with_reducible repeat (first | refine blk_drewN ?_ _ | refine blk_drew ?_ | refine blk_alloc ?_ _)); exact BK205.out⟩, ⟨by repeat (first | (with_reducible first | exact HB.out | apply below_alloc | apply pw_below_drewN | apply below_drew1 | refine below_set ?_ GE204.out | refine below_set ?_ GE205.out) | exact HB.out)⟩⟩
        ·replace c15 := Bool.eq_false_iff.mpr c15
         subst c15
         have H1 : (some false) = some r := by rw [if_neg (show ¬ (false = true) by decide)] at H; exact H
         clear H
         have H := H1
         clear H1
         obtain rfl := Option.some.inj H
         try go_wp2
         have n0_ := Aside0.mk (blk_drew BK204.out)
         have n1_ := Aside0.mk (blk_drew BK205.out)
         have n2_ := Aside0.mk (below_drew1 HB.out)
         clear BK204
         clear BK205
         clear HB
         have BK204 := n0_
         have BK205 := n1_
         have HB := n2_
         clear n0_ n1_ n2_
         have p206 : 0 ≤ (x5_1 : Int) := of_decide_eq_true (by first | (with_reducible assumption) | assumption)
         have q206 : x5_1 < (l1_1.length : Int) := of_decide_eq_true (by first | (with_reducible assumption) | assumption)
         obtain ⟨ad206, e206, hx206_0, hx206_1⟩ := at_T49 HR1_1.out x5_1 p206 q206
         have hw206_1 := hx206_1
         have hw206_0 := hx206_0
         cases e206
         replace hx206_0 := (HB.out.cell (World.block_lt_of_cell? w _ hx206_0)).trans hx206_0
         replace hx206_1 := (HB.out.cell (World.block_lt_of_cell? w _ hx206_1)).trans hx206_1
         replace p206 := eq_true p206
         replace q206 := eq_true q206
         refine start_ (n := 9) (S := fun w' => w'.cell? ⟨gb204, 0, none⟩ = some (.slice A0_0 l0_0.length c0_0) ∧ w'.cell? ⟨gb204, 1, none⟩ = some (.int .i64 a0_1) ∧ w'.cell? ⟨gb205, 0, none⟩ = some (.bool a1_0) ∧ w'.cell? ⟨gb205, 1, none⟩ = some (.slice (some ad206) l1_1.length c1_1) ∧ w'.cell? (ad206.add ((x5_1).toNat * 2)) = some (.int .i64 ((rd_T49 l1_1 x5_1).f0)) ∧ w'.cell? ⟨(ad206.add ((x5_1).toNat * 2)).block, (ad206.add ((x5_1).toNat * 2)).off + 1, none⟩ = some (.int .i64 ((rd_T49 l1_1 x5_1).f1))) (ds := []) #[false, false, false, false, false, false, false, false, false] (by kernel_rfl) rfl rfl ⟨(blk_cell BK204.out 0).trans rfl, (blk_cell BK204.out 1).trans rfl, (blk_cell BK205.out 0).trans rfl, (blk_cell BK205.out 1).trans rfl, ((HB.out.cell (World.block_lt_of_cell? w _ hw206_0)).trans hw206_0), ((HB.out.cell (World.block_lt_of_cell? w _ hw206_1)).trans hw206_1)⟩ (fun hHeld => ?_); refine with_tabW assartref05_leads.tab4 assartref05_leads.bits4 (fun HT_ HW_ => ?_)
         generalize wc.drew = w18 at BK204 BK205 HB hx206_0 hx206_1 hHeld ⊢
         refine pure_ (i := 1) (N := some 20) (v := ?_) (a' := ?_) #[false, true, false, false, false, false, false, false, false] rfl rfl (any_of HT_.out (by kernel_rfl)) (fun _ _ _ h => h) (Or.inl ⟨by rfl, ?_⟩) ?_ ?_
         rotate_left
         ·intro w'
          go_simp
          with_reducible rfl
         rotate_left
         ·simp only [Act.put, List.setIfInBounds_toArray, List.set_cons_zero, List.set_cons_succ, i64_w, i32_w]
          rfl
         refine pure_ (i := 3) (N := some 22) (v := ?_) (a' := ?_) #[false, true, false, true, false, false, false, false, false] rfl rfl (any_of HT_.out (by kernel_rfl)) (fun _ _ _ h => h) (Or.inl ⟨by rfl, ?_⟩) ?_ ?_
         rotate_left
         ·intro w'
          go_simp
          with_reducible rfl
         rotate_left
         ·simp only [Act.put, List.setIfInBounds_toArray, List.set_cons_zero, List.set_cons_succ, i64_w, i32_w]
          rfl
         refine take_ (i := 0) (N := some 19) (v := ?_) (a' := ?_) #[true, true, false, true, false, false, false, false, false] rfl rfl (take_ofW HT_.out HW_.out (by kernel_rfl)) (fun _ _ _ h => h) (Or.inl ⟨by rfl, ?_⟩) hHeld ?_ ?_
         rotate_left
         ·rintro w' ⟨s0, s1, s2, s3, s4, s5⟩
          go_simp
          with_reducible rfl
         rotate_left
         ·simp only [Act.put, List.setIfInBounds_toArray, List.set_cons_zero, List.set_cons_succ, i64_w, i32_w]
          rfl
         refine take_ (i := 2) (N := some 21) (v := ?_) (a' := ?_) #[true, true, true, true, false, false, false, false, false] rfl rfl (take_ofW HT_.out HW_.out (by kernel_rfl)) (fun _ _ _ h => h) (Or.inl ⟨by rfl, ?_⟩) hHeld ?_ ?_
         rotate_left
         ·rintro w' ⟨s0, s1, s2, s3, s4, s5⟩
          go_simp
          with_reducible rfl
         rotate_left
         ·simp only [Act.put, List.setIfInBounds_toArray, List.set_cons_zero, List.set_cons_succ, i64_w, i32_w]
          rfl
         refine pure_ (i := 4) (N := some 23) (v := ?_) (a' := ?_) #[true, true, true, true, true, false, false, false, false] rfl rfl (any_of HT_.out (by kernel_rfl)) (fun _ _ _ h => h) (Or.inl ⟨by rfl, ?_⟩) ?_ ?_
         rotate_left
         ·intro w'
          go_simp
          with_reducible rfl
         rotate_left
         ·simp only [Act.put, List.setIfInBounds_toArray, List.set_cons_zero, List.set_cons_succ, i64_w, i32_w]
          rfl
         refine pure_ (i := 5) (N := some 24) (v := ?_) (a' := ?_) #[true, true, true, true, true, true, false, false, false] rfl rfl (any_of HT_.out (by kernel_rfl)) (fun _ _ _ h => h) (Or.inl ⟨by rfl, ?_⟩) ?_ ?_
         rotate_left
         ·intro w'
          go_simp
          with_reducible rfl
         rotate_left
         ·simp only [Act.put, List.setIfInBounds_toArray, List.set_cons_zero, List.set_cons_succ, i64_w, i32_w]
          rfl
         refine take_ (i := 6) (N := some 25) (v := ?_) (a' := ?_) #[true, true, true, true, true, true, true, false, false] rfl rfl (take_ofW HT_.out HW_.out (by kernel_rfl)) (fun _ _ _ h => h) (Or.inl ⟨by rfl, ?_⟩) hHeld ?_ ?_
         rotate_left
         ·rintro w' ⟨s0, s1, s2, s3, s4, s5⟩
          go_simp
          with_reducible rfl
         rotate_left
         ·simp only [Act.put, List.setIfInBounds_toArray, List.set_cons_zero, List.set_cons_succ, i64_w, i32_w]
          rfl
         refine one_ (i := 7) (N := some 26) #[true, true, true, true, true, true, true, true, false] rfl rfl (one_of HT_.out (by kernel_rfl)) (by decide) (fun K hK => ?_)
         refine goes_ Try.func52 (by kernel_rfl) rfl #[.agg #[.slice A0_0 l0_0.length c0_0, .int .i64 a0_1], .int .i64 ((rd_T49 l1_1 x5_1).f1)] (by rfl) rfl rfl (by (try simp only [List.map_toArray, List.map_cons, List.map_nil]); first | done | rfl | (simp only [List.length_drop, List.length_take]; rfl)) ?_
         with_reducible refine (assartref05_Used.calls _ _ l0_0 a0_1 ((rd_T49 l1_1 x5_1).f1) false _ ?side1 ?side2 A14.out).mono ?_
         (case side1 => repeat (first | exact (Kd.C_below HR0_0.out HB.out) | (with_reducible refine Kd.C_alloc ?_ _) | (with_reducible refine Kd.C_drewN ?_ _) | (with_reducible refine Kd.C_drew ?_)))
         (case side2 => exact HC0_0.out)
         rintro e w19 ⟨rfl, hb⟩
         refine ⟨_, rfl, ?_⟩
         have n0_ := Aside0.mk (blk_below (g := gb204) (o := .cells #[.slice A0_0 l0_0.length c0_0, .int .i64 a0_1] 24 (0, 0)) (by (with_reducible repeat (first | refine blk_drewN ?_ _ | refine blk_drew ?_ | refine blk_alloc ?_ _)); exact BK204.out) hb)
         have n1_ := Aside0.mk (blk_below (g := gb205) (o := .cells #[.bool a1_0, .slice (some ad206) l1_1.length c1_1] 53 (0, 0)) (by (with_reducible repeat (first | refine blk_drewN ?_ _ | refine blk_drew ?_ | refine blk_alloc ?_ _)); exact BK205.out) hb)
         have n2_ := Aside0.mk (below_step (by repeat (first | (with_reducible first | exact HB.out | apply below_alloc | apply pw_below_drewN | apply below_drew1 | refine below_set ?_ GE204.out | refine below_set ?_ GE205.out) | exact HB.out)) hb)
         clear BK204
         clear BK205
         clear HB
         have BK204 := n0_
         have BK205 := n1_
         have HB := n2_
         clear n0_ n1_ n2_
         (try clear hb)
         (try clear hb2)
         (try clear hk)
         (try clear hi)
         refine hK.out _ _ ⟨(blk_cell BK204.out 0).trans rfl, (blk_cell BK204.out 1).trans rfl, (blk_cell BK205.out 0).trans rfl, (blk_cell BK205.out 1).trans rfl, ((HB.out.cell (World.block_lt_of_cell? w _ hw206_0)).trans hw206_0), ((HB.out.cell (World.block_lt_of_cell? w _ hw206_1)).trans hw206_1)⟩ (fun hHeld => ?_)
         clear hK K
         refine norm_ (a' := ?_) ?_ ?_
         rotate_left
         ·show Act.put _ (some 26) _ = _
          simp only [Act.put, List.setIfInBounds_toArray, List.set_cons_zero, List.set_cons_succ, i64_w, i32_w]
          rfl
         refine pure_ (i := 8) (N := some 6) (v := ?_) (a' := ?_) #[true, true, true, true, true, true, true, true, true] rfl rfl (any_of HT_.out (by kernel_rfl)) (fun _ _ _ h => h) (Or.inl ⟨by rfl, ?_⟩) ?_ ?_
         rotate_left
         ·intro w'
          go_simp
          with_reducible rfl
         rotate_left
         ·simp only [Act.put, List.setIfInBounds_toArray, List.set_cons_zero, List.set_cons_succ, i64_w, i32_w]
          rfl
         refine done_ (done_of HT_.out (by kernel_rfl)) ?_
         try go_wp2
         go_ret
         exact ⟨by first | rfl | (simp [errW_none, errW_some] <;> rfl) | (simp [*, errW_none, errW_some] <;> rfl), by repeat (first | (with_reducible first | exact HB.out | apply below_alloc | apply pw_below_drewN | apply below_drew1 | refine below_set ?_ GE204.out | refine below_set ?_ GE205.out) | exact HB.out)⟩
       ·rw [if_neg c13] at H
        exact absurd H (by simp)
      ·rw [if_neg c12] at H
       exact absurd H (by simp)
     ·replace c11 := Bool.eq_false_iff.mpr c11
      subst c11
      have H1 : (some true) = some r := by rw [if_neg (show ¬ (false = true) by decide)] at H; exact H
      clear H
      have H := H1
      clear H1
      obtain rfl := Option.some.inj H
      go_wp2
      go_ret
      exact ⟨by first | rfl | (simp [errW_none, errW_some] <;> rfl) | (simp [*, errW_none, errW_some] <;> rfl), by repeat (first | (with_reducible first | exact HB.out | apply below_alloc | apply pw_below_drewN | apply below_drew1 | refine below_set ?_ GE204.out | refine below_set ?_ GE205.out) | exact HB.out)⟩
end Go.Proofs.Yteiladccdenpbaa.P
end
section
namespace Go.Proofs.Yteiladccdenpbaa.P
open Go.RowKit Go.Proofs.YteiladccdenpbaaW.PrintWords Go.Proofs.YteiladccdenpbaaW.PrintLast Go.Proofs.YteiladccdenpbaaW.PrintMore
set_option linter.unusedVariables false
set_option linter.unusedSimpArgs false
theorem refLeads_l0 (l : List S55) (kp : Int) (it : List S49) (hl : it.length ≤ 1000) : ∀ (d k j : Nat), j + d = it.length → 2 * d + 1 < k → assartref05_leads.l0 k (j : Int) l kp false it = some (!((it.drop j).any fun x => !usedB l x.f1)) := by
  intro d
  induction d with
  | zero =>
    intro k j hj hk
    obtain ⟨k, rfl⟩ : ∃ m, k = m + 2 := ⟨k - 2, by omega⟩
    rw [assartref05_leads.l0, if_neg (by omega), assartref05_leads.j1, if_neg (by simp), List.drop_eq_nil_of_le (by omega)]
    rfl
  | succ d ih =>
    intro k j hj hk
    obtain ⟨k, rfl⟩ : ∃ m, k = m + 2 := ⟨k - 2, by omega⟩
    rw [assartref05_leads.l0, if_pos (by omega), assartref05_leads.j1, if_pos (by rfl), if_pos (by omega), if_pos (by omega), used_val, Option.bind_some, List.drop_eq_getElem_cons (by omega), List.any_cons, ← rd_eq it j (by omega), wsucc j (by omega), ih k (j + 1) (by omega) (by omega)]
    by_cases h : usedB l (rd_T49 it (j : Nat)).f1 = true
    · rw [if_pos h, h]
      simp
    · rw [if_neg h]
      rw [Bool.not_eq_true] at h
      rw [h]
      simp
theorem refLeads_val (l : List S55) (kp : Int) (leaf : Bool) (it : List S49) (hl : it.length ≤ 1000) {k : Nat} (hk : 2 * it.length + 4 ≤ k) : assartref05_leads.f k l kp leaf it = some (leadsB l leaf it) := by
  unfold assartref05_leads.f leadsB
  cases leaf with
  | false =>
    have := refLeads_l0 l kp it hl it.length k 0 (by omega) (by omega)
    rw [show ((0 : Nat) : Int) = 0 from rfl, List.drop_zero] at this
    rw [this]
    simp
  | true =>
    obtain ⟨k, rfl⟩ : ∃ m, k = m + 2 := ⟨k - 2, by omega⟩
    rw [assartref05_leads.l0]
    by_cases h : (0 : Int) < (it.length : Int)
    · rw [if_pos h, assartref05_leads.j1, if_neg (by simp)]; rfl
    · rw [if_neg h, assartref05_leads.j1, if_neg (by simp)]; rfl
theorem busy_free (x : S55) (h : 0 ≤ x.f0) : (decide (x.f0 > 0) || x.f1) = !isFreeB x := by
  unfold isFreeB
  by_cases h0 : x.f0 = 0
  · rw [h0]; simp
  · rw [decide_eq_true (by omega), beq_eq_false_iff_ne.2 h0]; simp
end Go.Proofs.Yteiladccdenpbaa.P
end
section
namespace Go.Proofs.Yteiladccdenpbaa.P
open Go.RowKit Go.Proofs.YteiladccdenpbaaW.PrintWords Go.Proofs.YteiladccdenpbaaW.PrintLast Go.Proofs.YteiladccdenpbaaW.PrintMore
attribute [local go_sem] max2_int min2_int max_two min_two max_three min_three max_four min_four
set_option linter.unusedVariables false
set_option linter.unusedSimpArgs false
def assartref05_set.f (l0_0 : List (S55)) (a0_1 : Int) (a1 : Int) (a2_0 : Int) (a2_1 : Bool) (a2_2 : Bool) (l2_3 : List (S49)) : Option ((List (S55)) × Int) := (some (([] : List (S55)) : List (S55))).bind fun y211 => (if y211.length + l0_0.length < 2932031007402 then ((some (y211 ++ l0_0 : List (S55))).bind fun y214 => (if 0 ≤ a1 then (if a1 < (y214.length : Int) then (some ((y214.set (a1 : Int).toNat (⟨a2_0, a2_1, (⟨a2_2, l2_3⟩ : S53)⟩ : S55)), a0_1)) else (none)) else (none))) else (none))
set_option maxHeartbeats 8000000 in
set_option maxRecDepth 100000 in
theorem assartref05_set.calls (P0_0_ : Nat → Prop) (A0_0 : Option Addr) (c0_0 : Nat) (l0_0 : List (S55)) (a0_1 : Int) (a1 : Int) (a2_0 : Int) (a2_1 : Bool) (a2_2 : Bool) (P2_3_ : Nat → Prop) (A2_3 : Option Addr) (c2_3 : Nat) (l2_3 : List (S49)) (r1 : List (S55)) (r2 : Int) (w : World) (hs0_0 : Kd.V k55 55 w w.heap.size (fun k_ => P0_0_ k_) (.slice A0_0 l0_0.length c0_0) l0_0) (hs2_3 : Kd.V k49 49 w w.heap.size (fun k_ => P2_3_ k_) (.slice A2_3 l2_3.length c2_3) l2_3) (h : assartref05_set.f l0_0 a0_1 a1 a2_0 a2_1 a2_2 l2_3 = some (r1, r2)) :
  Calls Try.prog 80 #[.agg #[.slice A0_0 l0_0.length c0_0, .int .i64 a0_1], .int .i64 a1, .agg #[.int .i64 a2_0, .bool a2_1, .bool a2_2, .slice A2_3 l2_3.length c2_3]] w fun e w' => ∃ v0_ : Value, e = .returned (.agg #[v0_, .int .i64 r2]) ∧ Kd.N k55 55 w' w.heap.size (fun k_ => ((P0_0_ k_ ∨ P2_3_ k_) ∨ w.heap.size ≤ k_)) v0_ r1 ∧ Below w.heap.size w w' := by
 have hu24 := Try.underlying24
 have hu55 := Try.underlying55
 have HO0_0 := Aside0.mk (show Kd.V k55 55 w w.heap.size (fun k_ => ((P0_0_ k_ ∨ P2_3_ k_) ∨ w.heap.size ≤ k_)) (.slice A0_0 l0_0.length c0_0) l0_0 from Kd.V_mono hs0_0 (fun k_ hk => .inl (.inl hk)))
 have HO2_3 := Aside0.mk (show Kd.V k49 49 w w.heap.size (fun k_ => ((P0_0_ k_ ∨ P2_3_ k_) ∨ w.heap.size ≤ k_)) (.slice A2_3 l2_3.length c2_3) l2_3 from Kd.V_mono hs2_3 (fun k_ hk => .inl (.inr hk)))
 have HB := Aside0.mk (Below.refl w.heap.size w)
 have H : ((some (([] : List (S55)) : List (S55))).bind fun y211 => (if y211.length + l0_0.length < 2932031007402 then ((some (y211 ++ l0_0 : List (S55))).bind fun y214 => (if 0 ≤ a1 then (if a1 < (y214.length : Int) then (some ((y214.set (a1 : Int).toNat (⟨a2_0, a2_1, (⟨a2_2, l2_3⟩ : S53)⟩ : S55)), a0_1)) else (none)) else (none))) else (none))) = some (r1, r2) := h
 clear h
 obtain ⟨y211, hy211⟩ : ∃ y_ : List (S55), y_ = (([] : List (S55))) := ⟨_, rfl⟩
 replace H : (if y211.length + l0_0.length < 2932031007402 then ((some (y211 ++ l0_0 : List (S55))).bind fun y214 => (if 0 ≤ a1 then (if a1 < (y214.length : Int) then (some ((y214.set (a1 : Int).toNat (⟨a2_0, a2_1, (⟨a2_2, l2_3⟩ : S53)⟩ : S55)), a0_1)) else (none)) else (none))) else (none)) = some (r1, r2) := by first | (rw [hy211]; with_reducible exact H) | (have H2_ := (Option.bind_some _ _).symm.trans H; rw [hy211]; with_reducible exact H2_) | (have H2_ := (Option.bind_some _ _).symm.trans H; with_reducible exact H2_) | with_reducible exact H | (rw [hy211]; exact H) | exact H
 have Ny211 := Aside0.mk hy211
 clear hy211
 by_cases c4 : y211.length + l0_0.length < 2932031007402
 ·rw [if_pos c4] at H
  have LMc4 := Aside0.mk c4
  clear c4
  obtain ⟨y214, hy214⟩ : ∃ y_ : List (S55), y_ = (y211 ++ l0_0) := ⟨_, rfl⟩
  replace H : (if 0 ≤ a1 then (if a1 < (y214.length : Int) then (some ((y214.set (a1 : Int).toNat (⟨a2_0, a2_1, (⟨a2_2, l2_3⟩ : S53)⟩ : S55)), a0_1)) else (none)) else (none)) = some (r1, r2) := by first | (rw [hy214]; with_reducible exact H) | (have H2_ := (Option.bind_some _ _).symm.trans H; rw [hy214]; with_reducible exact H2_) | (have H2_ := (Option.bind_some _ _).symm.trans H; with_reducible exact H2_) | with_reducible exact H | (rw [hy214]; exact H) | exact H
  have Ny214 := Aside0.mk hy214
  clear hy214
  by_cases c5 : 0 ≤ a1
  ·rw [if_pos c5] at H
   have c5b0 : decide (0 ≤ a1) = true := decide_eq_true c5
   clear c5
   by_cases c6 : a1 < (y214.length : Int)
   ·rw [if_pos c6] at H
    have c6b0 : decide (a1 < (y214.length : Int)) = true := decide_eq_true c6
    clear c6
    obtain ⟨y217, hy217⟩ : ∃ y_ : List (S55), y_ = (y214.set (a1 : Int).toNat (⟨a2_0, a2_1, (⟨a2_2, l2_3⟩ : S53)⟩ : S55)) := ⟨_, rfl⟩
    replace H : (some (y217, a0_1)) = some (r1, r2) := by first | (rw [hy217]; with_reducible exact H) | (have H2_ := (Option.bind_some _ _).symm.trans H; rw [hy217]; with_reducible exact H2_) | (have H2_ := (Option.bind_some _ _).symm.trans H; with_reducible exact H2_) | with_reducible exact H | (rw [hy217]; exact H) | exact H
    have Ny217 := Aside0.mk hy217
    clear hy217
    simp only [Option.some.injEq, Prod.mk.injEq] at H
    obtain ⟨rfl, rfl⟩ := H
    go_enter Try.func80, Try.ntmps80
    go_wp2_with (first | ((with_reducible refine gate_dst (N := 3) rfl ?_); refine box_event ?hg (N := 3) ?hd (cs := #[.slice A0_0 l0_0.length c0_0, .int .i64 a0_1]) (t := 24) ?hr ?_; (case hd => rfl); (case hg => rfl); (case hr => first | (go_simp; done) | (go_simp; rfl)); intro gb208 hg w8 hbox hb; have n0_ := Aside0.mk (Kd.V_below (Kd.V_elderB (by (with_reducible repeat (first | apply Kd.V_alloc | apply Kd.V_drewN | apply Kd.V_drew)); exact HO0_0.out) gb208 (Nat.le_of_eq hg.symm)) hb); have n1_ := Aside0.mk (Kd.V_below (Kd.V_elderB (by (with_reducible repeat (first | apply Kd.V_alloc | apply Kd.V_drewN | apply Kd.V_drew)); exact HO2_3.out) gb208 (Nat.le_of_eq hg.symm)) hb); have n2_ := Aside0.mk (below_step (by repeat (first | (with_reducible first | exact HB.out | apply below_alloc | apply pw_below_drewN | apply below_drew1) | exact HB.out)) hb); have n3_ := Aside0.mk (hbox); have n4_ := Aside0.mk ((by rw [hg]; exact (below_size (by repeat (first | (with_reducible first | exact HB.out | apply below_alloc | apply pw_below_drewN | apply below_drew1) | exact HB.out))) : w.heap.size ≤ gb208)); have n5_ := Aside0.mk ((by rw [hg]; exact (below_size (by repeat (first | (with_reducible first | exact HB.out | apply below_alloc | apply pw_below_drewN | apply below_drew1) | exact HB.out))) : w.heap.size ≤ gb208)); clear HO0_0; clear HO2_3; clear HB; have HO0_0 := n0_; have HO2_3 := n1_; have HB := n2_; have BK208 := n3_; have GW208 := n4_; have GE208 := n5_; clear n0_ n1_ n2_ n3_ n4_ n5_; clear hb hbox hg) | ((with_reducible refine gate_dst (N := 5) rfl ?_); refine box_event ?hg (N := 5) ?hd (cs := #[.int .i64 a2_0, .bool a2_1, .bool a2_2, .slice A2_3 l2_3.length c2_3]) (t := 55) ?hr ?_; (case hd => rfl); (case hg => rfl); (case hr => first | (go_simp; done) | (go_simp; rfl)); intro gb209 hg w9 hbox hb; have n0_ := Aside0.mk (Kd.V_below (Kd.V_elderB (by (with_reducible repeat (first | apply Kd.V_alloc | apply Kd.V_drewN | apply Kd.V_drew)); exact HO0_0.out) gb209 (Nat.le_of_eq hg.symm)) hb); have n1_ := Aside0.mk (Kd.V_below (Kd.V_elderB (by (with_reducible repeat (first | apply Kd.V_alloc | apply Kd.V_drewN | apply Kd.V_drew)); exact HO2_3.out) gb209 (Nat.le_of_eq hg.symm)) hb); have n2_ := Aside0.mk (blk_below (g := gb208) (o := .cells #[.slice A0_0 l0_0.length c0_0, .int .i64 a0_1] 24 (0, 0)) (by (with_reducible repeat (first | refine blk_drewN ?_ _ | refine blk_drew ?_ | refine blk_alloc ?_ _)); exact BK208.out) hb); have n3_ := Aside0.mk (below_step (by repeat (first | (with_reducible first | exact HB.out | apply below_alloc | apply pw_below_drewN | apply below_drew1 | refine below_set ?_ GE208.out) | exact HB.out)) hb); have n4_ := Aside0.mk (hbox); have n5_ := Aside0.mk ((by rw [hg]; exact (below_size (by repeat (first | (with_reducible first | exact HB.out | apply below_alloc | apply pw_below_drewN | apply below_drew1 | refine below_set ?_ GE208.out) | exact HB.out))) : w.heap.size ≤ gb209)); have n6_ := Aside0.mk ((by rw [hg]; exact (below_size (by repeat (first | (with_reducible first | exact HB.out | apply below_alloc | apply pw_below_drewN | apply below_drew1 | refine below_set ?_ GE208.out) | exact HB.out))) : w.heap.size ≤ gb209)); have n7_ := Aside0.mk ((by rw [hg]; exact Nat.ne_of_lt (blk_lt (g := gb208) (o := .cells #[.slice A0_0 l0_0.length c0_0, .int .i64 a0_1] 24 (0, 0)) (by (with_reducible repeat (first | refine blk_drewN ?_ _ | refine blk_drew ?_ | refine blk_alloc ?_ _)); exact BK208.out)) : gb208 ≠ gb209)); have n8_ := Aside0.mk ((by rw [hg]; exact Nat.ne_of_gt (blk_lt (g := gb208) (o := .cells #[.slice A0_0 l0_0.length c0_0, .int .i64 a0_1] 24 (0, 0)) (by (with_reducible repeat (first | refine blk_drewN ?_ _ | refine blk_drew ?_ | refine blk_alloc ?_ _)); exact BK208.out)) : gb209 ≠ gb208)); clear HO0_0; clear HO2_3; clear BK208; clear HB; have HO0_0 := n0_; have HO2_3 := n1_; have BK208 := n2_; have HB := n3_; have BK209 := n4_; have GW209 := n5_; have GE209 := n6_; have NB208_209 := n7_; have NB209_208 := n8_; clear n0_ n1_ n2_ n3_ n4_ n5_ n6_ n7_ n8_; clear hb hbox hg) | ((with_reducible refine gate_dst (N := 6) rfl ?_); refine box_event ?hg (N := 6) ?hd (cs := #[.slice none 0 0, .int .i64 0]) (t := 24) ?hr ?_; (case hd => rfl); (case hg => rfl); (case hr => first | (go_simp; done) | (go_simp; rfl)); intro gb210 hg w10 hbox hb; have n0_ := Aside0.mk (Kd.V_below (Kd.V_elderB (by (with_reducible repeat (first | apply Kd.V_alloc | apply Kd.V_drewN | apply Kd.V_drew)); exact HO0_0.out) gb210 (Nat.le_of_eq hg.symm)) hb); have n1_ := Aside0.mk (Kd.V_below (Kd.V_elderB (by (with_reducible repeat (first | apply Kd.V_alloc | apply Kd.V_drewN | apply Kd.V_drew)); exact HO2_3.out) gb210 (Nat.le_of_eq hg.symm)) hb); have n2_ := Aside0.mk (blk_below (g := gb208) (o := .cells #[.slice A0_0 l0_0.length c0_0, .int .i64 a0_1] 24 (0, 0)) (by (with_reducible repeat (first | refine blk_drewN ?_ _ | refine blk_drew ?_ | refine blk_alloc ?_ _)); exact BK208.out) hb); have n3_ := Aside0.mk (blk_below (g := gb209) (o := .cells #[.int .i64 a2_0, .bool a2_1, .bool a2_2, .slice A2_3 l2_3.length c2_3] 55 (0, 0)) (by (with_reducible repeat (first | refine blk_drewN ?_ _ | refine blk_drew ?_ | refine blk_alloc ?_ _)); exact BK209.out) hb); have n4_ := Aside0.mk (below_step (by repeat (first | (with_reducible first | exact HB.out | apply below_alloc | apply pw_below_drewN | apply below_drew1 | refine below_set ?_ GE208.out | refine below_set ?_ GE209.out) | exact HB.out)) hb); have n5_ := Aside0.mk (hbox); have n6_ := Aside0.mk ((by rw [hg]; exact (below_size (by repeat (first | (with_reducible first | exact HB.out | apply below_alloc | apply pw_below_drewN | apply below_drew1 | refine below_set ?_ GE208.out | refine below_set ?_ GE209.out) | exact HB.out))) : w.heap.size ≤ gb210)); have n7_ := Aside0.mk ((by rw [hg]; exact (below_size (by repeat (first | (with_reducible first | exact HB.out | apply below_alloc | apply pw_below_drewN | apply below_drew1 | refine below_set ?_ GE208.out | refine below_set ?_ GE209.out) | exact HB.out))) : w.heap.size ≤ gb210)); have n8_ := Aside0.mk ((by rw [hg]; exact Nat.ne_of_lt (blk_lt (g := gb208) (o := .cells #[.slice A0_0 l0_0.length c0_0, .int .i64 a0_1] 24 (0, 0)) (by (with_reducible repeat (first | refine blk_drewN ?_ _ | refine blk_drew ?_ | refine blk_alloc ?_ _)); exact BK208.out)) : gb208 ≠ gb210)); have n9_ := Aside0.mk ((by rw [hg]; exact Nat.ne_of_gt (blk_lt (g := gb208) (o := .cells #[.slice A0_0 l0_0.length c0_0, .int .i64 a0_1] 24 (0, 0)) (by (with_reducible repeat (first | refine blk_drewN ?_ _ | refine blk_drew ?_ | refine blk_alloc ?_ _)); exact BK208.out)) : gb210 ≠ gb208)); have n10_ := Aside0.mk ((by rw [hg]; exact Nat.ne_of_lt (blk_lt (g := gb209) (o := .cells #[.int .i64 a2_0, .bool a2_1, .bool a2_2, .slice A2_3 l2_3.length c2_3] 55 (0, 0)) (by (with_reducible repeat (first | refine blk_drewN ?_ _ | refine blk_drew ?_ | refine blk_alloc ?_ _)); exact BK209.out)) : gb209 ≠ gb210)); have n11_ := Aside0.mk ((by rw [hg]; exact Nat.ne_of_gt (blk_lt (g := gb209) (o := .cells #[.int .i64 a2_0, .bool a2_1, .bool a2_2, .slice A2_3 l2_3.length c2_3] 55 (0, 0)) (by (with_reducible repeat (first | refine blk_drewN ?_ _ | refine blk_drew ?_ | refine blk_alloc ?_ _)); exact BK209.out)) : gb210 ≠ gb209)); clear HO0_0; clear HO2_3; clear BK208; clear BK209; clear HB; have HO0_0 := n0_; have HO2_3 := n1_; have BK208 := n2_; have BK209 := n3_; have HB := n4_; have BK210 := n5_; have GW210 := n6_; have GE210 := n7_; have NB208_210 := n8_; have NB210_208 := n9_; have NB209_210 := n10_; have NB210_209 := n11_; clear n0_ n1_ n2_ n3_ n4_ n5_ n6_ n7_ n8_ n9_ n10_ n11_; clear hb hbox hg) | ((with_reducible refine gate_dst (N := 8) rfl ?_); refine Kd.N_lit k55 _ 55 ?hg (N' := 8) ?hd (xs := ([] : List (S55))) (inner := []) (ok := (fun k_ => ((P0_0_ k_ ∨ P2_3_ k_) ∨ w.heap.size ≤ k_) ∧ k_ ≠ gb208 ∧ k_ ≠ gb209 ∧ k_ ≠ gb210)) (okp := (fun k_ => ((P0_0_ k_ ∨ P2_3_ k_) ∨ w.heap.size ≤ k_) ∧ k_ ≠ gb208 ∧ k_ ≠ gb209 ∧ k_ ≠ gb210)) ?hr ?hp (fun _ hk => hk) ((show ∀ k_, w10.heap.size ≤ k_ → (fun k_ => ((P0_0_ k_ ∨ P2_3_ k_) ∨ w.heap.size ≤ k_) ∧ k_ ≠ gb208 ∧ k_ ≠ gb209 ∧ k_ ≠ gb210) k_ from fun k_ hk => ⟨(.inr (Nat.le_trans (below_size (by repeat (first | (with_reducible first | exact HB.out | apply below_alloc | apply pw_below_drewN | apply below_drew1 | refine below_set ?_ GE208.out | refine below_set ?_ GE209.out | refine below_set ?_ GE210.out) | exact HB.out))) hk)), Kd.freshB (g := gb208) (o := .cells #[.slice A0_0 l0_0.length c0_0, .int .i64 a0_1] 24 (0, 0)) (by (with_reducible repeat (first | refine blk_drewN ?_ _ | refine blk_drew ?_ | refine blk_alloc ?_ _)); exact BK208.out) k_ hk, Kd.freshB (g := gb209) (o := .cells #[.int .i64 a2_0, .bool a2_1, .bool a2_2, .slice A2_3 l2_3.length c2_3] 55 (0, 0)) (by (with_reducible repeat (first | refine blk_drewN ?_ _ | refine blk_drew ?_ | refine blk_alloc ?_ _)); exact BK209.out) k_ hk, Kd.freshB (g := gb210) (o := .cells #[.slice none 0 0, .int .i64 0] 24 (0, 0)) (by (with_reducible repeat (first | refine blk_drewN ?_ _ | refine blk_drew ?_ | refine blk_alloc ?_ _)); exact BK210.out) k_ hk⟩) _ (Nat.le_refl _)) (Below.refl _ _) (Nat.le_refl _) (by simp) ?_; (case hd => rfl); (case hg => rfl); (case hr => first | (go_simp; done) | (go_simp; rfl)); (case hp => exact (Reps.none _ _)); intro v212 w11 ho12 hb hg_ hnew_; clear hg_ hnew_; (first | rw [← Ny211.out] at ho12 | (simp only [Int.reduceToNat] at ho12; rw [← Ny211.out] at ho12)); have n0_ := Aside0.mk (Kd.V_elder' (by (with_reducible repeat (first | apply Kd.V_alloc | apply Kd.V_drewN | apply Kd.V_drew)); exact HO0_0.out) (Kd.N_base ho12) hb); have n1_ := Aside0.mk (Kd.V_elder' (by (with_reducible repeat (first | apply Kd.V_alloc | apply Kd.V_drewN | apply Kd.V_drew)); exact HO2_3.out) (Kd.N_base ho12) hb); have n2_ := Aside0.mk (Kd.N_lower ho12 (below_size (by repeat (first | (with_reducible first | exact HB.out | apply below_alloc | apply pw_below_drewN | apply below_drew1 | refine below_set ?_ GE208.out | refine below_set ?_ GE209.out | refine below_set ?_ GE210.out) | exact HB.out)))); have n3_ := Aside0.mk (blk_below (g := gb208) (o := .cells #[.slice A0_0 l0_0.length c0_0, .int .i64 a0_1] 24 (0, 0)) (by (with_reducible repeat (first | refine blk_drewN ?_ _ | refine blk_drew ?_ | refine blk_alloc ?_ _)); exact BK208.out) hb); have n4_ := Aside0.mk (blk_below (g := gb209) (o := .cells #[.int .i64 a2_0, .bool a2_1, .bool a2_2, .slice A2_3 l2_3.length c2_3] 55 (0, 0)) (by (with_reducible repeat (first | refine blk_drewN ?_ _ | refine blk_drew ?_ | refine blk_alloc ?_ _)); exact BK209.out) hb); have n5_ := Aside0.mk (blk_below (g := gb210) (o := .cells #[.slice none 0 0, .int .i64 0] 24 (0, 0)) (by (with_reducible repeat (first | refine blk_drewN ?_ _ | refine blk_drew ?_ | refine blk_alloc ?_ _)); exact BK210.out) hb); have n6_ := Aside0.mk (below_step (by repeat (first | (with_reducible first | exact HB.out | apply below_alloc | apply pw_below_drewN | apply below_drew1 | refine below_set ?_ GE208.out | refine below_set ?_ GE209.out | refine below_set ?_ GE210.out) | exact HB.out)) hb); clear HO0_0; clear HO2_3; clear BK208; clear BK209; clear BK210; clear HB; have HO0_0 := n0_; have HO2_3 := n1_; have HO213 := n2_; have BK208 := n3_; have BK209 := n4_; have BK210 := n5_; have HB := n6_; clear n0_ n1_ n2_ n3_ n4_ n5_ n6_; clear hb ho12; have hnb13 := NB208_209.out; have hnc13 := NB209_208.out; have hnb14 := NB208_210.out; have hnc14 := NB210_208.out; have hcz15_0 : w11.cell? ⟨gb208, 0, none⟩ = some (.slice A0_0 l0_0.length c0_0) := (blk_cell BK208.out 0).trans rfl; have hcz15_1 : w11.cell? ⟨gb208, 1, none⟩ = some (.int .i64 a0_1) := (blk_cell BK208.out 1).trans rfl; have hfz15_0 := blk_frozen BK208.out 0; have hfz15_1 := blk_frozen BK208.out 1) | ((with_reducible refine gate_builtin (b := .append) (xs := #[.tmp 8, .tmp 10]) rfl ?_); at_builtin; refine Kd.N_append_rows k55 (w0 := w) w.heap.size rfl (.tmp 8) (.tmp 10) 22 55 (.agg #[(.int .i64 0), (.bool false), (.bool false), (.slice none 0 0)]) 48 rfl Try.underlying22 info55 rfl (by decide) (by omega) v212 y211 l0_0 _ _ _ (fun k_ => ((P0_0_ k_ ∨ P2_3_ k_) ∨ w.heap.size ≤ k_) ∧ k_ ≠ gb208 ∧ k_ ≠ gb209 ∧ k_ ≠ gb210) (fun k_ => ((fun k_ => ((P0_0_ k_ ∨ P2_3_ k_) ∨ w.heap.size ≤ k_) ∧ k_ ≠ gb208 ∧ k_ ≠ gb209 ∧ k_ ≠ gb210)) k_ ∧ some k_ ≠ (v212 : Value).ownBlock) rfl rfl ?aO ?aR (fun _ hk => hk) ?aF ?aB ?aS ?aL ?_; (case aR => exact (by skip; exact Kd.V_F (Kd.V_mono (ok' := (fun k_ => ((fun k_ => ((P0_0_ k_ ∨ P2_3_ k_) ∨ w.heap.size ≤ k_) ∧ k_ ≠ gb208 ∧ k_ ≠ gb209 ∧ k_ ≠ gb210)) k_ ∧ some k_ ≠ (v212 : Value).ownBlock)) (HO0_0.out) (fun k_ hk => ⟨⟨hk.1.1.1.1, ⟨hk.1.1.1.2, ⟨hk.1.1.2, hk.1.2⟩⟩⟩, hk.2⟩)))); (case aB => exact (by repeat (first | (with_reducible first | exact HB.out | apply below_alloc | apply pw_below_drewN | apply below_drew1 | refine below_set ?_ GE208.out | refine below_set ?_ GE209.out | refine below_set ?_ GE210.out) | exact HB.out))); (case aF => exact (fun k_ hk => ⟨(.inr (Nat.le_trans (below_size (by repeat (first | (with_reducible first | exact HB.out | apply below_alloc | apply pw_below_drewN | apply below_drew1 | refine below_set ?_ GE208.out | refine below_set ?_ GE209.out | refine below_set ?_ GE210.out) | exact HB.out))) hk)), Kd.freshB (g := gb208) (o := .cells #[.slice A0_0 l0_0.length c0_0, .int .i64 a0_1] 24 (0, 0)) (by (with_reducible repeat (first | refine blk_drewN ?_ _ | refine blk_drew ?_ | refine blk_alloc ?_ _)); exact BK208.out) k_ hk, Kd.freshB (g := gb209) (o := .cells #[.int .i64 a2_0, .bool a2_1, .bool a2_2, .slice A2_3 l2_3.length c2_3] 55 (0, 0)) (by (with_reducible repeat (first | refine blk_drewN ?_ _ | refine blk_drew ?_ | refine blk_alloc ?_ _)); exact BK209.out) k_ hk, Kd.freshB (g := gb210) (o := .cells #[.slice none 0 0, .int .i64 0] 24 (0, 0)) (by (with_reducible repeat (first | refine blk_drewN ?_ _ | refine blk_drew ?_ | refine blk_alloc ?_ _)); exact BK210.out) k_ hk⟩)); (case aO => exact (by (with_reducible repeat (first | apply Kd.N_alloc | apply Kd.N_drewN | apply Kd.N_drew)); exact HO213.out)); (case aS => exact (below_size (by repeat (first | (with_reducible first | exact HB.out | apply below_alloc | apply pw_below_drewN | apply below_drew1 | refine below_set ?_ GE208.out | refine below_set ?_ GE209.out | refine below_set ?_ GE210.out) | exact HB.out)))); (case aL => have := LMc4.out; omega); intro v215 w16 ho hb hg hat; rw [← Ny214.out] at ho; have n0_ := Aside0.mk (Kd.V_afterv (ok := (fun k_ => ((P0_0_ k_ ∨ P2_3_ k_) ∨ w.heap.size ≤ k_) ∧ k_ ≠ gb208 ∧ k_ ≠ gb209 ∧ k_ ≠ gb210)) (by (with_reducible repeat (first | apply Kd.V_alloc | apply Kd.V_drewN | apply Kd.V_drew)); exact Kd.V_mono HO0_0.out (fun _ hk => ⟨⟨hk.1.1.1.1, ⟨hk.1.1.1.2, ⟨hk.1.1.2, hk.1.2⟩⟩⟩, hk.2⟩)) hg hat); have n1_ := Aside0.mk (Kd.V_afterv (ok := (fun k_ => ((P0_0_ k_ ∨ P2_3_ k_) ∨ w.heap.size ≤ k_) ∧ k_ ≠ gb208 ∧ k_ ≠ gb209 ∧ k_ ≠ gb210)) (by (with_reducible repeat (first | apply Kd.V_alloc | apply Kd.V_drewN | apply Kd.V_drew)); exact Kd.V_mono HO2_3.out (fun _ hk => ⟨⟨hk.1.1.1.1, ⟨hk.1.1.1.2, ⟨hk.1.1.2, hk.1.2⟩⟩⟩, hk.2⟩)) hg hat); have n2_ := Aside0.mk (blk_grown (g := gb208) (o := .cells #[.slice A0_0 l0_0.length c0_0, .int .i64 a0_1] 24 (0, 0)) (by (with_reducible repeat (first | refine blk_drewN ?_ _ | refine blk_drew ?_ | refine blk_alloc ?_ _)); exact BK208.out) hg (Kd.N_ne HO213.out BK208.out (by decide))); have n3_ := Aside0.mk (blk_grown (g := gb209) (o := .cells #[.int .i64 a2_0, .bool a2_1, .bool a2_2, .slice A2_3 l2_3.length c2_3] 55 (0, 0)) (by (with_reducible repeat (first | refine blk_drewN ?_ _ | refine blk_drew ?_ | refine blk_alloc ?_ _)); exact BK209.out) hg (Kd.N_away HO213.out (fun _ hk => hk.2.2.1))); have n4_ := Aside0.mk (blk_grown (g := gb210) (o := .cells #[.slice none 0 0, .int .i64 0] 24 (0, 0)) (by (with_reducible repeat (first | refine blk_drewN ?_ _ | refine blk_drew ?_ | refine blk_alloc ?_ _)); exact BK210.out) hg (Kd.N_ne HO213.out BK210.out (by decide))); have n5_ := Aside0.mk (hb); have n6_ := Aside0.mk (ho); clear HO0_0; clear HO2_3; clear BK208; clear BK209; clear BK210; clear HB; clear HO213; have HO0_0 := n0_; have HO2_3 := n1_; have BK208 := n2_; have BK209 := n3_; have BK210 := n4_; have HB := n5_; have HO216 := n6_; clear n0_ n1_ n2_ n3_ n4_ n5_ n6_; clear ho hb hg hat; have hnb17 := NB209_210.out; have hnc17 := NB210_209.out; have hcz18_0 : w16.cell? ⟨gb209, 0, none⟩ = some (.int .i64 a2_0) := (blk_cell BK209.out 0).trans rfl; have hcz18_1 : w16.cell? ⟨gb209, 1, none⟩ = some (.bool a2_1) := (blk_cell BK209.out 1).trans rfl; have hcz18_2 : w16.cell? ⟨gb209, 2, none⟩ = some (.bool a2_2) := (blk_cell BK209.out 2).trans rfl; have hcz18_3 : w16.cell? ⟨gb209, 3, none⟩ = some (.slice A2_3 l2_3.length c2_3) := (blk_cell BK209.out 3).trans rfl; have hfz18_0 := blk_frozen BK209.out 0; have hfz18_1 := blk_frozen BK209.out 1; have hfz18_2 := blk_frozen BK209.out 2; have hfz18_3 := blk_frozen BK209.out 3; have p7 : 0 ≤ (a1 : Int) := of_decide_eq_true (by first | (with_reducible assumption) | assumption); have q7 : (a1 : Int) < ((y214.length : Int) : Int) := of_decide_eq_true (by first | (with_reducible assumption) | assumption); obtain ⟨go7, co7, eo7, gb7, gl7, cl7, HG7⟩ := Kd.N_form HO216.out (by omega); (first | cases eo7 | (injection eo7 with ea_ en_ ec_; (first | subst ea_ | (injection ea_ with ea_; subst ea_)); subst ec_; clear en_)); have GB7 := Aside0.mk gb7; have GG7 := Aside0.mk HG7; clear gb7 gl7 HG7; obtain ⟨ce7, hcl7, hM7, hcc7, hfr7⟩ := Kd.N_elem HO216.out z55 (a1 : Int) p7 q7; obtain ⟨ua7_3, uc7_3, rfl, ul7_3, ge7_3⟩ := k55_openF hM7; have hx7_0 : w16.cell? ⟨go7, (a1 : Int).toNat * 4, none⟩ = some (.int .i64 ((rd_T55 y214 a1).f0)) := hcc7 0 _ rfl; have hx7_1 : w16.cell? ⟨go7, (a1 : Int).toNat * 4 + 1, none⟩ = some (.bool ((rd_T55 y214 a1).f1)) := hcc7 1 _ rfl; have hx7_2 : w16.cell? ⟨go7, (a1 : Int).toNat * 4 + 2, none⟩ = some (.bool ((rd_T55 y214 a1).f2.f0)) := hcc7 2 _ rfl; have hx7_3 : w16.cell? ⟨go7, (a1 : Int).toNat * 4 + 3, none⟩ = some (.slice ua7_3 ((rd_T55 y214 a1).f2.f1).length uc7_3) := hcc7 3 _ rfl; have hf7_0 : w16.frozen? ⟨go7, (a1 : Int).toNat * 4, none⟩ = false := hfr7 0; have hf7_1 : w16.frozen? ⟨go7, (a1 : Int).toNat * 4 + 1, none⟩ = false := hfr7 1; have hf7_2 : w16.frozen? ⟨go7, (a1 : Int).toNat * 4 + 2, none⟩ = false := hfr7 2; have hf7_3 : w16.frozen? ⟨go7, (a1 : Int).toNat * 4 + 3, none⟩ = false := hfr7 3; clear hcl7 hcc7 hfr7 hM7; replace p7 := eq_true p7; replace q7 := eq_true q7; have HX19 := Aside0.mk (show Kd.N k55 55 w16 w.heap.size (fun k_ => ((P0_0_ k_ ∨ P2_3_ k_) ∨ w.heap.size ≤ k_) ∧ k_ ≠ gb208 ∧ k_ ≠ gb209 ∧ k_ ≠ gb210) (.slice (some ⟨go7, 0, none⟩) y214.length co7) y214 from (by (with_reducible repeat (first | apply Kd.N_alloc | apply Kd.N_drewN | apply Kd.N_drew)); exact HO216.out)); obtain ⟨ce19, hcl19, hM19, hcc19, hfr19⟩ := Kd.N_elem HX19.out z55 (a1 : Int) (of_decide_eq_true (by first | (with_reducible assumption) | assumption)) (by have h_ : (a1 : Int) < ((y214.length : Int) : Int) := of_decide_eq_true (by first | (with_reducible assumption) | assumption); first | exact h_ | (have e_ := (Kd.N_reads' HO216.out).1; omega) | simpa using h_); obtain ⟨ua19_3, uc19_3, rfl, ul19_3, ge19_3⟩ := k55_openF hM19; have HP19 := Kd.N_seg HX19.out (a1 : Int) (of_decide_eq_true (by first | (with_reducible assumption) | assumption)) (by have h_ : (a1 : Int) < ((y214.length : Int) : Int) := of_decide_eq_true (by first | (with_reducible assumption) | assumption); first | exact h_ | (have e_ := (Kd.N_reads' HO216.out).1; omega) | simpa using h_) (seg := [.int .i64 a2_0, .bool a2_1, .bool a2_2, .slice A2_3 l2_3.length c2_3]) (j := 0) hcl19 hcc19 (show 4 ≤ 4 from by decide) (x' := (⟨a2_0, a2_1, (⟨a2_2, l2_3⟩ : S53)⟩ : S55)) (k55_mkF _ _ (⟨a2_0, a2_1, (⟨a2_2, l2_3⟩ : S53)⟩ : S55) (Kd.V_reads' (Kd.V_mono (ok' := (fun k_ => ((fun k_ => ((P0_0_ k_ ∨ P2_3_ k_) ∨ w.heap.size ≤ k_) ∧ k_ ≠ gb208 ∧ k_ ≠ gb209 ∧ k_ ≠ gb210)) k_ ∧ k_ ≠ go7)) (HO2_3.out) (fun k_ hk => ⟨⟨hk.1.1, ⟨hk.1.2.1, ⟨hk.1.2.2.1, hk.1.2.2.2⟩⟩⟩, fun e_ => (hk.2) (by rw [e_]; rfl)⟩))).2.1 (Kd.V_F (Kd.V_mono (ok' := (fun k_ => ((fun k_ => ((P0_0_ k_ ∨ P2_3_ k_) ∨ w.heap.size ≤ k_) ∧ k_ ≠ gb208 ∧ k_ ≠ gb209 ∧ k_ ≠ gb210)) k_ ∧ k_ ≠ go7)) (HO2_3.out) (fun k_ hk => ⟨⟨hk.1.1, ⟨hk.1.2.1, ⟨hk.1.2.2.1, hk.1.2.2.2⟩⟩⟩, fun e_ => (hk.2) (by rw [e_]; rfl)⟩)))) (fun _ hk => hk); have hx19_0 := hcc19 0 _ rfl; (try simp only [show (k55).sz = 4 from rfl, Nat.mul_one, Nat.add_zero] at hx19_0); have hf19_0 := hfr19 0; (try simp only [show (k55).sz = 4 from rfl, Nat.mul_one, Nat.add_zero] at hf19_0); have hx19_1 := hcc19 1 _ rfl; (try simp only [show (k55).sz = 4 from rfl, Nat.mul_one, Nat.add_zero] at hx19_1); have hf19_1 := hfr19 1; (try simp only [show (k55).sz = 4 from rfl, Nat.mul_one, Nat.add_zero] at hf19_1); have hx19_2 := hcc19 2 _ rfl; (try simp only [show (k55).sz = 4 from rfl, Nat.mul_one, Nat.add_zero] at hx19_2); have hf19_2 := hfr19 2; (try simp only [show (k55).sz = 4 from rfl, Nat.mul_one, Nat.add_zero] at hf19_2); have hx19_3 := hcc19 3 _ rfl; (try simp only [show (k55).sz = 4 from rfl, Nat.mul_one, Nat.add_zero] at hx19_3); have hf19_3 := hfr19 3; (try simp only [show (k55).sz = 4 from rfl, Nat.mul_one, Nat.add_zero] at hf19_3); clear hcl19 hcc19 hfr19 hM19) | ((with_reducible refine gate_store (t := 55) (p := 15) rfl ?_); refine store_event (t := 55) (p := 15) (v := ?vo_w20) (w1 := ((((w16.setCell ⟨go7, (a1 : Int).toNat * 4, none⟩ (.int .i64 a2_0)).setCell ⟨go7, (a1 : Int).toNat * 4 + 1, none⟩ (.bool a2_1)).setCell ⟨go7, (a1 : Int).toNat * 4 + 2, none⟩ (.bool a2_2)).setCell ⟨go7, (a1 : Int).toNat * 4 + 3, none⟩ (.slice A2_3 l2_3.length c2_3))) ?hg ?ho ?hn ?hr ?_; (case ho => rfl); (case hg => rfl); (case hn => rfl); (case hr => first | (go_simp; done) | (go_simp; rfl)); intro w20 hw; have hg : w16.grownBy w20 (some go7) := (by rw [hw]; exact HP19.2); have hp_ : Kd.N k55 55 w20 w.heap.size (fun k_ => ((P0_0_ k_ ∨ P2_3_ k_) ∨ w.heap.size ≤ k_) ∧ k_ ≠ gb208 ∧ k_ ≠ gb209 ∧ k_ ≠ gb210) (.slice (some ⟨go7, 0, none⟩) y214.length co7) y217 := (by rw [hw, Ny217.out]; exact HP19.1); clear HP19; have n0_ := Aside0.mk (Kd.V_afterv (v := (.slice (some ⟨go7, 0, none⟩) y214.length co7)) (v1 := (.slice (some ⟨go7, 0, none⟩) y214.length co7)) (ok := (fun k_ => ((P0_0_ k_ ∨ P2_3_ k_) ∨ w.heap.size ≤ k_) ∧ k_ ≠ gb208 ∧ k_ ≠ gb209 ∧ k_ ≠ gb210)) (by (with_reducible repeat (first | apply Kd.V_alloc | apply Kd.V_drewN | apply Kd.V_drew)); exact HO0_0.out) hg (.inl rfl)); have n1_ := Aside0.mk (Kd.V_afterv (v := (.slice (some ⟨go7, 0, none⟩) y214.length co7)) (v1 := (.slice (some ⟨go7, 0, none⟩) y214.length co7)) (ok := (fun k_ => ((P0_0_ k_ ∨ P2_3_ k_) ∨ w.heap.size ≤ k_) ∧ k_ ≠ gb208 ∧ k_ ≠ gb209 ∧ k_ ≠ gb210)) (by (with_reducible repeat (first | apply Kd.V_alloc | apply Kd.V_drewN | apply Kd.V_drew)); exact HO2_3.out) hg (.inl rfl)); have n2_ := Aside0.mk (blk_grown (g := gb208) (o := .cells #[.slice A0_0 l0_0.length c0_0, .int .i64 a0_1] 24 (0, 0)) (by (with_reducible repeat (first | refine blk_drewN ?_ _ | refine blk_drew ?_ | refine blk_alloc ?_ _)); exact BK208.out) hg (Kd.N_ne HO216.out BK208.out (by decide))); have n3_ := Aside0.mk (blk_grown (g := gb209) (o := .cells #[.int .i64 a2_0, .bool a2_1, .bool a2_2, .slice A2_3 l2_3.length c2_3] 55 (0, 0)) (by (with_reducible repeat (first | refine blk_drewN ?_ _ | refine blk_drew ?_ | refine blk_alloc ?_ _)); exact BK209.out) hg (Kd.N_away HO216.out (fun _ hk => hk.2.2.1))); have n4_ := Aside0.mk (blk_grown (g := gb210) (o := .cells #[.slice none 0 0, .int .i64 0] 24 (0, 0)) (by (with_reducible repeat (first | refine blk_drewN ?_ _ | refine blk_drew ?_ | refine blk_alloc ?_ _)); exact BK210.out) hg (Kd.N_ne HO216.out BK210.out (by decide))); have n5_ := Aside0.mk (hp_); have n6_ := Aside0.mk ((by rw [hw]; exact below_set (below_set (below_set (below_set (HB.out) GB7.out) GB7.out) GB7.out) GB7.out : Below w.heap.size w w20)); clear HO0_0; clear HO2_3; clear BK208; clear BK209; clear BK210; clear HO216; clear HB; have HO0_0 := n0_; have HO2_3 := n1_; have BK208 := n2_; have BK209 := n3_; have BK210 := n4_; have HO216 := n5_; have HB := n6_; clear n0_ n1_ n2_ n3_ n4_ n5_ n6_; clear hg hw hp_; have hcz21_0 : w20.cell? ⟨gb208, 0, none⟩ = some (.slice A0_0 l0_0.length c0_0) := (blk_cell BK208.out 0).trans rfl; have hcz21_1 : w20.cell? ⟨gb208, 1, none⟩ = some (.int .i64 a0_1) := (blk_cell BK208.out 1).trans rfl; have hfz21_0 := blk_frozen BK208.out 0; have hfz21_1 := blk_frozen BK208.out 1; have hcz22_0 : w20.cell? ⟨gb210, 0, none⟩ = some (.slice none 0 0) := (blk_cell BK210.out 0).trans rfl; have hcz22_1 : w20.cell? ⟨gb210, 1, none⟩ = some (.int .i64 0) := (blk_cell BK210.out 1).trans rfl; have hfz22_0 := blk_frozen BK210.out 0; have hfz22_1 := blk_frozen BK210.out 1))
    refine bodyPost_ret (results_cell_row rfl _ _ gb210 24 #[.slice (some ⟨go7, 0, none⟩) y214.length co7, .int .i64 a0_1] (0, 0) _ rfl (by (with_reducible repeat (first | refine blk_drewN ?_ _ | refine blk_drew ?_ | refine blk_alloc ?_ _)); refine blk_put (cs := #[.slice (some ⟨go7, 0, none⟩) y214.length co7, .int .i64 0]) ?_ 1 _ rfl; (with_reducible repeat (first | refine blk_drewN ?_ _ | refine blk_drew ?_ | refine blk_alloc ?_ _)); refine blk_put (cs := #[.slice none 0 0, .int .i64 0]) ?_ 0 _ rfl; (with_reducible repeat (first | refine blk_drewN ?_ _ | refine blk_drew ?_ | refine blk_alloc ?_ _)); exact BK210.out) Try.underlying24 rfl (by kernel_rfl)) rfl ?_
    exact ⟨_, by first | rfl | (simp [errW_none, errW_some] <;> rfl) | (simp [*, errW_none, errW_some] <;> rfl), by (with_reducible repeat (first | apply Kd.N_alloc | apply Kd.N_drewN | apply Kd.N_drew)); exact Kd.N_mono (Kd.N_far (p := ⟨gb210, 1, none⟩) (Kd.N_far (p := ⟨gb210, 0, none⟩) (Kd.N_mono HO216.out (fun k_ hk => (⟨hk, hk.2.2.2⟩ : _ ∧ k_ ≠ gb210))) (fun _ hk => hk.2) (.slice (some ⟨go7, 0, none⟩) y214.length co7)) (fun _ hk => hk.2) (.int .i64 a0_1)) (fun _ hk => hk.1.1), by repeat (first | (with_reducible first | exact HB.out | apply below_alloc | apply pw_below_drewN | apply below_drew1 | refine below_set ?_ GE208.out | refine below_set ?_ GE209.out | refine below_set ?_ GE210.out) | exact HB.out)⟩
   ·rw [if_neg c6] at H
    exact absurd H (by simp)
  ·rw [if_neg c5] at H
   exact absurd H (by simp)
 ·rw [if_neg c4] at H
  exact absurd H (by simp)
end Go.Proofs.Yteiladccdenpbaa.P
end
section
namespace Go.Proofs.Yteiladccdenpbaa.P
open Go.RowKit Go.Proofs.YteiladccdenpbaaW.PrintWords Go.Proofs.YteiladccdenpbaaW.PrintLast Go.Proofs.YteiladccdenpbaaW.PrintMore
set_option linter.unusedVariables false
set_option linter.unusedSimpArgs false
theorem atF {w : World} {P : Nat → Prop} {A : Option Addr} {l : List S55} (hC : Kd.F k55 w P A l.length l) (i : Nat) (hi : i < l.length) : ∃ ad A3 c3, A = some ad ∧ w.cell? (ad.add (i * 4)) = some (.int .i64 (rd_T55 l (i : Nat)).f0) ∧ w.cell? ⟨(ad.add (i * 4)).block, (ad.add (i * 4)).off + 1, none⟩ = some (.bool (rd_T55 l (i : Nat)).f1) ∧
    w.cell? ⟨(ad.add (i * 4)).block, (ad.add (i * 4)).off + 2, none⟩ = some (.bool (rd_T55 l (i : Nat)).f2.f0) ∧ w.cell? ⟨(ad.add (i * 4)).block, (ad.add (i * 4)).off + 3, none⟩ = some (.slice A3 (rd_T55 l (i : Nat)).f2.f1.length c3) ∧ (rd_T55 l (i : Nat)).f2.f1.length ≤ c3 ∧ Kd.F k49 w P A3 (rd_T55 l (i : Nat)).f2.f1.length (rd_T55 l (i : Nat)).f2.f1 := by
  obtain ⟨ad, A4, c4, rfl, x0, x1, x2, x3, -⟩ := at_T55 (Kd.F_now hC) (i : Int) (by omega) (by omega)
  obtain ⟨ad', c, e, _, hK, hc0, _⟩ := Kd.F_get hC z55 (i : Int) (by omega) (by omega)
  obtain rfl : ad = ad' := by injection e
  obtain ⟨A3, c3, rfl, l3, g3⟩ := k55_openF hK
  rw [Int.toNat_natCast] at hc0 x0 x1 x2 x3
  have h3 : w.cell? (ad.add (i * 4 + 3)) = some (.slice A3 (rd_T55 l (i : Nat)).f2.f1.length c3) := hc0 3 _ rfl
  have e3 : (⟨(ad.add (i * 4)).block, (ad.add (i * 4)).off + 3, none⟩ : Addr) = ad.add (i * 4 + 3) := by
    rw [← add_sum]
    unfold Addr.add
    simp
  refine ⟨ad, A3, c3, rfl, x0, x1, x2, by rw [e3]; exact h3, l3, g3⟩
theorem set_row (P : Nat → Prop) (A : Option Addr) (c : Nat) (l : List S55) (kp : Int) (q : Nat) (x : S55) (A2 : Option Addr) (c2 : Nat) (w : World) (hs : Kd.V k55 55 w w.heap.size P (.slice A l.length c) l) (hs2 : Kd.V k49 49 w w.heap.size P (.slice A2 x.f2.f1.length c2) x.f2.f1) (hq : q < l.length) (hl : l.length < 1000000) :
    Calls Try.prog 80 #[.agg #[.slice A l.length c, .int .i64 kp], .int .i64 q, .agg #[.int .i64 x.f0, .bool x.f1, .bool x.f2.f0, .slice A2 x.f2.f1.length c2]] w fun e w' => ∃ (A' : Option Addr) (c' : Nat), e = .returned (.agg #[.slice A' (l.set q x).length c', .int .i64 kp]) ∧ Kd.V k55 55 w' w.heap.size (fun k => P k ∨ w.heap.size ≤ k) (.slice A' (l.set q x).length c') (l.set q x) ∧ Below w.heap.size w w' := by
  refine (assartref05_set.calls P A c l kp q x.f0 x.f1 x.f2.f0 P A2 c2 x.f2.f1 (l.set q x) kp w hs hs2 ?_).mono ?_
  · unfold assartref05_set.f
    rw [Option.bind_some, if_pos (by simp; omega), Option.bind_some, List.nil_append, if_pos (by omega), if_pos (by omega), Int.toNat_natCast]
  · rintro e w' ⟨v, rfl, hv, hb⟩
    have hV : Kd.V k55 55 w' w.heap.size (fun k_ => ((P k_ ∨ P k_) ∨ w.heap.size ≤ k_)) v (l.set q x) := Kd.N_V hv
    obtain ⟨A', c', rfl⟩ := Kd.V_slice hV
    exact ⟨A', c', rfl, Kd.V_mono hV (fun k hk => hk.elim (fun h => .inl (h.elim id id)) .inr), hb⟩
set_option maxHeartbeats 8000000 in
set_option maxRecDepth 100000 in
theorem more_walk (P : Nat → Prop) (A : Option Addr) (c : Nat) (l : List S55) (kp : Int) (q : Nat) (w : World) (hs : Kd.V k55 55 w w.heap.size P (.slice A l.length c) l) (hq : q < l.length) (hl : l.length < 1000000) (h0 : 0 ≤ (rd_T55 l (q : Nat)).f0) (h1 : (rd_T55 l (q : Nat)).f0 ≤ 1000000000) :
    Calls Try.prog 79 #[.agg #[.slice A l.length c, .int .i64 kp], .int .i64 q] w fun e w' => ∃ (A' : Option Addr) (c' : Nat), e = .returned (.agg #[.slice A' (heldN l q 1).length c', .int .i64 kp]) ∧ Kd.V k55 55 w' w.heap.size (fun k => P k ∨ w.heap.size ≤ k) (.slice A' (heldN l q 1).length c') (heldN l q 1) ∧ Below w.heap.size w w' := by
  obtain ⟨-, hc, hr⟩ := Kd.V_at hs
  obtain ⟨P', hP, hr'⟩ : ∃ P' : Nat → Prop, (∀ k, P' k → P k ∧ k < w.heap.size) ∧ Kd.F k55 w P' A l.length l := ⟨_, fun _ h => h, Kd.F_bound hr⟩
  obtain ⟨ad, A3, c3, rfl, x0, x1, x2, x3, hl3, hf3⟩ := atF hr' q hq
  obtain ⟨r0, hr0⟩ : ∃ r0, (rd_T55 l (q : Nat)).f0 = r0 := ⟨_, rfl⟩
  obtain ⟨pn, hpn⟩ : ∃ pn, (rd_T55 l (q : Nat)).f1 = pn := ⟨_, rfl⟩
  obtain ⟨nd, hnd⟩ : ∃ nd, (rd_T55 l (q : Nat)).f2 = nd := ⟨_, rfl⟩
  rw [hr0] at x0 h0 h1
  rw [hpn] at x1
  rw [hnd] at x2 x3 hl3 hf3
  obtain ⟨wA, hwA⟩ : ∃ wA, ((w.alloc (.cells #[.slice (some ad) l.length c, .int .i64 kp] 24)).alloc (.cells #[.slice none 0 0, .int .i64 0] 24)).alloc (.cells #[.int .i64 r0, .bool pn, .bool nd.f0, .slice A3 nd.f1.length c3] 55) = wA := ⟨_, rfl⟩
  have hbA : Below w.heap.size w wA := by rw [← hwA]; exact (((Below.refl _ w).alloc (Nat.le_refl _) _).alloc (by simp) _).alloc (by simp; omega) _
  have hsA : wA.heap.size = w.heap.size + 3 := by rw [← hwA]; simp only [World.size_alloc]
  have hxA : wA.heap[w.heap.size]? = some (.cells #[.slice (some ad) l.length c, .int .i64 kp] 24 (0, 0)) := by rw [← hwA]; exact blk_alloc (blk_alloc (alloc_new w _) _) _
  have hyA : wA.heap[w.heap.size + 1]? = some (.cells #[.slice none 0 0, .int .i64 0] 24 (0, 0)) := by
    rw [← hwA]
    have := alloc_new (w.alloc (.cells #[.slice (some ad) l.length c, .int .i64 kp] 24)) (.cells #[.slice none 0 0, .int .i64 0] 24)
    rw [World.size_alloc] at this
    exact blk_alloc this _
  have hzA : wA.heap[w.heap.size + 1 + 1]? = some (.cells #[.int .i64 r0, .bool pn, .bool nd.f0, .slice A3 nd.f1.length c3] 55 (0, 0)) := by
    rw [← hwA]
    have := alloc_new ((w.alloc (.cells #[.slice (some ad) l.length c, .int .i64 kp] 24)).alloc (.cells #[.slice none 0 0, .int .i64 0] 24)) (.cells #[.int .i64 r0, .bool pn, .bool nd.f0, .slice A3 nd.f1.length c3] 55)
    rw [World.size_alloc, World.size_alloc] at this
    exact this
  have b0 : wA.cell? ⟨w.heap.size, 0, none⟩ = some (.slice (some ad) l.length c) := (blk_cell hxA 0).trans rfl
  have b1 : wA.cell? ⟨w.heap.size, 1, none⟩ = some (.int .i64 kp) := (blk_cell hxA 1).trans rfl
  have z0 : wA.cell? ⟨w.heap.size + 1 + 1, 0, none⟩ = some (.int .i64 r0) := (blk_cell hzA 0).trans rfl
  have z1 : wA.cell? ⟨w.heap.size + 1 + 1, 1, none⟩ = some (.bool pn) := (blk_cell hzA 1).trans rfl
  have z2 : wA.cell? ⟨w.heap.size + 1 + 1, 2, none⟩ = some (.bool nd.f0) := (blk_cell hzA 2).trans rfl
  have z3 : wA.cell? ⟨w.heap.size + 1 + 1, 3, none⟩ = some (.slice A3 nd.f1.length c3) := (blk_cell hzA 3).trans rfl
  have HBA := Aside0.mk hbA
  have HSA := Aside0.mk hsA
  have HYA := Aside0.mk hyA
  clear hbA hsA hxA hyA hzA
  have hw : wrap64 (r0 + 1) = r0 + 1 := wadd _ _ h0 h1 (by decide) (by decide)
  have p1 : (q : Int) < (l.length : Int) := by omega
  replace p1 := eq_true p1
  have l0 : (ad.add (q * 4)).block < w.heap.size := World.block_lt_of_cell? w _ x0
  have hu24 := Try.underlying24
  have hu53 := Try.underlying53
  have hu55 := Try.underlying55
  have HS := Aside0.mk hs
  have HF3 := Aside0.mk hf3
  have HR' := Aside0.mk hr'
  have HP := Aside0.mk hP
  have HX := Aside0.mk (show heldN l q 1 = l.set q ⟨r0 + 1, pn, nd⟩ by unfold heldN; rw [hr0, hpn, hnd]; rfl)
  clear hs hr hr' hf3 hP hr0 hpn hnd
  go_enter Try.func79, Try.ntmps79
  go_wp2_with fail
  clear hwA b0 b1 z0 z1 z2 z3 x0 x1 x2 x3 hw l0
  have HC := Aside0.mk hc
  have HL3 := Aside0.mk hl3
  clear hc hl3
  refine (set_row P' (some ad) c l kp q ⟨r0 + 1, pn, nd⟩ A3 c3 wA (V_base (base := 0) (Kd.V_mk HC.out (Kd.F_below HR'.out HBA.out))) (V_base (base := 0) (Kd.V_mk HL3.out (Kd.F_below HF3.out HBA.out))) hq hl).mono ?_
  rintro e w1 ⟨A', c', rfl, hv, hb1⟩
  rw [← HX.out] at hv ⊢
  have hy1 := blk_below HYA.out hb1
  have HB1 := Aside0.mk (HBA.out.trans (hb1.mono HBA.out.size))
  have HY1 := Aside0.mk hy1
  have HV := Aside0.mk hv
  have y0 : w1.cell? ⟨w.heap.size + 1, 0, none⟩ = some (.slice none 0 0) := (blk_cell hy1 0).trans rfl
  have y1 : w1.cell? ⟨w.heap.size + 1, 1, none⟩ = some (.int .i64 0) := (blk_cell hy1 1).trans rfl
  have f0 := blk_frozen hy1 0
  have f1 := blk_frozen hy1 1
  clear hb1 hy1 hv
  go_wp2
  refine bodyPost_ret (results_cell_row rfl _ _ (w.heap.size + 1) 24 #[.slice A' (heldN l q 1).length c', .int .i64 kp] (0, 0) _ rfl (blk_put (cs := #[.slice A' (heldN l q 1).length c', .int .i64 0]) (blk_put (cs := #[.slice none 0 0, .int .i64 0]) HY1.out 0 _ rfl) 1 _ rfl) Try.underlying24 rfl (by kernel_rfl)) rfl ?_
  have hne : ∀ k, (P' k ∨ wA.heap.size ≤ k) → k ≠ w.heap.size + 1 := fun k hk => by
    have := HSA.out
    rcases hk with h | h
    · have := (HP.out k h).2; omega
    · omega
  refine ⟨A', c', rfl, ?_, below_set (below_set HB1.out (by omega)) (by omega)⟩
  refine V_base (Kd.V_mono (Kd.V_far (p := ⟨w.heap.size + 1, 1, none⟩) (Kd.V_far (p := ⟨w.heap.size + 1, 0, none⟩) HV.out hne _) hne _) fun k hk => ?_)
  rcases hk with h | h
  · exact .inl (HP.out k h).1
  · exact .inr (by have := HSA.out; omega)
def refHoldF (l : List S55) (p : Int) : List S55 × Int := if usedB l p = true then (heldN l p.toNat 1, 0) else (l, 4)
set_option maxHeartbeats 8000000 in
set_option maxRecDepth 100000 in
theorem refHold_walk (P : Nat → Prop) (A : Option Addr) (c : Nat) (l : List S55) (kp p : Int) (w : World) (hs : Kd.V k55 55 w w.heap.size P (.slice A l.length c) l) (hl : l.length < 1000000) (hb : ∀ i : Nat, i < l.length → (rd_T55 l (i : Nat)).f0 ≤ 1000000000) :
    Calls Try.prog 47 #[.agg #[.slice A l.length c, .int .i64 kp], .int .i64 p] w fun e w' => ∃ (A' : Option Addr) (c' : Nat), e = .returned (.tuple #[.agg #[.slice A' (refHoldF l p).1.length c', .int .i64 kp], .int .i64 (refHoldF l p).2]) ∧ Kd.V k55 55 w' w.heap.size (fun k => P k ∨ w.heap.size ≤ k) (.slice A' (refHoldF l p).1.length c') (refHoldF l p).1 ∧ Below w.heap.size w w' := by
  obtain ⟨-, hc, hr⟩ := Kd.V_at hs
  obtain ⟨P', hP, hr'⟩ : ∃ P' : Nat → Prop, (∀ k, P' k → P k ∧ k < w.heap.size) ∧ Kd.F k55 w P' A l.length l := ⟨_, fun _ h => h, Kd.F_bound hr⟩
  obtain ⟨wA, hwA⟩ : ∃ wA, (w.alloc (.cells #[.slice A l.length c, .int .i64 kp] 24)).alloc (.cells #[.slice none 0 0, .int .i64 0] 24) = wA := ⟨_, rfl⟩
  have HBA : Aside0 (Below w.heap.size w wA) := ⟨by rw [← hwA]; exact ((Below.refl _ w).alloc (Nat.le_refl _) _).alloc (by simp) _⟩
  have HSA : Aside0 (wA.heap.size = w.heap.size + 2) := ⟨by rw [← hwA]; simp only [World.size_alloc]⟩
  have HXA : Aside0 (wA.heap[w.heap.size]? = some (.cells #[.slice A l.length c, .int .i64 kp] 24 (0, 0))) := ⟨by rw [← hwA]; exact blk_alloc (alloc_new w _) _⟩
  have HYA : Aside0 (wA.heap[w.heap.size + 1]? = some (.cells #[.slice none 0 0, .int .i64 0] 24 (0, 0))) := ⟨by
    rw [← hwA]
    have := alloc_new (w.alloc (.cells #[.slice A l.length c, .int .i64 kp] 24)) (.cells #[.slice none 0 0, .int .i64 0] 24)
    rwa [World.size_alloc] at this⟩
  have HV : Aside0 (Kd.V k55 55 wA 0 P' (.slice A l.length c) l) := ⟨Kd.V_mk hc (Kd.F_below hr' HBA.out)⟩
  have HP := Aside0.mk hP
  have HBD := Aside0.mk hb
  have hu24 := Try.underlying24
  have b0 : wA.cell? ⟨w.heap.size, 0, none⟩ = some (.slice A l.length c) := (blk_cell HXA.out 0).trans rfl
  have b1 : wA.cell? ⟨w.heap.size, 1, none⟩ = some (.int .i64 kp) := (blk_cell HXA.out 1).trans rfl
  clear hs hr hr' hP hc hb
  go_enter Try.func47, Try.ntmps47
  go_wp2_with fail
  clear hwA b0 b1
  refine (assartref05_Used.calls A c l kp p (usedB l p) wA (Kd.V_reads' HV.out).2.2 (Kd.V_reads' HV.out).2.1 (used_val l kp p)).mono ?_
  rintro e w1 ⟨rfl, hb⟩
  have HX1 := Aside0.mk (blk_below HXA.out hb)
  have HY1 := Aside0.mk (blk_below HYA.out hb)
  have HV1 := Aside0.mk (Kd.V_below HV.out hb)
  have HB1 := Aside0.mk (HBA.out.trans (hb.mono HBA.out.size))
  have HS1 : Aside0 (w.heap.size + 2 ≤ w1.heap.size) := ⟨by have := hb.size; have := HSA.out; omega⟩
  clear hb HXA HYA HV HBA
  have b0 : w1.cell? ⟨w.heap.size, 0, none⟩ = some (.slice A l.length c) := (blk_cell HX1.out 0).trans rfl
  have b1 : w1.cell? ⟨w.heap.size, 1, none⟩ = some (.int .i64 kp) := (blk_cell HX1.out 1).trans rfl
  by_cases hu : usedB l p = true
  · rw [hu]
    obtain ⟨q, rfl, hq, h0⟩ := usedB_nat hu
    have HE : Aside0 (refHoldF l (q : Int) = (heldN l q 1, 0)) := ⟨by unfold refHoldF; rw [if_pos hu, Int.toNat_natCast]⟩
    go_wp2_with fail
    clear b0 b1
    refine (more_walk P' A c l kp q w1 (V_base HV1.out) hq hl (Int.le_of_lt h0) (HBD.out q hq)).mono ?_
    rintro e w2 ⟨A', c', rfl, hv, hb⟩
    have hy := blk_below HY1.out hb
    have HY2 := Aside0.mk hy
    have HB2 := Aside0.mk (HB1.out.trans (hb.mono HB1.out.size))
    have HV2 := Aside0.mk hv
    have y0 : w2.cell? ⟨w.heap.size + 1, 0, none⟩ = some (.slice none 0 0) := (blk_cell hy 0).trans rfl
    have y1 : w2.cell? ⟨w.heap.size + 1, 1, none⟩ = some (.int .i64 0) := (blk_cell hy 1).trans rfl
    have f0 := blk_frozen hy 0
    have f1 := blk_frozen hy 1
    clear hy hv hb
    go_wp2
    refine bodyPost_ret (results_ct rfl _ _ (w.heap.size + 1) 24 #[.slice A' (heldN l q 1).length c', .int .i64 kp] (0, 0) _ rfl (blk_put (cs := #[.slice A' (heldN l q 1).length c', .int .i64 0]) (blk_put (cs := #[.slice none 0 0, .int .i64 0]) HY2.out 0 _ rfl) 1 _ rfl) Try.underlying24 rfl (by kernel_rfl)) rfl ?_
    have hne : ∀ k, (P' k ∨ w1.heap.size ≤ k) → k ≠ w.heap.size + 1 := fun k hk => by
      have := HS1.out
      rcases hk with h | h
      · have := (HP.out k h).2; omega
      · omega
    rw [HE.out]
    refine ⟨A', c', rfl, ?_, below_set (below_set HB2.out (by omega)) (by omega)⟩
    refine V_base (Kd.V_mono (Kd.V_far (p := ⟨w.heap.size + 1, 1, none⟩) (Kd.V_far (p := ⟨w.heap.size + 1, 0, none⟩) HV2.out hne _) hne _) fun k hk => ?_)
    rcases hk with h | h
    · exact .inl (HP.out k h).1
    · exact .inr (by have := HS1.out; omega)
  · have HE : Aside0 (refHoldF l p = (l, 4)) := ⟨by unfold refHoldF; rw [if_neg hu]⟩
    rw [Bool.not_eq_true] at hu
    rw [hu]
    have y0 : w1.cell? ⟨w.heap.size + 1, 0, none⟩ = some (.slice none 0 0) := (blk_cell HY1.out 0).trans rfl
    have y1 : w1.cell? ⟨w.heap.size + 1, 1, none⟩ = some (.int .i64 0) := (blk_cell HY1.out 1).trans rfl
    have f0 := blk_frozen HY1.out 0
    have f1 := blk_frozen HY1.out 1
    go_wp2
    refine bodyPost_ret (results_ct rfl _ _ (w.heap.size + 1) 24 #[.slice A l.length c, .int .i64 kp] (0, 0) _ rfl (blk_put (cs := #[.slice A l.length c, .int .i64 0]) (blk_put (cs := #[.slice none 0 0, .int .i64 0]) HY1.out 0 _ rfl) 1 _ rfl) Try.underlying24 rfl (by kernel_rfl)) rfl ?_
    have hne : ∀ k, P' k → k ≠ w.heap.size + 1 := fun k hk => by have := (HP.out k hk).2; omega
    rw [HE.out]
    refine ⟨A, c, rfl, ?_, below_set (below_set HB1.out (by omega)) (by omega)⟩
    exact V_base (Kd.V_mono (Kd.V_far (p := ⟨w.heap.size + 1, 1, none⟩) (Kd.V_far (p := ⟨w.heap.size + 1, 0, none⟩) HV1.out hne _) hne _) fun k hk => .inl (HP.out k hk).1)
def stT (l : List S55) (j : Nat) : List S55 := (l.take j).map (fun x : S55 => (⟨x.f0, false, x.f2⟩ : S55)) ++ l.drop j
theorem stT_len (l : List S55) (j : Nat) : (stT l j).length = l.length := by unfold stT; simp; omega
theorem stT_step {l : List S55} {j : Nat} (h : j < l.length) : (stT l j).set j ⟨(rd_T55 (stT l j) (j : Nat)).f0, false, (rd_T55 (stT l j) (j : Nat)).f2⟩ = stT l (j + 1) := settle_step l j h
theorem stT_keep {l : List S55} {j : Nat} (h : j < l.length) (hp : (rd_T55 (stT l j) (j : Nat)).f1 = false) : stT l (j + 1) = stT l j := by
  rw [← stT_step h]
  have hl : j < (stT l j).length := by rw [stT_len]; exact h
  have e : (⟨(rd_T55 (stT l j) (j : Nat)).f0, false, (rd_T55 (stT l j) (j : Nat)).f2⟩ : S55) = (stT l j)[j] := by
    rw [← hp, ← rd55_at hl]
  rw [e]
  exact List.set_getElem_self hl
theorem stT_zero (l : List S55) : stT l 0 = l := by unfold stT; simp
theorem stT_end (l : List S55) : stT l l.length = l.map fun x => ⟨x.f0, false, x.f2⟩ := by unfold stT; simp
set_option maxHeartbeats 8000000 in
set_option maxRecDepth 100000 in
theorem refSettle_walk (P : Nat → Prop) (A : Option Addr) (c : Nat) (l : List S55) (kp : Int) (w : World) (hs : Kd.V k55 55 w w.heap.size P (.slice A l.length c) l) (hl : l.length < 1000000) :
    Calls Try.prog 51 #[.agg #[.slice A l.length c, .int .i64 kp]] w fun e w' => ∃ (A' : Option Addr) (c' : Nat), e = .returned (.agg #[.slice A' (stT l l.length).length c', .int .i64 kp]) ∧ Kd.V k55 55 w' w.heap.size (fun k => P k ∨ w.heap.size ≤ k) (.slice A' (stT l l.length).length c') (stT l l.length) ∧ Below w.heap.size w w' := by
  obtain ⟨-, hc, hr⟩ := Kd.V_at hs
  obtain ⟨P', hP, hr'⟩ : ∃ P' : Nat → Prop, (∀ k, P' k → P k ∧ k < w.heap.size) ∧ Kd.F k55 w P' A l.length l := ⟨_, fun _ h => h, Kd.F_bound hr⟩
  obtain ⟨wA, hwA⟩ : ∃ wA, (w.alloc (.cells #[.slice A l.length c, .int .i64 kp] 24)).alloc (.cells #[.slice none 0 0, .int .i64 0] 24) = wA := ⟨_, rfl⟩
  have HBA : Aside0 (Below w.heap.size w wA) := ⟨by rw [← hwA]; exact ((Below.refl _ w).alloc (Nat.le_refl _) _).alloc (by simp) _⟩
  have HXA : Aside0 (wA.heap[w.heap.size]? = some (.cells #[.slice A l.length c, .int .i64 kp] 24 (0, 0))) := ⟨by rw [← hwA]; exact blk_alloc (alloc_new w _) _⟩
  have HYA : Aside0 (wA.heap[w.heap.size + 1]? = some (.cells #[.slice none 0 0, .int .i64 0] 24 (0, 0))) := ⟨by
    rw [← hwA]
    have := alloc_new (w.alloc (.cells #[.slice A l.length c, .int .i64 kp] 24)) (.cells #[.slice none 0 0, .int .i64 0] 24)
    rwa [World.size_alloc] at this⟩
  obtain ⟨Q, hQ⟩ : ∃ Q : Nat → Prop, (fun k => (P' k ∨ w.heap.size ≤ k) ∧ k ≠ w.heap.size ∧ k ≠ w.heap.size + 1) = Q := ⟨_, rfl⟩
  have HQ0 : Aside0 (∀ k, Q k → k ≠ w.heap.size ∧ k ≠ w.heap.size + 1) := ⟨fun k hk => by rw [← hQ] at hk; exact hk.2⟩
  have HQ1 : Aside0 (∀ k, w.heap.size + 2 ≤ k → Q k) := ⟨fun k hk => by rw [← hQ]; exact ⟨.inr (by omega), by omega, by omega⟩⟩
  have HQ2 : Aside0 (∀ k, Q k → P k ∨ w.heap.size ≤ k) := ⟨fun k hk => by rw [← hQ] at hk; exact hk.1.elim (fun h => .inl (hP k h).1) .inr⟩
  have HV : Aside0 (Kd.V k55 55 wA 0 Q (.slice A l.length c) l) := ⟨Kd.V_mk hc (Kd.F_mono (Kd.F_below hr' HBA.out) (fun k hk => by rw [← hQ]; have := (hP k hk).2; exact ⟨.inl hk, by omega, by omega⟩))⟩
  have hu24 := Try.underlying24
  have hu53 := Try.underlying53
  have hu55 := Try.underlying55
  clear hs hr hr' hP hc hQ
  go_enter Try.func51, Try.ntmps51
  go_wp2_with fail
  clear hwA
  go_loopg [3] l.length (fun kx s wr => ∃ (j : Nat) (A' : Option Addr) (c' : Nat), s = .int .i64 j ∧ j ≤ l.length ∧ l.length - j ≤ kx ∧ Aside0 (Below w.heap.size w wr) ∧ Aside0 (wr.heap[w.heap.size]? = some (.cells #[.slice A' (stT l j).length c', .int .i64 kp] 24 (0, 0))) ∧ Aside0 (wr.heap[w.heap.size + 1]? = some (.cells #[.slice none 0 0, .int .i64 0] 24 (0, 0))) ∧ Aside0 (Kd.V k55 55 wr 0 Q (.slice A' (stT l j).length c') (stT l j)))
  case atStart => exact ⟨0, A, c, rfl, Nat.zero_le _, by omega, HBA, ⟨by rw [stT_zero]; exact HXA.out⟩, HYA, ⟨by rw [stT_zero]; exact HV.out⟩⟩
  case round =>
    clear HBA HXA HYA HV
    obtain ⟨j, A', c', rfl, hj, hgk, HBr, HXr, HYr, HVr⟩ := hrel
    have HLN := Aside0.mk (stT_len l j)
    have hl2 : wr.heap.size > w.heap.size + 1 := blk_lt HYr.out
    by_cases hlt : j < l.length
    · have HST := Aside0.mk (stT_step hlt)
      have HKP := Aside0.mk (stT_keep hlt)
      obtain ⟨lj, hlj⟩ : ∃ lj, stT l j = lj := ⟨_, rfl⟩
      rw [hlj] at HLN HST HKP HXr HVr
      have hjl : j < lj.length := by rw [HLN.out]; exact hlt
      obtain ⟨ad, A3, c3, rfl, x0, x1, x2, x3, hl3, hf3⟩ := atF (Kd.V_F HVr.out) j hjl
      obtain ⟨r0, hr0⟩ : ∃ r0, (rd_T55 lj (j : Nat)).f0 = r0 := ⟨_, rfl⟩
      obtain ⟨pn, hpn⟩ : ∃ pn, (rd_T55 lj (j : Nat)).f1 = pn := ⟨_, rfl⟩
      obtain ⟨nd, hnd⟩ : ∃ nd, (rd_T55 lj (j : Nat)).f2 = nd := ⟨_, rfl⟩
      rw [hr0] at x0 HST
      rw [hpn] at x1 HKP
      rw [hnd] at x2 x3 hl3 hf3 HST
      have b0 : wr.cell? ⟨w.heap.size, 0, none⟩ = some (.slice (some ad) lj.length c') := (blk_cell HXr.out 0).trans rfl
      have b1 : wr.cell? ⟨w.heap.size, 1, none⟩ = some (.int .i64 kp) := (blk_cell HXr.out 1).trans rfl
      have p0 : decide ((j : Int) < (lj.length : Int)) = true := decide_eq_true (by omega)
      have p1 : (j : Int) < (lj.length : Int) := by omega
      replace p1 := eq_true p1
      have HF3 := Aside0.mk hf3
      have HL3 := Aside0.mk hl3
      clear hf3 hl3 hr0 hpn hnd hlj
      cases pn with
      | false =>
        have hk := HKP.out rfl
        go_wp2
        go_roundg (l.length - (j + 1))
        case measure => omega
        case rel => exact ⟨j + 1, some ad, c', by simp, by omega, Nat.le_refl _, HBr, ⟨by rw [hk]; exact HXr.out⟩, HYr, ⟨by rw [hk]; exact HVr.out⟩⟩
      | true =>
        obtain ⟨wB, hwB⟩ : ∃ wB, wr.alloc (.cells #[.int .i64 r0, .bool true, .bool nd.f0, .slice A3 nd.f1.length c3] 55) = wB := ⟨_, rfl⟩
        have hbB : Below wr.heap.size wr wB := by rw [← hwB]; exact (Below.refl _ wr).alloc (Nat.le_refl _) _
        have hz : wB.heap[wr.heap.size]? = some (.cells #[.int .i64 r0, .bool true, .bool nd.f0, .slice A3 nd.f1.length c3] 55 (0, 0)) := by rw [← hwB]; exact alloc_new wr _
        have z0 : wB.cell? ⟨wr.heap.size, 0, none⟩ = some (.int .i64 r0) := (blk_cell hz 0).trans rfl
        have z2 : wB.cell? ⟨wr.heap.size, 2, none⟩ = some (.bool nd.f0) := (blk_cell hz 2).trans rfl
        have z3 : wB.cell? ⟨wr.heap.size, 3, none⟩ = some (.slice A3 nd.f1.length c3) := (blk_cell hz 3).trans rfl
        have HXB := Aside0.mk (blk_below HXr.out hbB)
        have HYB := Aside0.mk (blk_below HYr.out hbB)
        have HBB := Aside0.mk (HBr.out.trans (hbB.mono HBr.out.size))
        have HVB := Aside0.mk (Kd.V_below HVr.out hbB)
        have HFB := Aside0.mk (Kd.F_below HF3.out hbB)
        have HSB : Aside0 (w.heap.size + 2 ≤ wB.heap.size) := ⟨by have := hbB.size; omega⟩
        have e0 : wB.cell? ⟨w.heap.size, 0, none⟩ = some (.slice (some ad) lj.length c') := (blk_cell HXB.out 0).trans rfl
        have e1 : wB.cell? ⟨w.heap.size, 1, none⟩ = some (.int .i64 kp) := (blk_cell HXB.out 1).trans rfl
        clear hbB hz
        go_wp2_with fail
        clear hwB z0 z2 z3 e0 e1 b0 b1 x0 x1 x2 x3 p0
        refine (set_row Q (some ad) c' lj kp j ⟨r0, false, nd⟩ A3 c3 wB (V_base HVB.out) (V_base (base := 0) (Kd.V_mk HL3.out HFB.out)) hjl (by have := HLN.out; omega)).mono ?_
        rintro e w1 ⟨A4, c4, rfl, hv, hb⟩
        rw [HST.out] at hv ⊢
        have HX1 := Aside0.mk (blk_below HXB.out hb)
        have HY1 := Aside0.mk (blk_below HYB.out hb)
        have HB1 := Aside0.mk (HBB.out.trans (hb.mono HBB.out.size))
        have HV1 : Aside0 (Kd.V k55 55 w1 0 Q (.slice A4 (stT l (j + 1)).length c4) (stT l (j + 1))) := ⟨V_base (Kd.V_mono hv (fun k hk => hk.elim id (fun h => HQ1.out k (Nat.le_trans HSB.out h))))⟩
        have b0 : w1.cell? ⟨w.heap.size, 0, none⟩ = some (.slice (some ad) lj.length c') := (blk_cell HX1.out 0).trans rfl
        have b1 : w1.cell? ⟨w.heap.size, 1, none⟩ = some (.int .i64 kp) := (blk_cell HX1.out 1).trans rfl
        have f0 := blk_frozen HX1.out 0
        have f1 := blk_frozen HX1.out 1
        clear hb hv
        go_wp2
        go_roundg (l.length - (j + 1))
        case measure => omega
        case rel =>
          refine ⟨j + 1, A4, c4, by simp, by omega, Nat.le_refl _, ⟨below_set (below_set HB1.out (Nat.le_refl _)) (Nat.le_refl _)⟩, ⟨blk_put (blk_put HX1.out 0 _ rfl) 1 _ rfl⟩, ⟨blk_far (blk_far HY1.out (p := ⟨w.heap.size, 0, none⟩) (by simp) _) (p := ⟨w.heap.size, 1, none⟩) (by simp) _⟩, ⟨Kd.V_far (p := ⟨w.heap.size, 1, none⟩) (Kd.V_far (p := ⟨w.heap.size, 0, none⟩) HV1.out (fun k hk => (HQ0.out k hk).1) _) (fun k hk => (HQ0.out k hk).1) _⟩⟩
    · obtain rfl : j = l.length := by omega
      have b0 : wr.cell? ⟨w.heap.size, 0, none⟩ = some (.slice A' (stT l l.length).length c') := (blk_cell HXr.out 0).trans rfl
      have b1 : wr.cell? ⟨w.heap.size, 1, none⟩ = some (.int .i64 kp) := (blk_cell HXr.out 1).trans rfl
      have p0 : decide ((l.length : Int) < ((stT l l.length).length : Int)) = false := decide_eq_false (by rw [HLN.out]; omega)
      have p2 : (l.length < (stT l l.length).length) = False := eq_false (by rw [HLN.out]; omega)
      have y0 : wr.cell? ⟨w.heap.size + 1, 0, none⟩ = some (.slice none 0 0) := (blk_cell HYr.out 0).trans rfl
      have y1 : wr.cell? ⟨w.heap.size + 1, 1, none⟩ = some (.int .i64 0) := (blk_cell HYr.out 1).trans rfl
      have f0 := blk_frozen HYr.out 0
      have f1 := blk_frozen HYr.out 1
      go_wp2
      refine bodyPost_ret (results_cell_row rfl _ _ (w.heap.size + 1) 24 #[.slice A' (stT l l.length).length c', .int .i64 kp] (0, 0) _ rfl (blk_put (cs := #[.slice A' (stT l l.length).length c', .int .i64 0]) (blk_put (cs := #[.slice none 0 0, .int .i64 0]) HYr.out 0 _ rfl) 1 _ rfl) Try.underlying24 rfl (by kernel_rfl)) rfl ?_
      refine ⟨A', c', rfl, ?_, below_set (below_set HBr.out (by omega)) (by omega)⟩
      exact V_base (Kd.V_mono (Kd.V_far (p := ⟨w.heap.size + 1, 1, none⟩) (Kd.V_far (p := ⟨w.heap.size + 1, 0, none⟩) HVr.out (fun k hk => (HQ0.out k hk).2) _) (fun k hk => (HQ0.out k hk).2) _) (fun k hk => HQ2.out k hk))
end Go.Proofs.Yteiladccdenpbaa.P
end
section
namespace Go.Proofs.Yteiladccdenpbaa.P
open Go.RowKit Go.Proofs.YteiladccdenpbaaW.PrintWords Go.Proofs.YteiladccdenpbaaW.PrintLast Go.Proofs.YteiladccdenpbaaW.PrintMore
attribute [local go_sem] max2_int min2_int max_two min_two max_three min_three max_four min_four
set_option linter.unusedVariables false
set_option linter.unusedSimpArgs false
mutual
def assartref05_Loose.l0 : Nat → Int → List (S55) → Int → Int → Bool → Bool → List (S49) → Option ((List (S55)) × Int × Int)
 | 0, _, _, _, _, _, _, _ => none
 | k + 1, x8, x253000, x253001, x257000, x257001, x257002, x257003 => if x8 < (x257003.length : Int) then (if x257002 = true then (some (x253000, x253001, 0)) else (if 0 ≤ x8 then ((assartref05_Loose.f k x253000 x253001 ((rd_T49 x257003 x8).f1)).bind fun bt266 => (assartref05_Loose.l0 k (wrap64 (x8 + 1)) bt266.1 bt266.2.1 x257000 x257001 x257002 x257003)) else (none))) else (some (x253000, x253001, 0))
def assartref05_Loose.f : Nat → List (S55) → Int → Int → Option ((List (S55)) × Int × Int)
 | 0, _, _, _ => none
 | k + 1, l0_0, a0_1, a1 => (assartref05_Used.f l0_0 a0_1 a1).bind fun t254 => (if t254 = true then (if 0 ≤ a1 then (if a1 < (l0_0.length : Int) then (if ((rd_T55 l0_0 a1).f0) > 1 then ((assartref05_set.f l0_0 a0_1 a1 (wrap64 (((rd_T55 l0_0 a1).f0) - 1)) false ((rd_T55 l0_0 a1).f2.f0) ((rd_T55 l0_0 a1).f2.f1)).bind fun bt257 => (some (bt257.1, bt257.2, 0))) else ((assartref05_set.f l0_0 a0_1 a1 0 true false ([] : List (S49))).bind fun bt261 => (assartref05_Loose.l0 k 0 bt261.1 bt261.2 ((rd_T55 l0_0 a1).f0) ((rd_T55 l0_0 a1).f1) ((rd_T55 l0_0 a1).f2.f0) ((rd_T55 l0_0 a1).f2.f1)))) else (none)) else (none)) else (some (l0_0, a0_1, 4)))
end
def assartref05_Loose.T11 : Bool × List (List Nat × List Nat) := (true, [([], []), ([], []), ([1], [1]), ([2], [2]), ([], []), ([3, 4], [3, 4]), ([5], [5]), ([6], [6]), ([0, 7], [0, 7]), ([8], [8]), ([9], [9]), ([9], [9]), ([], []), ([12, 10, 8, 0, 1, 2, 3, 4, 5, 6, 7, 8, 9, 10, 12], [10, 12]), ([11, 13, 0, 1, 2, 3, 4, 5, 6, 7, 8, 9, 10, 11, 12, 13], [11])])
def assartref05_Loose.B11 : List Nat := [0, 0, 2, 6, 0, 30, 62, 126, 255, 511, 1023, 1023, 0, 6143, 16383]
theorem assartref05_Loose.tab11 : rtab .any (opsOf Try.f49 11) = assartref05_Loose.T11 := by kernel_rfl
theorem assartref05_Loose.bits11 : waitsOk assartref05_Loose.T11.2 assartref05_Loose.B11 = true := by kernel_rfl
set_option maxHeartbeats 8000000 in
set_option maxRecDepth 100000 in
theorem assartref05_Loose.calls (k : Nat) : ∀ (P0_0_ : Nat → Prop) (A0_0 : Option Addr) (c0_0 : Nat) (l0_0 : List (S55)) (a0_1 : Int) (a1 : Int) (r1 : List (S55)) (r2 : Int) (r3 : Int) (w : World) (hs0_0 : Kd.V k55 55 w w.heap.size (fun k_ => P0_0_ k_) (.slice A0_0 l0_0.length c0_0) l0_0) (h : assartref05_Loose.f k l0_0 a0_1 a1 = some (r1, r2, r3)),
  Calls Try.prog 49 #[.agg #[.slice A0_0 l0_0.length c0_0, .int .i64 a0_1], .int .i64 a1] w fun e w' => ∃ v0_ : Value, e = .returned (.tuple #[.agg #[v0_, .int .i64 r2], .int .i64 r3]) ∧ Kd.V k55 55 w' w.heap.size (fun k_ => (P0_0_ k_ ∨ w.heap.size ≤ k_)) v0_ r1 ∧ Below w.heap.size w w' := by
 induction k using Nat.strongRecOn with
 | _ k ih =>
 intro P0_0_ A0_0 c0_0 l0_0 a0_1 a1 r1 r2 r3 w hs0_0 h
 cases k with
 | zero => exact absurd h (by simp [assartref05_Loose.f])
 | succ k =>
 simp only [assartref05_Loose.f] at h
 have hu24 := Try.underlying24
 have hu55 := Try.underlying55
 have hu53 := Try.underlying53
 have HO0_0 := Aside0.mk (show Kd.V k55 55 w w.heap.size (fun k_ => (P0_0_ k_ ∨ w.heap.size ≤ k_)) (.slice A0_0 l0_0.length c0_0) l0_0 from Kd.V_mono hs0_0 (fun k_ hk => .inl hk))
 have HB := Aside0.mk (Below.refl w.heap.size w)
 have H : ((assartref05_Used.f l0_0 a0_1 a1).bind fun t254 => (if t254 = true then (if 0 ≤ a1 then (if a1 < (l0_0.length : Int) then (if ((rd_T55 l0_0 a1).f0) > 1 then ((assartref05_set.f l0_0 a0_1 a1 (wrap64 (((rd_T55 l0_0 a1).f0) - 1)) false ((rd_T55 l0_0 a1).f2.f0) ((rd_T55 l0_0 a1).f2.f1)).bind fun bt257 => (some (bt257.1, bt257.2, 0))) else ((assartref05_set.f l0_0 a0_1 a1 0 true false ([] : List (S49))).bind fun bt261 => (assartref05_Loose.l0 k 0 bt261.1 bt261.2 ((rd_T55 l0_0 a1).f0) ((rd_T55 l0_0 a1).f1) ((rd_T55 l0_0 a1).f2.f0) ((rd_T55 l0_0 a1).f2.f1)))) else (none)) else (none)) else (some (l0_0, a0_1, 4)))) = some (r1, r2, r3) := h
 clear h
 replace H := Option.bind_eq_some_iff.mp H
 obtain ⟨t254, A30, H⟩ := H
 replace H : (if t254 = true then (if 0 ≤ a1 then (if a1 < (l0_0.length : Int) then (if ((rd_T55 l0_0 a1).f0) > 1 then ((assartref05_set.f l0_0 a0_1 a1 (wrap64 (((rd_T55 l0_0 a1).f0) - 1)) false ((rd_T55 l0_0 a1).f2.f0) ((rd_T55 l0_0 a1).f2.f1)).bind fun bt257 => (some (bt257.1, bt257.2, 0))) else ((assartref05_set.f l0_0 a0_1 a1 0 true false ([] : List (S49))).bind fun bt261 => (assartref05_Loose.l0 k 0 bt261.1 bt261.2 ((rd_T55 l0_0 a1).f0) ((rd_T55 l0_0 a1).f1) ((rd_T55 l0_0 a1).f2.f0) ((rd_T55 l0_0 a1).f2.f1)))) else (none)) else (none)) else (some (l0_0, a0_1, 4))) = some (r1, r2, r3) := H
 have A3 := Aside0.mk A30
 clear A30
 by_cases c4 : t254 = true
 ·subst c4
  have H1 : (if 0 ≤ a1 then (if a1 < (l0_0.length : Int) then (if ((rd_T55 l0_0 a1).f0) > 1 then ((assartref05_set.f l0_0 a0_1 a1 (wrap64 (((rd_T55 l0_0 a1).f0) - 1)) false ((rd_T55 l0_0 a1).f2.f0) ((rd_T55 l0_0 a1).f2.f1)).bind fun bt257 => (some (bt257.1, bt257.2, 0))) else ((assartref05_set.f l0_0 a0_1 a1 0 true false ([] : List (S49))).bind fun bt261 => (assartref05_Loose.l0 k 0 bt261.1 bt261.2 ((rd_T55 l0_0 a1).f0) ((rd_T55 l0_0 a1).f1) ((rd_T55 l0_0 a1).f2.f0) ((rd_T55 l0_0 a1).f2.f1)))) else (none)) else (none)) = some (r1, r2, r3) := by rw [if_pos rfl] at H; exact H
  clear H
  have H := H1
  clear H1
  by_cases c5 : 0 ≤ a1
  ·rw [if_pos c5] at H
   have c5b0 : decide (0 ≤ a1) = true := decide_eq_true c5
   clear c5
   by_cases c6 : a1 < (l0_0.length : Int)
   ·rw [if_pos c6] at H
    have c6b0 : decide (a1 < (l0_0.length : Int)) = true := decide_eq_true c6
    clear c6
    by_cases c7 : ((rd_T55 l0_0 a1).f0) > 1
    ·rw [if_pos c7] at H
     have c7b0 : decide (1 < ((rd_T55 l0_0 a1).f0)) = true := decide_eq_true c7
     clear c7
     replace H := Option.bind_eq_some_iff.mp H
     obtain ⟨⟨t257, t260⟩, A80, H⟩ := H
     replace H : (some (t257, t260, 0)) = some (r1, r2, r3) := H
     have A8 := Aside0.mk A80
     clear A80
     simp only [Option.some.injEq, Prod.mk.injEq] at H
     obtain ⟨rfl, rfl, rfl⟩ := H
     obtain ⟨adO, AO3, cO3, eO, xO0, xO1, xO2, xO3, hlO3, hiO3⟩ := at_T55 (Kd.V_reads' HO0_0.out).2.2 a1 (of_decide_eq_true c5b0) (of_decide_eq_true c6b0)
     have HEO := Aside0.mk eO
     have HXO3 := Aside0.mk xO3
     have HIO3 := Aside0.mk hiO3
     clear xO0 xO1 xO2 xO3 hlO3 hiO3 eO
     go_enter Try.func49, Try.ntmps49
     go_wp2_with (first | ((with_reducible refine gate_dst (N := 2) rfl ?_); refine box_event ?hg (N := 2) ?hd (cs := #[.slice A0_0 l0_0.length c0_0, .int .i64 a0_1]) (t := 24) ?hr ?_; (case hd => rfl); (case hg => rfl); (case hr => first | (go_simp; done) | (go_simp; rfl)); intro gb252 hg w9 hbox hb; have n0_ := Aside0.mk (Kd.V_below (Kd.V_elderB (by (with_reducible repeat (first | apply Kd.V_alloc | apply Kd.V_drewN | apply Kd.V_drew)); exact HO0_0.out) gb252 (Nat.le_of_eq hg.symm)) hb); have n1_ := Aside0.mk (below_step (by repeat (first | (with_reducible first | exact HB.out | apply below_alloc | apply pw_below_drewN | apply below_drew1) | exact HB.out)) hb); have n2_ := Aside0.mk (hbox); have n3_ := Aside0.mk ((by rw [hg]; exact (below_size (by repeat (first | (with_reducible first | exact HB.out | apply below_alloc | apply pw_below_drewN | apply below_drew1) | exact HB.out))) : w.heap.size ≤ gb252)); have n4_ := Aside0.mk ((by rw [hg]; exact (below_size (by repeat (first | (with_reducible first | exact HB.out | apply below_alloc | apply pw_below_drewN | apply below_drew1) | exact HB.out))) : w.heap.size ≤ gb252)); clear HO0_0; clear HB; have HO0_0 := n0_; have HB := n1_; have BK252 := n2_; have GW252 := n3_; have GE252 := n4_; clear n0_ n1_ n2_ n3_ n4_; clear hb hbox hg) | ((with_reducible refine gate_dst (N := 4) rfl ?_); refine box_event ?hg (N := 4) ?hd (cs := #[.slice none 0 0, .int .i64 0]) (t := 24) ?hr ?_; (case hd => rfl); (case hg => rfl); (case hr => first | (go_simp; done) | (go_simp; rfl)); intro gb253 hg w10 hbox hb; have n0_ := Aside0.mk (Kd.V_below (Kd.V_elderB (by (with_reducible repeat (first | apply Kd.V_alloc | apply Kd.V_drewN | apply Kd.V_drew)); exact HO0_0.out) gb253 (Nat.le_of_eq hg.symm)) hb); have n1_ := Aside0.mk (blk_below (g := gb252) (o := .cells #[.slice A0_0 l0_0.length c0_0, .int .i64 a0_1] 24 (0, 0)) (by (with_reducible repeat (first | refine blk_drewN ?_ _ | refine blk_drew ?_ | refine blk_alloc ?_ _)); exact BK252.out) hb); have n2_ := Aside0.mk (below_step (by repeat (first | (with_reducible first | exact HB.out | apply below_alloc | apply pw_below_drewN | apply below_drew1 | refine below_set ?_ GE252.out) | exact HB.out)) hb); have n3_ := Aside0.mk (hbox); have n4_ := Aside0.mk ((by rw [hg]; exact (below_size (by repeat (first | (with_reducible first | exact HB.out | apply below_alloc | apply pw_below_drewN | apply below_drew1 | refine below_set ?_ GE252.out) | exact HB.out))) : w.heap.size ≤ gb253)); have n5_ := Aside0.mk ((by rw [hg]; exact (below_size (by repeat (first | (with_reducible first | exact HB.out | apply below_alloc | apply pw_below_drewN | apply below_drew1 | refine below_set ?_ GE252.out) | exact HB.out))) : w.heap.size ≤ gb253)); have n6_ := Aside0.mk ((by rw [hg]; exact Nat.ne_of_lt (blk_lt (g := gb252) (o := .cells #[.slice A0_0 l0_0.length c0_0, .int .i64 a0_1] 24 (0, 0)) (by (with_reducible repeat (first | refine blk_drewN ?_ _ | refine blk_drew ?_ | refine blk_alloc ?_ _)); exact BK252.out)) : gb252 ≠ gb253)); have n7_ := Aside0.mk ((by rw [hg]; exact Nat.ne_of_gt (blk_lt (g := gb252) (o := .cells #[.slice A0_0 l0_0.length c0_0, .int .i64 a0_1] 24 (0, 0)) (by (with_reducible repeat (first | refine blk_drewN ?_ _ | refine blk_drew ?_ | refine blk_alloc ?_ _)); exact BK252.out)) : gb253 ≠ gb252)); clear HO0_0; clear BK252; clear HB; have HO0_0 := n0_; have BK252 := n1_; have HB := n2_; have BK253 := n3_; have GW253 := n4_; have GE253 := n5_; have NB252_253 := n6_; have NB253_252 := n7_; clear n0_ n1_ n2_ n3_ n4_ n5_ n6_ n7_; clear hb hbox hg; have hnb11 := NB252_253.out; have hnc11 := NB253_252.out; have hcz12_0 : w10.cell? ⟨gb252, 0, none⟩ = some (.slice A0_0 l0_0.length c0_0) := (blk_cell BK252.out 0).trans rfl; have hcz12_1 : w10.cell? ⟨gb252, 1, none⟩ = some (.int .i64 a0_1) := (blk_cell BK252.out 1).trans rfl; have hfz12_0 := blk_frozen BK252.out 0; have hfz12_1 := blk_frozen BK252.out 1) | ((with_reducible refine gate_callee (f := 52) rfl ?_); refine goesL_ (some 13) rfl rfl Try.func52 (by kernel_rfl) rfl #[.agg #[.slice A0_0 l0_0.length c0_0, .int .i64 a0_1], .int .i64 a1] rfl (by (try simp only [List.map_toArray, List.map_cons, List.map_nil]); first | done | rfl | (simp only [List.length_drop, List.length_take]; rfl)) ?_; (with_reducible refine (assartref05_Used.calls _ _ l0_0 a0_1 a1 true _ ?side1 ?side2 A3.out).mono ?_); (case side1 => repeat (first | exact (Kd.V_reads' HO0_0.out).2.2 | (with_reducible refine Kd.C_alloc ?_ _) | (with_reducible refine Kd.C_drewN ?_ _) | (with_reducible refine Kd.C_drew ?_))); (case side2 => exact (Kd.V_reads' HO0_0.out).2.1); rintro e w13 ⟨rfl, hb⟩; refine ⟨_, rfl, ?_⟩; have n0_ := Aside0.mk (Kd.V_below (by (with_reducible repeat (first | apply Kd.V_alloc | apply Kd.V_drewN | apply Kd.V_drew)); exact HO0_0.out) hb); have n1_ := Aside0.mk (blk_below (g := gb252) (o := .cells #[.slice A0_0 l0_0.length c0_0, .int .i64 a0_1] 24 (0, 0)) (by (with_reducible repeat (first | refine blk_drewN ?_ _ | refine blk_drew ?_ | refine blk_alloc ?_ _)); exact BK252.out) hb); have n2_ := Aside0.mk (blk_below (g := gb253) (o := .cells #[.slice none 0 0, .int .i64 0] 24 (0, 0)) (by (with_reducible repeat (first | refine blk_drewN ?_ _ | refine blk_drew ?_ | refine blk_alloc ?_ _)); exact BK253.out) hb); have n3_ := Aside0.mk (below_step (by repeat (first | (with_reducible first | exact HB.out | apply below_alloc | apply pw_below_drewN | apply below_drew1 | refine below_set ?_ GE252.out | refine below_set ?_ GE253.out) | exact HB.out)) hb); clear HO0_0; clear BK252; clear BK253; clear HB; have HO0_0 := n0_; have BK252 := n1_; have BK253 := n2_; have HB := n3_; clear n0_ n1_ n2_ n3_; (try clear hb); (try clear hb2); (try clear hk); (try clear hi); have hcz14_0 : w13.cell? ⟨gb252, 0, none⟩ = some (.slice A0_0 l0_0.length c0_0) := (blk_cell BK252.out 0).trans rfl; have hcz14_1 : w13.cell? ⟨gb252, 1, none⟩ = some (.int .i64 a0_1) := (blk_cell BK252.out 1).trans rfl; have hfz14_0 := blk_frozen BK252.out 0; have hfz14_1 := blk_frozen BK252.out 1; have p255 : 0 ≤ (a1 : Int) := of_decide_eq_true (by first | (with_reducible assumption) | assumption); have q255 : a1 < (l0_0.length : Int) := of_decide_eq_true (by first | (with_reducible assumption) | assumption); obtain ⟨ad255, A255_3, c255_3, e255, hx255_0, hx255_1, hx255_2, hx255_3, hl255_3, hi255_3⟩ := at_T55 (Kd.V_reads' HO0_0.out).2.2 a1 p255 q255; cases e255; obtain ⟨ce255, hce255, hMe255, hcc255⟩ := Kd.V_get HO0_0.out z55 a1 p255 (by first | exact q255 | exact of_decide_eq_true (by first | (with_reducible assumption) | assumption) | (have e_ := (Kd.V_reads' HO0_0.out).1; omega)); obtain ⟨ua255_3, uc255_3, rfl, ul255_3, ge255_3⟩ := k55_openF hMe255; have hv255_3 := hcc255 3 _ rfl; rw [add_field _ _ 3 (by omega)] at hv255_3; replace hv255_3 := Option.some.inj (hv255_3.symm.trans hx255_3); injection hv255_3 with hva_ hvn_ hvc_; rw [hva_] at ge255_3; rw [hvc_] at ul255_3; have HL255_3 := Aside0.mk (show Kd.V k49 49 _ w.heap.size _ _ ((rd_T55 l0_0 a1).f2.f1) from Kd.V_mk ul255_3 ge255_3); clear hva_ hvn_ hvc_ ge255_3 ul255_3; clear hcc255 hce255; obtain rfl : ad255 = adO := Option.some.inj HEO.out; have hq_ := Option.some.inj (((HB.out.cell (World.block_lt_of_cell? w _ HXO3.out)).trans HXO3.out).symm.trans hx255_3); injection hq_ with hqa_ hqn_ hqc_; rw [hqa_] at HIO3; have HR255_3 := HIO3; clear hqa_ hqn_ hqc_ HXO3 HEO; have HC255_3 := Aside0.mk hl255_3; clear hi255_3 hl255_3; replace p255 := eq_true p255; replace q255 := eq_true q255) | ((with_reducible refine gate_dst (N := 7) rfl ?_); refine box_event ?hg (N := 7) ?hd (cs := #[.int .i64 0, .bool false, .bool false, .slice none 0 0]) (t := 55) ?hr ?_; (case hd => rfl); (case hg => rfl); (case hr => first | (go_simp; done) | (go_simp; rfl)); intro gb256 hg w15 hbox hb; have n0_ := Aside0.mk (Kd.V_below (Kd.V_elderB (by (with_reducible repeat (first | apply Kd.V_alloc | apply Kd.V_drewN | apply Kd.V_drew)); exact HO0_0.out) gb256 (Nat.le_of_eq hg.symm)) hb); have n1_ := Aside0.mk (Kd.V_below (Kd.V_elderB (by (with_reducible repeat (first | apply Kd.V_alloc | apply Kd.V_drewN | apply Kd.V_drew)); exact HL255_3.out) gb256 (Nat.le_of_eq hg.symm)) hb); have n2_ := Aside0.mk (blk_below (g := gb252) (o := .cells #[.slice (some ad255) l0_0.length c0_0, .int .i64 a0_1] 24 (0, 0)) (by (with_reducible repeat (first | refine blk_drewN ?_ _ | refine blk_drew ?_ | refine blk_alloc ?_ _)); exact BK252.out) hb); have n3_ := Aside0.mk (blk_below (g := gb253) (o := .cells #[.slice none 0 0, .int .i64 0] 24 (0, 0)) (by (with_reducible repeat (first | refine blk_drewN ?_ _ | refine blk_drew ?_ | refine blk_alloc ?_ _)); exact BK253.out) hb); have n5_ := Aside0.mk (below_step (by repeat (first | (with_reducible first | exact HB.out | apply below_alloc | apply pw_below_drewN | apply below_drew1 | refine below_set ?_ GE252.out | refine below_set ?_ GE253.out) | exact HB.out)) hb); have n6_ := Aside0.mk (hbox); have n7_ := Aside0.mk ((by rw [hg]; exact (below_size (by repeat (first | (with_reducible first | exact HB.out | apply below_alloc | apply pw_below_drewN | apply below_drew1 | refine below_set ?_ GE252.out | refine below_set ?_ GE253.out) | exact HB.out))) : w.heap.size ≤ gb256)); have n8_ := Aside0.mk ((by rw [hg]; exact (below_size (by repeat (first | (with_reducible first | exact HB.out | apply below_alloc | apply pw_below_drewN | apply below_drew1 | refine below_set ?_ GE252.out | refine below_set ?_ GE253.out) | exact HB.out))) : w.heap.size ≤ gb256)); have n9_ := Aside0.mk ((by rw [hg]; exact Nat.ne_of_lt (blk_lt (g := gb252) (o := .cells #[.slice (some ad255) l0_0.length c0_0, .int .i64 a0_1] 24 (0, 0)) (by (with_reducible repeat (first | refine blk_drewN ?_ _ | refine blk_drew ?_ | refine blk_alloc ?_ _)); exact BK252.out)) : gb252 ≠ gb256)); have n10_ := Aside0.mk ((by rw [hg]; exact Nat.ne_of_gt (blk_lt (g := gb252) (o := .cells #[.slice (some ad255) l0_0.length c0_0, .int .i64 a0_1] 24 (0, 0)) (by (with_reducible repeat (first | refine blk_drewN ?_ _ | refine blk_drew ?_ | refine blk_alloc ?_ _)); exact BK252.out)) : gb256 ≠ gb252)); have n11_ := Aside0.mk ((by rw [hg]; exact Nat.ne_of_lt (blk_lt (g := gb253) (o := .cells #[.slice none 0 0, .int .i64 0] 24 (0, 0)) (by (with_reducible repeat (first | refine blk_drewN ?_ _ | refine blk_drew ?_ | refine blk_alloc ?_ _)); exact BK253.out)) : gb253 ≠ gb256)); have n12_ := Aside0.mk ((by rw [hg]; exact Nat.ne_of_gt (blk_lt (g := gb253) (o := .cells #[.slice none 0 0, .int .i64 0] 24 (0, 0)) (by (with_reducible repeat (first | refine blk_drewN ?_ _ | refine blk_drew ?_ | refine blk_alloc ?_ _)); exact BK253.out)) : gb256 ≠ gb253)); clear HO0_0; clear HL255_3; clear BK252; clear BK253; clear HB; have HO0_0 := n0_; have HL255_3 := n1_; have BK252 := n2_; have BK253 := n3_; have HB := n5_; have BK256 := n6_; have GW256 := n7_; have GE256 := n8_; have NB252_256 := n9_; have NB256_252 := n10_; have NB253_256 := n11_; have NB256_253 := n12_; clear n0_ n1_ n2_ n3_ n5_ n6_ n7_ n8_ n9_ n10_ n11_ n12_; clear hb hbox hg; have hnb16 := NB256_252.out; have hnc16 := NB252_256.out; have hnb17 := NB256_253.out; have hnc17 := NB253_256.out; have hcz18_0 : w15.cell? ⟨gb256, 0, none⟩ = some (.int .i64 0) := (blk_cell BK256.out 0).trans rfl; have hcz18_1 : w15.cell? ⟨gb256, 1, none⟩ = some (.bool false) := (blk_cell BK256.out 1).trans rfl; have hcz18_2 : w15.cell? ⟨gb256, 2, none⟩ = some (.bool false) := (blk_cell BK256.out 2).trans rfl; have hcz18_3 : w15.cell? ⟨gb256, 3, none⟩ = some (.slice none 0 0) := (blk_cell BK256.out 3).trans rfl; have hfz18_0 := blk_frozen BK256.out 0; have hfz18_1 := blk_frozen BK256.out 1; have hfz18_2 := blk_frozen BK256.out 2; have hfz18_3 := blk_frozen BK256.out 3) | ((with_reducible refine gate_store (t := 55) (p := 7) rfl ?_); refine store_event (t := 55) (p := 7) (v := ?vo_w19) (w1 := ((((w15.setCell ⟨gb256, 0, none⟩ (.int .i64 ((rd_T55 l0_0 a1).f0))).setCell ⟨gb256, 1, none⟩ (.bool ((rd_T55 l0_0 a1).f1))).setCell ⟨gb256, 2, none⟩ (.bool ((rd_T55 l0_0 a1).f2.f0))).setCell ⟨gb256, 3, none⟩ (.slice A255_3 ((rd_T55 l0_0 a1).f2.f1).length c255_3))) ?hg ?ho ?hn ?hr ?_; (case ho => rfl); (case hg => rfl); (case hn => rfl); (case hr => first | (go_simp; done) | (go_simp; rfl)); intro w19 hw; have n0_ : Aside0 (Kd.V k55 55 w19 w.heap.size (fun k_ => (P0_0_ k_ ∨ w.heap.size ≤ k_) ∧ k_ ≠ gb252 ∧ k_ ≠ gb253 ∧ k_ ≠ gb256) (.slice (some ad255) l0_0.length c0_0) l0_0) := ⟨(by rw [hw]; exact (by (with_reducible repeat (first | apply Kd.V_alloc | apply Kd.V_drewN | apply Kd.V_drew)); exact Kd.V_mono (Kd.V_far (p := ⟨gb256, 3, none⟩) (Kd.V_far (p := ⟨gb256, 2, none⟩) (Kd.V_far (p := ⟨gb256, 1, none⟩) (Kd.V_far (p := ⟨gb256, 0, none⟩) (Kd.V_mono HO0_0.out (fun k_ hk => (⟨hk, hk.2⟩ : _ ∧ k_ ≠ gb256))) (fun _ hk => hk.2) (.int .i64 ((rd_T55 l0_0 a1).f0))) (fun _ hk => hk.2) (.bool ((rd_T55 l0_0 a1).f1))) (fun _ hk => hk.2) (.bool ((rd_T55 l0_0 a1).f2.f0))) (fun _ hk => hk.2) (.slice A255_3 ((rd_T55 l0_0 a1).f2.f1).length c255_3)) (fun _ hk => ⟨hk.1.1.1.1, ⟨hk.1.1.1.2, ⟨hk.1.1.2, hk.1.2⟩⟩⟩)))⟩; have n1_ : Aside0 (Kd.V k49 49 w19 w.heap.size (fun k_ => (P0_0_ k_ ∨ w.heap.size ≤ k_) ∧ k_ ≠ gb252 ∧ k_ ≠ gb253 ∧ k_ ≠ gb256) (.slice A255_3 ((rd_T55 l0_0 a1).f2.f1).length c255_3) ((rd_T55 l0_0 a1).f2.f1)) := ⟨(by rw [hw]; exact (by (with_reducible repeat (first | apply Kd.V_alloc | apply Kd.V_drewN | apply Kd.V_drew)); exact Kd.V_mono (Kd.V_far (p := ⟨gb256, 3, none⟩) (Kd.V_far (p := ⟨gb256, 2, none⟩) (Kd.V_far (p := ⟨gb256, 1, none⟩) (Kd.V_far (p := ⟨gb256, 0, none⟩) (Kd.V_mono HL255_3.out (fun k_ hk => (⟨hk, hk.2⟩ : _ ∧ k_ ≠ gb256))) (fun _ hk => hk.2) (.int .i64 ((rd_T55 l0_0 a1).f0))) (fun _ hk => hk.2) (.bool ((rd_T55 l0_0 a1).f1))) (fun _ hk => hk.2) (.bool ((rd_T55 l0_0 a1).f2.f0))) (fun _ hk => hk.2) (.slice A255_3 ((rd_T55 l0_0 a1).f2.f1).length c255_3)) (fun _ hk => ⟨hk.1.1.1.1, ⟨hk.1.1.1.2, ⟨hk.1.1.2, hk.1.2⟩⟩⟩)))⟩; have n2_ : Aside0 (w19.heap[gb252]? = some (.cells #[.slice (some ad255) l0_0.length c0_0, .int .i64 a0_1] 24 (0, 0))) := ⟨(by rw [hw]; exact (by (with_reducible repeat (first | refine blk_drewN ?_ _ | refine blk_drew ?_ | refine blk_alloc ?_ _)); refine blk_far ?_ NB252_256.out _; (with_reducible repeat (first | refine blk_drewN ?_ _ | refine blk_drew ?_ | refine blk_alloc ?_ _)); refine blk_far ?_ NB252_256.out _; (with_reducible repeat (first | refine blk_drewN ?_ _ | refine blk_drew ?_ | refine blk_alloc ?_ _)); refine blk_far ?_ NB252_256.out _; (with_reducible repeat (first | refine blk_drewN ?_ _ | refine blk_drew ?_ | refine blk_alloc ?_ _)); refine blk_far ?_ NB252_256.out _; (with_reducible repeat (first | refine blk_drewN ?_ _ | refine blk_drew ?_ | refine blk_alloc ?_ _)); exact BK252.out))⟩; have n3_ : Aside0 (w19.heap[gb253]? = some (.cells #[.slice none 0 0, .int .i64 0] 24 (0, 0))) := ⟨(by rw [hw]; exact (by (with_reducible repeat (first | refine blk_drewN ?_ _ | refine blk_drew ?_ | refine blk_alloc ?_ _)); refine blk_far ?_ NB253_256.out _; (with_reducible repeat (first | refine blk_drewN ?_ _ | refine blk_drew ?_ | refine blk_alloc ?_ _)); refine blk_far ?_ NB253_256.out _; (with_reducible repeat (first | refine blk_drewN ?_ _ | refine blk_drew ?_ | refine blk_alloc ?_ _)); refine blk_far ?_ NB253_256.out _; (with_reducible repeat (first | refine blk_drewN ?_ _ | refine blk_drew ?_ | refine blk_alloc ?_ _)); refine blk_far ?_ NB253_256.out _; (with_reducible repeat (first | refine blk_drewN ?_ _ | refine blk_drew ?_ | refine blk_alloc ?_ _)); exact BK253.out))⟩; have n4_ : Aside0 (w19.heap[gb256]? = some (.cells #[.int .i64 ((rd_T55 l0_0 a1).f0), .bool ((rd_T55 l0_0 a1).f1), .bool ((rd_T55 l0_0 a1).f2.f0), .slice A255_3 ((rd_T55 l0_0 a1).f2.f1).length c255_3] 55 (0, 0))) := ⟨(by rw [hw]; exact (by (with_reducible repeat (first | refine blk_drewN ?_ _ | refine blk_drew ?_ | refine blk_alloc ?_ _)); refine blk_put (cs := #[.int .i64 ((rd_T55 l0_0 a1).f0), .bool ((rd_T55 l0_0 a1).f1), .bool ((rd_T55 l0_0 a1).f2.f0), .slice none 0 0]) ?_ 3 _ rfl; (with_reducible repeat (first | refine blk_drewN ?_ _ | refine blk_drew ?_ | refine blk_alloc ?_ _)); refine blk_put (cs := #[.int .i64 ((rd_T55 l0_0 a1).f0), .bool ((rd_T55 l0_0 a1).f1), .bool false, .slice none 0 0]) ?_ 2 _ rfl; (with_reducible repeat (first | refine blk_drewN ?_ _ | refine blk_drew ?_ | refine blk_alloc ?_ _)); refine blk_put (cs := #[.int .i64 ((rd_T55 l0_0 a1).f0), .bool false, .bool false, .slice none 0 0]) ?_ 1 _ rfl; (with_reducible repeat (first | refine blk_drewN ?_ _ | refine blk_drew ?_ | refine blk_alloc ?_ _)); refine blk_put (cs := #[.int .i64 0, .bool false, .bool false, .slice none 0 0]) ?_ 0 _ rfl; (with_reducible repeat (first | refine blk_drewN ?_ _ | refine blk_drew ?_ | refine blk_alloc ?_ _)); exact BK256.out))⟩; have n5_ : Aside0 (Below w.heap.size w w19) := ⟨(by rw [hw]; exact (by repeat (first | (with_reducible first | exact HB.out | apply below_alloc | apply pw_below_drewN | apply below_drew1 | refine below_set ?_ GE252.out | refine below_set ?_ GE253.out | refine below_set ?_ GE256.out) | exact HB.out)))⟩; clear hw; clear HO0_0; clear HL255_3; clear BK252; clear BK253; clear BK256; clear HB; have HO0_0 := n0_; have HL255_3 := n1_; have BK252 := n2_; have BK253 := n3_; have BK256 := n4_; have HB := n5_; clear n0_ n1_ n2_ n3_ n4_ n5_; have hcz20_0 : w19.cell? ⟨gb256, 0, none⟩ = some (.int .i64 ((rd_T55 l0_0 a1).f0)) := (blk_cell BK256.out 0).trans rfl; have hcz20_1 : w19.cell? ⟨gb256, 1, none⟩ = some (.bool ((rd_T55 l0_0 a1).f1)) := (blk_cell BK256.out 1).trans rfl; have hcz20_2 : w19.cell? ⟨gb256, 2, none⟩ = some (.bool ((rd_T55 l0_0 a1).f2.f0)) := (blk_cell BK256.out 2).trans rfl; have hcz20_3 : w19.cell? ⟨gb256, 3, none⟩ = some (.slice A255_3 ((rd_T55 l0_0 a1).f2.f1).length c255_3) := (blk_cell BK256.out 3).trans rfl; have hfz20_0 := blk_frozen BK256.out 0; have hfz20_1 := blk_frozen BK256.out 1; have hfz20_2 := blk_frozen BK256.out 2; have hfz20_3 := blk_frozen BK256.out 3; have hcz21_0 : w19.cell? ⟨gb252, 0, none⟩ = some (.slice (some ad255) l0_0.length c0_0) := (blk_cell BK252.out 0).trans rfl; have hcz21_1 : w19.cell? ⟨gb252, 1, none⟩ = some (.int .i64 a0_1) := (blk_cell BK252.out 1).trans rfl; have hfz21_0 := blk_frozen BK252.out 0; have hfz21_1 := blk_frozen BK252.out 1) | ((with_reducible refine gate_callee (f := 80) rfl ?_); refine goesL_ (some 33) rfl rfl Try.func80 (by kernel_rfl) rfl #[.agg #[.slice (some ad255) l0_0.length c0_0, .int .i64 a0_1], .int .i64 a1, .agg #[.int .i64 (wrap64 (((rd_T55 l0_0 a1).f0) - 1)), .bool false, .bool ((rd_T55 l0_0 a1).f2.f0), .slice A255_3 ((rd_T55 l0_0 a1).f2.f1).length c255_3]] rfl (by (try simp only [List.map_toArray, List.map_cons, List.map_nil]); first | done | rfl | (simp only [List.length_drop, List.length_take]; rfl)) ?_; (with_reducible refine (assartref05_set.calls (fun k_ => ((P0_0_ k_ ∨ w.heap.size ≤ k_) ∧ (k_ ≠ gb252 ∧ (k_ ≠ gb253 ∧ k_ ≠ gb256)))) _ _ l0_0 a0_1 a1 (wrap64 (((rd_T55 l0_0 a1).f0) - 1)) false ((rd_T55 l0_0 a1).f2.f0) (fun k_ => ((P0_0_ k_ ∨ w.heap.size ≤ k_) ∧ (k_ ≠ gb252 ∧ (k_ ≠ gb253 ∧ k_ ≠ gb256)))) _ _ ((rd_T55 l0_0 a1).f2.f1) t257 t260 _ ?side1 ?side2 A8.out).mono ?_); (case side1 => exact HO0_0.out); (case side2 => exact HL255_3.out); rintro e w22 ⟨v258, rfl, ho0, hb⟩; refine ⟨_, rfl, ?_⟩; have n0_ := Aside0.mk (Kd.V_elder' (by (with_reducible repeat (first | apply Kd.V_alloc | apply Kd.V_drewN | apply Kd.V_drew)); exact HO0_0.out) (Kd.N_base ho0) hb); have n1_ := Aside0.mk (Kd.V_elder' (by (with_reducible repeat (first | apply Kd.V_alloc | apply Kd.V_drewN | apply Kd.V_drew)); exact HL255_3.out) (Kd.N_base ho0) hb); have n2_ := Aside0.mk (Kd.N_lower (Kd.N_mono (ok' := fun k_ => (P0_0_ k_ ∨ w.heap.size ≤ k_) ∧ k_ ≠ gb252 ∧ k_ ≠ gb253 ∧ k_ ≠ gb256) ho0 (fun k_ hk_ => ⟨Or.elim hk_ (fun hs_ => Or.elim hs_ (fun hs_ => hs_.1) (fun hs_ => hs_.1)) (fun hn_ => (.inr (Nat.le_trans (below_size (by repeat (first | (with_reducible first | exact HB.out | apply below_alloc | apply pw_below_drewN | apply below_drew1 | refine below_set ?_ GE252.out | refine below_set ?_ GE253.out | refine below_set ?_ GE256.out) | exact HB.out))) hn_))), Or.elim hk_ (fun hs_ => Or.elim hs_ (fun hs_ => hs_.2.1) (fun hs_ => hs_.2.1)) (fun hn_ => (Kd.freshB (g := gb252) (o := .cells #[.slice (some ad255) l0_0.length c0_0, .int .i64 a0_1] 24 (0, 0)) (by (with_reducible repeat (first | refine blk_drewN ?_ _ | refine blk_drew ?_ | refine blk_alloc ?_ _)); exact BK252.out) k_ hn_)), Or.elim hk_ (fun hs_ => Or.elim hs_ (fun hs_ => hs_.2.2.1) (fun hs_ => hs_.2.2.1)) (fun hn_ => (Kd.freshB (g := gb253) (o := .cells #[.slice none 0 0, .int .i64 0] 24 (0, 0)) (by (with_reducible repeat (first | refine blk_drewN ?_ _ | refine blk_drew ?_ | refine blk_alloc ?_ _)); exact BK253.out) k_ hn_)), Or.elim hk_ (fun hs_ => Or.elim hs_ (fun hs_ => hs_.2.2.2) (fun hs_ => hs_.2.2.2)) (fun hn_ => (Kd.freshB (g := gb256) (o := .cells #[.int .i64 ((rd_T55 l0_0 a1).f0), .bool ((rd_T55 l0_0 a1).f1), .bool ((rd_T55 l0_0 a1).f2.f0), .slice A255_3 ((rd_T55 l0_0 a1).f2.f1).length c255_3] 55 (0, 0)) (by (with_reducible repeat (first | refine blk_drewN ?_ _ | refine blk_drew ?_ | refine blk_alloc ?_ _)); exact BK256.out) k_ hn_))⟩)) (below_size (by repeat (first | (with_reducible first | exact HB.out | apply below_alloc | apply pw_below_drewN | apply below_drew1 | refine below_set ?_ GE252.out | refine below_set ?_ GE253.out | refine below_set ?_ GE256.out) | exact HB.out)))); have n3_ := Aside0.mk (blk_below (g := gb252) (o := .cells #[.slice (some ad255) l0_0.length c0_0, .int .i64 a0_1] 24 (0, 0)) (by (with_reducible repeat (first | refine blk_drewN ?_ _ | refine blk_drew ?_ | refine blk_alloc ?_ _)); exact BK252.out) hb); have n4_ := Aside0.mk (blk_below (g := gb253) (o := .cells #[.slice none 0 0, .int .i64 0] 24 (0, 0)) (by (with_reducible repeat (first | refine blk_drewN ?_ _ | refine blk_drew ?_ | refine blk_alloc ?_ _)); exact BK253.out) hb); have n6_ := Aside0.mk (blk_below (g := gb256) (o := .cells #[.int .i64 ((rd_T55 l0_0 a1).f0), .bool ((rd_T55 l0_0 a1).f1), .bool ((rd_T55 l0_0 a1).f2.f0), .slice A255_3 ((rd_T55 l0_0 a1).f2.f1).length c255_3] 55 (0, 0)) (by (with_reducible repeat (first | refine blk_drewN ?_ _ | refine blk_drew ?_ | refine blk_alloc ?_ _)); exact BK256.out) hb); have n7_ := Aside0.mk (below_step (by repeat (first | (with_reducible first | exact HB.out | apply below_alloc | apply pw_below_drewN | apply below_drew1 | refine below_set ?_ GE252.out | refine below_set ?_ GE253.out | refine below_set ?_ GE256.out) | exact HB.out)) hb); clear HO0_0; clear HL255_3; clear BK252; clear BK253; clear BK256; clear HB; have HO0_0 := n0_; have HL255_3 := n1_; have HO259 := n2_; have BK252 := n3_; have BK253 := n4_; have BK256 := n6_; have HB := n7_; clear n0_ n1_ n2_ n3_ n4_ n6_ n7_; (try clear hb); (try clear hb2); (try clear hk); (try clear hi); (try clear ho0); obtain ⟨Ao23, co23, eo23⟩ := Kd.N_slice HO259.out; subst eo23; have hcz24_0 : w22.cell? ⟨gb253, 0, none⟩ = some (.slice none 0 0) := (blk_cell BK253.out 0).trans rfl; have hcz24_1 : w22.cell? ⟨gb253, 1, none⟩ = some (.int .i64 0) := (blk_cell BK253.out 1).trans rfl; have hfz24_0 := blk_frozen BK253.out 0; have hfz24_1 := blk_frozen BK253.out 1))
     refine bodyPost_ret (results_ct rfl _ _ gb253 24 #[.slice Ao23 t257.length co23, .int .i64 t260] (0, 0) _ rfl (by (with_reducible repeat (first | refine blk_drewN ?_ _ | refine blk_drew ?_ | refine blk_alloc ?_ _)); refine blk_put (cs := #[.slice Ao23 t257.length co23, .int .i64 0]) ?_ 1 _ rfl; (with_reducible repeat (first | refine blk_drewN ?_ _ | refine blk_drew ?_ | refine blk_alloc ?_ _)); refine blk_put (cs := #[.slice none 0 0, .int .i64 0]) ?_ 0 _ rfl; (with_reducible repeat (first | refine blk_drewN ?_ _ | refine blk_drew ?_ | refine blk_alloc ?_ _)); exact BK253.out) Try.underlying24 rfl (by kernel_rfl)) rfl ?_
     exact ⟨_, by first | rfl | (simp [errW_none, errW_some] <;> rfl) | (simp [*, errW_none, errW_some] <;> rfl), Kd.N_V (by (with_reducible repeat (first | apply Kd.N_alloc | apply Kd.N_drewN | apply Kd.N_drew)); exact Kd.N_mono (Kd.N_far (p := ⟨gb253, 1, none⟩) (Kd.N_far (p := ⟨gb253, 0, none⟩) (Kd.N_mono HO259.out (fun k_ hk => (⟨hk, hk.2.2.1⟩ : _ ∧ k_ ≠ gb253))) (fun _ hk => hk.2) (.slice Ao23 t257.length co23)) (fun _ hk => hk.2) (.int .i64 t260)) (fun _ hk => hk.1.1)), by repeat (first | (with_reducible first | exact HB.out | apply below_alloc | apply pw_below_drewN | apply below_drew1 | refine below_set ?_ GE252.out | refine below_set ?_ GE253.out | refine below_set ?_ GE256.out) | exact HB.out)⟩
    ·rw [if_neg c7] at H
     have c7b0 : decide (1 < ((rd_T55 l0_0 a1).f0)) = false := decide_eq_false c7
     clear c7
     replace H := Option.bind_eq_some_iff.mp H
     obtain ⟨⟨t261, t264⟩, A250, H⟩ := H
     replace H : (assartref05_Loose.l0 k 0 t261 t264 ((rd_T55 l0_0 a1).f0) ((rd_T55 l0_0 a1).f1) ((rd_T55 l0_0 a1).f2.f0) ((rd_T55 l0_0 a1).f2.f1)) = some (r1, r2, r3) := H
     have A25 := Aside0.mk A250
     clear A250
     have H' := Aside0.mk H
     clear H
     obtain ⟨adO, AO3, cO3, eO, xO0, xO1, xO2, xO3, hlO3, hiO3⟩ := at_T55 (Kd.V_reads' HO0_0.out).2.2 a1 (of_decide_eq_true c5b0) (of_decide_eq_true c6b0)
     have HEO := Aside0.mk eO
     have HXO3 := Aside0.mk xO3
     have HIO3 := Aside0.mk hiO3
     clear xO0 xO1 xO2 xO3 hlO3 hiO3 eO
     go_enter Try.func49, Try.ntmps49
     go_wp2_with (first | ((with_reducible refine gate_dst (N := 2) rfl ?_); refine box_event ?hg (N := 2) ?hd (cs := #[.slice A0_0 l0_0.length c0_0, .int .i64 a0_1]) (t := 24) ?hr ?_; (case hd => rfl); (case hg => rfl); (case hr => first | (go_simp; done) | (go_simp; rfl)); intro gb252 hg w26 hbox hb; have n0_ := Aside0.mk (Kd.V_below (Kd.V_elderB (by (with_reducible repeat (first | apply Kd.V_alloc | apply Kd.V_drewN | apply Kd.V_drew)); exact HO0_0.out) gb252 (Nat.le_of_eq hg.symm)) hb); have n1_ := Aside0.mk (below_step (by repeat (first | (with_reducible first | exact HB.out | apply below_alloc | apply pw_below_drewN | apply below_drew1) | exact HB.out)) hb); have n2_ := Aside0.mk (hbox); have n3_ := Aside0.mk ((by rw [hg]; exact (below_size (by repeat (first | (with_reducible first | exact HB.out | apply below_alloc | apply pw_below_drewN | apply below_drew1) | exact HB.out))) : w.heap.size ≤ gb252)); have n4_ := Aside0.mk ((by rw [hg]; exact (below_size (by repeat (first | (with_reducible first | exact HB.out | apply below_alloc | apply pw_below_drewN | apply below_drew1) | exact HB.out))) : w.heap.size ≤ gb252)); clear HO0_0; clear HB; have HO0_0 := n0_; have HB := n1_; have BK252 := n2_; have GW252 := n3_; have GE252 := n4_; clear n0_ n1_ n2_ n3_ n4_; clear hb hbox hg) | ((with_reducible refine gate_dst (N := 4) rfl ?_); refine box_event ?hg (N := 4) ?hd (cs := #[.slice none 0 0, .int .i64 0]) (t := 24) ?hr ?_; (case hd => rfl); (case hg => rfl); (case hr => first | (go_simp; done) | (go_simp; rfl)); intro gb253 hg w27 hbox hb; have n0_ := Aside0.mk (Kd.V_below (Kd.V_elderB (by (with_reducible repeat (first | apply Kd.V_alloc | apply Kd.V_drewN | apply Kd.V_drew)); exact HO0_0.out) gb253 (Nat.le_of_eq hg.symm)) hb); have n1_ := Aside0.mk (blk_below (g := gb252) (o := .cells #[.slice A0_0 l0_0.length c0_0, .int .i64 a0_1] 24 (0, 0)) (by (with_reducible repeat (first | refine blk_drewN ?_ _ | refine blk_drew ?_ | refine blk_alloc ?_ _)); exact BK252.out) hb); have n2_ := Aside0.mk (below_step (by repeat (first | (with_reducible first | exact HB.out | apply below_alloc | apply pw_below_drewN | apply below_drew1 | refine below_set ?_ GE252.out) | exact HB.out)) hb); have n3_ := Aside0.mk (hbox); have n4_ := Aside0.mk ((by rw [hg]; exact (below_size (by repeat (first | (with_reducible first | exact HB.out | apply below_alloc | apply pw_below_drewN | apply below_drew1 | refine below_set ?_ GE252.out) | exact HB.out))) : w.heap.size ≤ gb253)); have n5_ := Aside0.mk ((by rw [hg]; exact (below_size (by repeat (first | (with_reducible first | exact HB.out | apply below_alloc | apply pw_below_drewN | apply below_drew1 | refine below_set ?_ GE252.out) | exact HB.out))) : w.heap.size ≤ gb253)); have n6_ := Aside0.mk ((by rw [hg]; exact Nat.ne_of_lt (blk_lt (g := gb252) (o := .cells #[.slice A0_0 l0_0.length c0_0, .int .i64 a0_1] 24 (0, 0)) (by (with_reducible repeat (first | refine blk_drewN ?_ _ | refine blk_drew ?_ | refine blk_alloc ?_ _)); exact BK252.out)) : gb252 ≠ gb253)); have n7_ := Aside0.mk ((by rw [hg]; exact Nat.ne_of_gt (blk_lt (g := gb252) (o := .cells #[.slice A0_0 l0_0.length c0_0, .int .i64 a0_1] 24 (0, 0)) (by (with_reducible repeat (first | refine blk_drewN ?_ _ | refine blk_drew ?_ | refine blk_alloc ?_ _)); exact BK252.out)) : gb253 ≠ gb252)); clear HO0_0; clear BK252; clear HB; have HO0_0 := n0_; have BK252 := n1_; have HB := n2_; have BK253 := n3_; have GW253 := n4_; have GE253 := n5_; have NB252_253 := n6_; have NB253_252 := n7_; clear n0_ n1_ n2_ n3_ n4_ n5_ n6_ n7_; clear hb hbox hg; have hnb28 := NB252_253.out; have hnc28 := NB253_252.out; have hcz29_0 : w27.cell? ⟨gb252, 0, none⟩ = some (.slice A0_0 l0_0.length c0_0) := (blk_cell BK252.out 0).trans rfl; have hcz29_1 : w27.cell? ⟨gb252, 1, none⟩ = some (.int .i64 a0_1) := (blk_cell BK252.out 1).trans rfl; have hfz29_0 := blk_frozen BK252.out 0; have hfz29_1 := blk_frozen BK252.out 1) | ((with_reducible refine gate_callee (f := 52) rfl ?_); refine goesL_ (some 13) rfl rfl Try.func52 (by kernel_rfl) rfl #[.agg #[.slice A0_0 l0_0.length c0_0, .int .i64 a0_1], .int .i64 a1] rfl (by (try simp only [List.map_toArray, List.map_cons, List.map_nil]); first | done | rfl | (simp only [List.length_drop, List.length_take]; rfl)) ?_; (with_reducible refine (assartref05_Used.calls _ _ l0_0 a0_1 a1 true _ ?side1 ?side2 A3.out).mono ?_); (case side1 => repeat (first | exact (Kd.V_reads' HO0_0.out).2.2 | (with_reducible refine Kd.C_alloc ?_ _) | (with_reducible refine Kd.C_drewN ?_ _) | (with_reducible refine Kd.C_drew ?_))); (case side2 => exact (Kd.V_reads' HO0_0.out).2.1); rintro e w30 ⟨rfl, hb⟩; refine ⟨_, rfl, ?_⟩; have n0_ := Aside0.mk (Kd.V_below (by (with_reducible repeat (first | apply Kd.V_alloc | apply Kd.V_drewN | apply Kd.V_drew)); exact HO0_0.out) hb); have n1_ := Aside0.mk (blk_below (g := gb252) (o := .cells #[.slice A0_0 l0_0.length c0_0, .int .i64 a0_1] 24 (0, 0)) (by (with_reducible repeat (first | refine blk_drewN ?_ _ | refine blk_drew ?_ | refine blk_alloc ?_ _)); exact BK252.out) hb); have n2_ := Aside0.mk (blk_below (g := gb253) (o := .cells #[.slice none 0 0, .int .i64 0] 24 (0, 0)) (by (with_reducible repeat (first | refine blk_drewN ?_ _ | refine blk_drew ?_ | refine blk_alloc ?_ _)); exact BK253.out) hb); have n3_ := Aside0.mk (below_step (by repeat (first | (with_reducible first | exact HB.out | apply below_alloc | apply pw_below_drewN | apply below_drew1 | refine below_set ?_ GE252.out | refine below_set ?_ GE253.out) | exact HB.out)) hb); clear HO0_0; clear BK252; clear BK253; clear HB; have HO0_0 := n0_; have BK252 := n1_; have BK253 := n2_; have HB := n3_; clear n0_ n1_ n2_ n3_; (try clear hb); (try clear hb2); (try clear hk); (try clear hi); have hcz31_0 : w30.cell? ⟨gb252, 0, none⟩ = some (.slice A0_0 l0_0.length c0_0) := (blk_cell BK252.out 0).trans rfl; have hcz31_1 : w30.cell? ⟨gb252, 1, none⟩ = some (.int .i64 a0_1) := (blk_cell BK252.out 1).trans rfl; have hfz31_0 := blk_frozen BK252.out 0; have hfz31_1 := blk_frozen BK252.out 1; have p255 : 0 ≤ (a1 : Int) := of_decide_eq_true (by first | (with_reducible assumption) | assumption); have q255 : a1 < (l0_0.length : Int) := of_decide_eq_true (by first | (with_reducible assumption) | assumption); obtain ⟨ad255, A255_3, c255_3, e255, hx255_0, hx255_1, hx255_2, hx255_3, hl255_3, hi255_3⟩ := at_T55 (Kd.V_reads' HO0_0.out).2.2 a1 p255 q255; cases e255; obtain ⟨ce255, hce255, hMe255, hcc255⟩ := Kd.V_get HO0_0.out z55 a1 p255 (by first | exact q255 | exact of_decide_eq_true (by first | (with_reducible assumption) | assumption) | (have e_ := (Kd.V_reads' HO0_0.out).1; omega)); obtain ⟨ua255_3, uc255_3, rfl, ul255_3, ge255_3⟩ := k55_openF hMe255; have hv255_3 := hcc255 3 _ rfl; rw [add_field _ _ 3 (by omega)] at hv255_3; replace hv255_3 := Option.some.inj (hv255_3.symm.trans hx255_3); injection hv255_3 with hva_ hvn_ hvc_; rw [hva_] at ge255_3; rw [hvc_] at ul255_3; have HL255_3 := Aside0.mk (show Kd.V k49 49 _ w.heap.size _ _ ((rd_T55 l0_0 a1).f2.f1) from Kd.V_mk ul255_3 ge255_3); clear hva_ hvn_ hvc_ ge255_3 ul255_3; clear hcc255 hce255; obtain rfl : ad255 = adO := Option.some.inj HEO.out; have hq_ := Option.some.inj (((HB.out.cell (World.block_lt_of_cell? w _ HXO3.out)).trans HXO3.out).symm.trans hx255_3); injection hq_ with hqa_ hqn_ hqc_; rw [hqa_] at HIO3; have HR255_3 := HIO3; clear hqa_ hqn_ hqc_ HXO3 HEO; have HC255_3 := Aside0.mk hl255_3; clear hi255_3 hl255_3; replace p255 := eq_true p255; replace q255 := eq_true q255) | ((with_reducible refine gate_dst (N := 7) rfl ?_); refine box_event ?hg (N := 7) ?hd (cs := #[.int .i64 0, .bool false, .bool false, .slice none 0 0]) (t := 55) ?hr ?_; (case hd => rfl); (case hg => rfl); (case hr => first | (go_simp; done) | (go_simp; rfl)); intro gb256 hg w32 hbox hb; have n0_ := Aside0.mk (Kd.V_below (Kd.V_elderB (by (with_reducible repeat (first | apply Kd.V_alloc | apply Kd.V_drewN | apply Kd.V_drew)); exact HO0_0.out) gb256 (Nat.le_of_eq hg.symm)) hb); have n1_ := Aside0.mk (Kd.V_below (Kd.V_elderB (by (with_reducible repeat (first | apply Kd.V_alloc | apply Kd.V_drewN | apply Kd.V_drew)); exact HL255_3.out) gb256 (Nat.le_of_eq hg.symm)) hb); have n2_ := Aside0.mk (blk_below (g := gb252) (o := .cells #[.slice (some ad255) l0_0.length c0_0, .int .i64 a0_1] 24 (0, 0)) (by (with_reducible repeat (first | refine blk_drewN ?_ _ | refine blk_drew ?_ | refine blk_alloc ?_ _)); exact BK252.out) hb); have n3_ := Aside0.mk (blk_below (g := gb253) (o := .cells #[.slice none 0 0, .int .i64 0] 24 (0, 0)) (by (with_reducible repeat (first | refine blk_drewN ?_ _ | refine blk_drew ?_ | refine blk_alloc ?_ _)); exact BK253.out) hb); have n5_ := Aside0.mk (below_step (by repeat (first | (with_reducible first | exact HB.out | apply below_alloc | apply pw_below_drewN | apply below_drew1 | refine below_set ?_ GE252.out | refine below_set ?_ GE253.out) | exact HB.out)) hb); have n6_ := Aside0.mk (hbox); have n7_ := Aside0.mk ((by rw [hg]; exact (below_size (by repeat (first | (with_reducible first | exact HB.out | apply below_alloc | apply pw_below_drewN | apply below_drew1 | refine below_set ?_ GE252.out | refine below_set ?_ GE253.out) | exact HB.out))) : w.heap.size ≤ gb256)); have n8_ := Aside0.mk ((by rw [hg]; exact (below_size (by repeat (first | (with_reducible first | exact HB.out | apply below_alloc | apply pw_below_drewN | apply below_drew1 | refine below_set ?_ GE252.out | refine below_set ?_ GE253.out) | exact HB.out))) : w.heap.size ≤ gb256)); have n9_ := Aside0.mk ((by rw [hg]; exact Nat.ne_of_lt (blk_lt (g := gb252) (o := .cells #[.slice (some ad255) l0_0.length c0_0, .int .i64 a0_1] 24 (0, 0)) (by (with_reducible repeat (first | refine blk_drewN ?_ _ | refine blk_drew ?_ | refine blk_alloc ?_ _)); exact BK252.out)) : gb252 ≠ gb256)); have n10_ := Aside0.mk ((by rw [hg]; exact Nat.ne_of_gt (blk_lt (g := gb252) (o := .cells #[.slice (some ad255) l0_0.length c0_0, .int .i64 a0_1] 24 (0, 0)) (by (with_reducible repeat (first | refine blk_drewN ?_ _ | refine blk_drew ?_ | refine blk_alloc ?_ _)); exact BK252.out)) : gb256 ≠ gb252)); have n11_ := Aside0.mk ((by rw [hg]; exact Nat.ne_of_lt (blk_lt (g := gb253) (o := .cells #[.slice none 0 0, .int .i64 0] 24 (0, 0)) (by (with_reducible repeat (first | refine blk_drewN ?_ _ | refine blk_drew ?_ | refine blk_alloc ?_ _)); exact BK253.out)) : gb253 ≠ gb256)); have n12_ := Aside0.mk ((by rw [hg]; exact Nat.ne_of_gt (blk_lt (g := gb253) (o := .cells #[.slice none 0 0, .int .i64 0] 24 (0, 0)) (by (with_reducible repeat (first | refine blk_drewN ?_ _ | refine blk_drew ?_ | refine blk_alloc ?_ _)); exact BK253.out)) : gb256 ≠ gb253)); clear HO0_0; clear HL255_3; clear BK252; clear BK253; clear HB; have HO0_0 := n0_; have HL255_3 := n1_; have BK252 := n2_; have BK253 := n3_; have HB := n5_; have BK256 := n6_; have GW256 := n7_; have GE256 := n8_; have NB252_256 := n9_; have NB256_252 := n10_; have NB253_256 := n11_; have NB256_253 := n12_; clear n0_ n1_ n2_ n3_ n5_ n6_ n7_ n8_ n9_ n10_ n11_ n12_; clear hb hbox hg; have hnb33 := NB256_252.out; have hnc33 := NB252_256.out; have hnb34 := NB256_253.out; have hnc34 := NB253_256.out; have hcz35_0 : w32.cell? ⟨gb256, 0, none⟩ = some (.int .i64 0) := (blk_cell BK256.out 0).trans rfl; have hcz35_1 : w32.cell? ⟨gb256, 1, none⟩ = some (.bool false) := (blk_cell BK256.out 1).trans rfl; have hcz35_2 : w32.cell? ⟨gb256, 2, none⟩ = some (.bool false) := (blk_cell BK256.out 2).trans rfl; have hcz35_3 : w32.cell? ⟨gb256, 3, none⟩ = some (.slice none 0 0) := (blk_cell BK256.out 3).trans rfl; have hfz35_0 := blk_frozen BK256.out 0; have hfz35_1 := blk_frozen BK256.out 1; have hfz35_2 := blk_frozen BK256.out 2; have hfz35_3 := blk_frozen BK256.out 3) | ((with_reducible refine gate_store (t := 55) (p := 7) rfl ?_); refine store_event (t := 55) (p := 7) (v := ?vo_w36) (w1 := ((((w32.setCell ⟨gb256, 0, none⟩ (.int .i64 ((rd_T55 l0_0 a1).f0))).setCell ⟨gb256, 1, none⟩ (.bool ((rd_T55 l0_0 a1).f1))).setCell ⟨gb256, 2, none⟩ (.bool ((rd_T55 l0_0 a1).f2.f0))).setCell ⟨gb256, 3, none⟩ (.slice A255_3 ((rd_T55 l0_0 a1).f2.f1).length c255_3))) ?hg ?ho ?hn ?hr ?_; (case ho => rfl); (case hg => rfl); (case hn => rfl); (case hr => first | (go_simp; done) | (go_simp; rfl)); intro w36 hw; have n0_ : Aside0 (Kd.V k55 55 w36 w.heap.size (fun k_ => (P0_0_ k_ ∨ w.heap.size ≤ k_) ∧ k_ ≠ gb252 ∧ k_ ≠ gb253 ∧ k_ ≠ gb256) (.slice (some ad255) l0_0.length c0_0) l0_0) := ⟨(by rw [hw]; exact (by (with_reducible repeat (first | apply Kd.V_alloc | apply Kd.V_drewN | apply Kd.V_drew)); exact Kd.V_mono (Kd.V_far (p := ⟨gb256, 3, none⟩) (Kd.V_far (p := ⟨gb256, 2, none⟩) (Kd.V_far (p := ⟨gb256, 1, none⟩) (Kd.V_far (p := ⟨gb256, 0, none⟩) (Kd.V_mono HO0_0.out (fun k_ hk => (⟨hk, hk.2⟩ : _ ∧ k_ ≠ gb256))) (fun _ hk => hk.2) (.int .i64 ((rd_T55 l0_0 a1).f0))) (fun _ hk => hk.2) (.bool ((rd_T55 l0_0 a1).f1))) (fun _ hk => hk.2) (.bool ((rd_T55 l0_0 a1).f2.f0))) (fun _ hk => hk.2) (.slice A255_3 ((rd_T55 l0_0 a1).f2.f1).length c255_3)) (fun _ hk => ⟨hk.1.1.1.1, ⟨hk.1.1.1.2, ⟨hk.1.1.2, hk.1.2⟩⟩⟩)))⟩; have n1_ : Aside0 (Kd.V k49 49 w36 w.heap.size (fun k_ => (P0_0_ k_ ∨ w.heap.size ≤ k_) ∧ k_ ≠ gb252 ∧ k_ ≠ gb253 ∧ k_ ≠ gb256) (.slice A255_3 ((rd_T55 l0_0 a1).f2.f1).length c255_3) ((rd_T55 l0_0 a1).f2.f1)) := ⟨(by rw [hw]; exact (by (with_reducible repeat (first | apply Kd.V_alloc | apply Kd.V_drewN | apply Kd.V_drew)); exact Kd.V_mono (Kd.V_far (p := ⟨gb256, 3, none⟩) (Kd.V_far (p := ⟨gb256, 2, none⟩) (Kd.V_far (p := ⟨gb256, 1, none⟩) (Kd.V_far (p := ⟨gb256, 0, none⟩) (Kd.V_mono HL255_3.out (fun k_ hk => (⟨hk, hk.2⟩ : _ ∧ k_ ≠ gb256))) (fun _ hk => hk.2) (.int .i64 ((rd_T55 l0_0 a1).f0))) (fun _ hk => hk.2) (.bool ((rd_T55 l0_0 a1).f1))) (fun _ hk => hk.2) (.bool ((rd_T55 l0_0 a1).f2.f0))) (fun _ hk => hk.2) (.slice A255_3 ((rd_T55 l0_0 a1).f2.f1).length c255_3)) (fun _ hk => ⟨hk.1.1.1.1, ⟨hk.1.1.1.2, ⟨hk.1.1.2, hk.1.2⟩⟩⟩)))⟩; have n2_ : Aside0 (w36.heap[gb252]? = some (.cells #[.slice (some ad255) l0_0.length c0_0, .int .i64 a0_1] 24 (0, 0))) := ⟨(by rw [hw]; exact (by (with_reducible repeat (first | refine blk_drewN ?_ _ | refine blk_drew ?_ | refine blk_alloc ?_ _)); refine blk_far ?_ NB252_256.out _; (with_reducible repeat (first | refine blk_drewN ?_ _ | refine blk_drew ?_ | refine blk_alloc ?_ _)); refine blk_far ?_ NB252_256.out _; (with_reducible repeat (first | refine blk_drewN ?_ _ | refine blk_drew ?_ | refine blk_alloc ?_ _)); refine blk_far ?_ NB252_256.out _; (with_reducible repeat (first | refine blk_drewN ?_ _ | refine blk_drew ?_ | refine blk_alloc ?_ _)); refine blk_far ?_ NB252_256.out _; (with_reducible repeat (first | refine blk_drewN ?_ _ | refine blk_drew ?_ | refine blk_alloc ?_ _)); exact BK252.out))⟩; have n3_ : Aside0 (w36.heap[gb253]? = some (.cells #[.slice none 0 0, .int .i64 0] 24 (0, 0))) := ⟨(by rw [hw]; exact (by (with_reducible repeat (first | refine blk_drewN ?_ _ | refine blk_drew ?_ | refine blk_alloc ?_ _)); refine blk_far ?_ NB253_256.out _; (with_reducible repeat (first | refine blk_drewN ?_ _ | refine blk_drew ?_ | refine blk_alloc ?_ _)); refine blk_far ?_ NB253_256.out _; (with_reducible repeat (first | refine blk_drewN ?_ _ | refine blk_drew ?_ | refine blk_alloc ?_ _)); refine blk_far ?_ NB253_256.out _; (with_reducible repeat (first | refine blk_drewN ?_ _ | refine blk_drew ?_ | refine blk_alloc ?_ _)); refine blk_far ?_ NB253_256.out _; (with_reducible repeat (first | refine blk_drewN ?_ _ | refine blk_drew ?_ | refine blk_alloc ?_ _)); exact BK253.out))⟩; have n4_ : Aside0 (w36.heap[gb256]? = some (.cells #[.int .i64 ((rd_T55 l0_0 a1).f0), .bool ((rd_T55 l0_0 a1).f1), .bool ((rd_T55 l0_0 a1).f2.f0), .slice A255_3 ((rd_T55 l0_0 a1).f2.f1).length c255_3] 55 (0, 0))) := ⟨(by rw [hw]; exact (by (with_reducible repeat (first | refine blk_drewN ?_ _ | refine blk_drew ?_ | refine blk_alloc ?_ _)); refine blk_put (cs := #[.int .i64 ((rd_T55 l0_0 a1).f0), .bool ((rd_T55 l0_0 a1).f1), .bool ((rd_T55 l0_0 a1).f2.f0), .slice none 0 0]) ?_ 3 _ rfl; (with_reducible repeat (first | refine blk_drewN ?_ _ | refine blk_drew ?_ | refine blk_alloc ?_ _)); refine blk_put (cs := #[.int .i64 ((rd_T55 l0_0 a1).f0), .bool ((rd_T55 l0_0 a1).f1), .bool false, .slice none 0 0]) ?_ 2 _ rfl; (with_reducible repeat (first | refine blk_drewN ?_ _ | refine blk_drew ?_ | refine blk_alloc ?_ _)); refine blk_put (cs := #[.int .i64 ((rd_T55 l0_0 a1).f0), .bool false, .bool false, .slice none 0 0]) ?_ 1 _ rfl; (with_reducible repeat (first | refine blk_drewN ?_ _ | refine blk_drew ?_ | refine blk_alloc ?_ _)); refine blk_put (cs := #[.int .i64 0, .bool false, .bool false, .slice none 0 0]) ?_ 0 _ rfl; (with_reducible repeat (first | refine blk_drewN ?_ _ | refine blk_drew ?_ | refine blk_alloc ?_ _)); exact BK256.out))⟩; have n5_ : Aside0 (Below w.heap.size w w36) := ⟨(by rw [hw]; exact (by repeat (first | (with_reducible first | exact HB.out | apply below_alloc | apply pw_below_drewN | apply below_drew1 | refine below_set ?_ GE252.out | refine below_set ?_ GE253.out | refine below_set ?_ GE256.out) | exact HB.out)))⟩; clear hw; clear HO0_0; clear HL255_3; clear BK252; clear BK253; clear BK256; clear HB; have HO0_0 := n0_; have HL255_3 := n1_; have BK252 := n2_; have BK253 := n3_; have BK256 := n4_; have HB := n5_; clear n0_ n1_ n2_ n3_ n4_ n5_; have hcz37_0 : w36.cell? ⟨gb256, 0, none⟩ = some (.int .i64 ((rd_T55 l0_0 a1).f0)) := (blk_cell BK256.out 0).trans rfl; have hcz37_1 : w36.cell? ⟨gb256, 1, none⟩ = some (.bool ((rd_T55 l0_0 a1).f1)) := (blk_cell BK256.out 1).trans rfl; have hcz37_2 : w36.cell? ⟨gb256, 2, none⟩ = some (.bool ((rd_T55 l0_0 a1).f2.f0)) := (blk_cell BK256.out 2).trans rfl; have hcz37_3 : w36.cell? ⟨gb256, 3, none⟩ = some (.slice A255_3 ((rd_T55 l0_0 a1).f2.f1).length c255_3) := (blk_cell BK256.out 3).trans rfl; have hfz37_0 := blk_frozen BK256.out 0; have hfz37_1 := blk_frozen BK256.out 1; have hfz37_2 := blk_frozen BK256.out 2; have hfz37_3 := blk_frozen BK256.out 3; have hcz38_0 : w36.cell? ⟨gb252, 0, none⟩ = some (.slice (some ad255) l0_0.length c0_0) := (blk_cell BK252.out 0).trans rfl; have hcz38_1 : w36.cell? ⟨gb252, 1, none⟩ = some (.int .i64 a0_1) := (blk_cell BK252.out 1).trans rfl; have hfz38_0 := blk_frozen BK252.out 0; have hfz38_1 := blk_frozen BK252.out 1) | ((with_reducible refine gate_callee (f := 80) rfl ?_); refine goesL_ (some 37) rfl rfl Try.func80 (by kernel_rfl) rfl #[.agg #[.slice (some ad255) l0_0.length c0_0, .int .i64 a0_1], .int .i64 a1, .agg #[.int .i64 0, .bool true, .bool false, .slice none 0 0]] rfl (by (try simp only [List.map_toArray, List.map_cons, List.map_nil]); first | done | rfl | (simp only [List.length_drop, List.length_take]; rfl)) ?_; (refine (assartref05_set.calls (fun k_ => ((P0_0_ k_ ∨ w.heap.size ≤ k_) ∧ (k_ ≠ gb252 ∧ (k_ ≠ gb253 ∧ k_ ≠ gb256)))) _ _ l0_0 a0_1 a1 0 true false (fun k_ => False) _ _ ([] : List (S49)) t261 t264 _ ?side1 ?side2 A25.out).mono ?_); (case side1 => exact HO0_0.out); (case side2 => exact Kd.V_nil _ _ _ _ _); rintro e w39 ⟨v262, rfl, ho0, hb⟩; refine ⟨_, rfl, ?_⟩; have n0_ := Aside0.mk (Kd.V_elder' (by (with_reducible repeat (first | apply Kd.V_alloc | apply Kd.V_drewN | apply Kd.V_drew)); exact HO0_0.out) (Kd.N_base ho0) hb); have n1_ := Aside0.mk (Kd.V_elder' (by (with_reducible repeat (first | apply Kd.V_alloc | apply Kd.V_drewN | apply Kd.V_drew)); exact HL255_3.out) (Kd.N_base ho0) hb); have n2_ := Aside0.mk (Kd.N_lower (Kd.N_mono (ok' := fun k_ => (P0_0_ k_ ∨ w.heap.size ≤ k_) ∧ k_ ≠ gb252 ∧ k_ ≠ gb253 ∧ k_ ≠ gb256) ho0 (fun k_ hk_ => ⟨Or.elim hk_ (fun hs_ => Or.elim hs_ (fun hs_ => hs_.1) (fun hs_ => (hs_).elim)) (fun hn_ => (.inr (Nat.le_trans (below_size (by repeat (first | (with_reducible first | exact HB.out | apply below_alloc | apply pw_below_drewN | apply below_drew1 | refine below_set ?_ GE252.out | refine below_set ?_ GE253.out | refine below_set ?_ GE256.out) | exact HB.out))) hn_))), Or.elim hk_ (fun hs_ => Or.elim hs_ (fun hs_ => hs_.2.1) (fun hs_ => (hs_).elim)) (fun hn_ => (Kd.freshB (g := gb252) (o := .cells #[.slice (some ad255) l0_0.length c0_0, .int .i64 a0_1] 24 (0, 0)) (by (with_reducible repeat (first | refine blk_drewN ?_ _ | refine blk_drew ?_ | refine blk_alloc ?_ _)); exact BK252.out) k_ hn_)), Or.elim hk_ (fun hs_ => Or.elim hs_ (fun hs_ => hs_.2.2.1) (fun hs_ => (hs_).elim)) (fun hn_ => (Kd.freshB (g := gb253) (o := .cells #[.slice none 0 0, .int .i64 0] 24 (0, 0)) (by (with_reducible repeat (first | refine blk_drewN ?_ _ | refine blk_drew ?_ | refine blk_alloc ?_ _)); exact BK253.out) k_ hn_)), Or.elim hk_ (fun hs_ => Or.elim hs_ (fun hs_ => hs_.2.2.2) (fun hs_ => (hs_).elim)) (fun hn_ => (Kd.freshB (g := gb256) (o := .cells #[.int .i64 ((rd_T55 l0_0 a1).f0), .bool ((rd_T55 l0_0 a1).f1), .bool ((rd_T55 l0_0 a1).f2.f0), .slice A255_3 ((rd_T55 l0_0 a1).f2.f1).length c255_3] 55 (0, 0)) (by (with_reducible repeat (first | refine blk_drewN ?_ _ | refine blk_drew ?_ | refine blk_alloc ?_ _)); exact BK256.out) k_ hn_))⟩)) (below_size (by repeat (first | (with_reducible first | exact HB.out | apply below_alloc | apply pw_below_drewN | apply below_drew1 | refine below_set ?_ GE252.out | refine below_set ?_ GE253.out | refine below_set ?_ GE256.out) | exact HB.out)))); have n3_ := Aside0.mk (blk_below (g := gb252) (o := .cells #[.slice (some ad255) l0_0.length c0_0, .int .i64 a0_1] 24 (0, 0)) (by (with_reducible repeat (first | refine blk_drewN ?_ _ | refine blk_drew ?_ | refine blk_alloc ?_ _)); exact BK252.out) hb); have n4_ := Aside0.mk (blk_below (g := gb253) (o := .cells #[.slice none 0 0, .int .i64 0] 24 (0, 0)) (by (with_reducible repeat (first | refine blk_drewN ?_ _ | refine blk_drew ?_ | refine blk_alloc ?_ _)); exact BK253.out) hb); have n6_ := Aside0.mk (blk_below (g := gb256) (o := .cells #[.int .i64 ((rd_T55 l0_0 a1).f0), .bool ((rd_T55 l0_0 a1).f1), .bool ((rd_T55 l0_0 a1).f2.f0), .slice A255_3 ((rd_T55 l0_0 a1).f2.f1).length c255_3] 55 (0, 0)) (by (with_reducible repeat (first | refine blk_drewN ?_ _ | refine blk_drew ?_ | refine blk_alloc ?_ _)); exact BK256.out) hb); have n7_ := Aside0.mk (below_step (by repeat (first | (with_reducible first | exact HB.out | apply below_alloc | apply pw_below_drewN | apply below_drew1 | refine below_set ?_ GE252.out | refine below_set ?_ GE253.out | refine below_set ?_ GE256.out) | exact HB.out)) hb); clear HO0_0; clear HL255_3; clear BK252; clear BK253; clear BK256; clear HB; have HO0_0 := n0_; have HL255_3 := n1_; have HO263 := n2_; have BK252 := n3_; have BK253 := n4_; have BK256 := n6_; have HB := n7_; clear n0_ n1_ n2_ n3_ n4_ n6_ n7_; (try clear hb); (try clear hb2); (try clear hk); (try clear hi); (try clear ho0); obtain ⟨Ao40, co40, eo40⟩ := Kd.N_slice HO263.out; subst eo40; have hcz41_0 : w39.cell? ⟨gb252, 0, none⟩ = some (.slice (some ad255) l0_0.length c0_0) := (blk_cell BK252.out 0).trans rfl; have hcz41_1 : w39.cell? ⟨gb252, 1, none⟩ = some (.int .i64 a0_1) := (blk_cell BK252.out 1).trans rfl; have hfz41_0 := blk_frozen BK252.out 0; have hfz41_1 := blk_frozen BK252.out 1))
     go_loopg [8] k (fun kq v8 w' => ∃ (x8_1 : Int) (x253000_1 : List (S55)) (x253001_1 : Int) (u253000 : Value), v8 = .int .i64 x8_1 ∧ Aside0 (assartref05_Loose.l0 kq x8_1 x253000_1 x253001_1 ((rd_T55 l0_0 a1).f0) ((rd_T55 l0_0 a1).f1) ((rd_T55 l0_0 a1).f2.f0) ((rd_T55 l0_0 a1).f2.f1) = some (r1, r2, r3)) ∧ Aside0 (kq ≤ k) ∧ Aside0 (Kd.V k55 55 w' w.heap.size (fun k_ => (P0_0_ k_ ∨ w.heap.size ≤ k_) ∧ k_ ≠ gb252 ∧ k_ ≠ gb253 ∧ k_ ≠ gb256) u253000 x253000_1) ∧ Aside0 (w'.heap[gb252]? = some (.cells #[u253000, .int .i64 x253001_1] 24 (0, 0))) ∧ Aside0 (w'.heap[gb253]? = some (.cells #[(.slice none 0 0), .int .i64 0] 24 (0, 0))) ∧ Aside0 (w'.heap[gb256]? = some (.cells #[.int .i64 ((rd_T55 l0_0 a1).f0), .bool ((rd_T55 l0_0 a1).f1), .bool ((rd_T55 l0_0 a1).f2.f0), (.slice A255_3 ((rd_T55 l0_0 a1).f2.f1).length c255_3)] 55 (0, 0))) ∧ Aside0 (Below w.heap.size w w'))
     case atStart => exact ⟨(0), (t261), (t264), (.slice Ao40 t261.length co40), (by first | rfl | (simp; done) | (simp [*]; done)), H', ⟨Nat.le_refl _⟩, ⟨Kd.N_V (by (with_reducible repeat (first | apply Kd.N_alloc | apply Kd.N_drewN | apply Kd.N_drew)); exact Kd.N_mono (Kd.N_far (p := ⟨gb252, 1, none⟩) (Kd.N_far (p := ⟨gb252, 0, none⟩) (Kd.N_mono HO263.out (fun k_ hk => (⟨hk, hk.2.1⟩ : _ ∧ k_ ≠ gb252))) (fun _ hk => hk.2) (.slice Ao40 t261.length co40)) (fun _ hk => hk.2) (.int .i64 t264)) (fun _ hk => ⟨hk.1.1, ⟨hk.1.2.1, ⟨hk.1.2.2.1, hk.1.2.2.2⟩⟩⟩))⟩, ⟨by (with_reducible repeat (first | refine blk_drewN ?_ _ | refine blk_drew ?_ | refine blk_alloc ?_ _)); refine blk_put (cs := #[.slice Ao40 t261.length co40, .int .i64 a0_1]) ?_ 1 _ rfl; (with_reducible repeat (first | refine blk_drewN ?_ _ | refine blk_drew ?_ | refine blk_alloc ?_ _)); refine blk_put (cs := #[.slice (some ad255) l0_0.length c0_0, .int .i64 a0_1]) ?_ 0 _ rfl; (with_reducible repeat (first | refine blk_drewN ?_ _ | refine blk_drew ?_ | refine blk_alloc ?_ _)); exact BK252.out⟩, ⟨by (with_reducible repeat (first | refine blk_drewN ?_ _ | refine blk_drew ?_ | refine blk_alloc ?_ _)); refine blk_far ?_ NB253_252.out _; (with_reducible repeat (first | refine blk_drewN ?_ _ | refine blk_drew ?_ | refine blk_alloc ?_ _)); refine blk_far ?_ NB253_252.out _; (with_reducible repeat (first | refine blk_drewN ?_ _ | refine blk_drew ?_ | refine blk_alloc ?_ _)); exact BK253.out⟩, ⟨by (with_reducible repeat (first | refine blk_drewN ?_ _ | refine blk_drew ?_ | refine blk_alloc ?_ _)); refine blk_far ?_ NB256_252.out _; (with_reducible repeat (first | refine blk_drewN ?_ _ | refine blk_drew ?_ | refine blk_alloc ?_ _)); refine blk_far ?_ NB256_252.out _; (with_reducible repeat (first | refine blk_drewN ?_ _ | refine blk_drew ?_ | refine blk_alloc ?_ _)); exact BK256.out⟩, ⟨by repeat (first | (with_reducible first | exact HB.out | apply below_alloc | apply pw_below_drewN | apply below_drew1 | refine below_set ?_ GE252.out | refine below_set ?_ GE253.out | refine below_set ?_ GE256.out) | exact HB.out)⟩⟩
     case round =>
      clear H'
      try clear c1
      try clear c2
      try clear p2
      try clear q2
      try clear hx2
      try clear c3
      try clear c4
      try clear c5
      try clear c5b0
      try clear c6
      try clear c6b0
      try clear p6
      try clear c7
      try clear c7b0
      try clear c8
      try clear c11
      try clear c16
      try clear c17
      try clear c25
      try clear p25
      try clear q25
      try clear hx25
      try clear c28
      try clear c33
      try clear c34
      try clear hcz12_0
      try clear hcz12_1
      try clear hcz14_0
      try clear hcz14_1
      try clear hcz18_0
      try clear hcz18_1
      try clear hcz18_2
      try clear hcz18_3
      try clear hcz20_0
      try clear hcz20_1
      try clear hcz20_2
      try clear hcz20_3
      try clear hcz21_0
      try clear hcz21_1
      try clear hcz24_0
      try clear hcz24_1
      try clear hcz29_0
      try clear hcz29_1
      try clear hcz31_0
      try clear hcz31_1
      try clear hcz35_0
      try clear hcz35_1
      try clear hcz35_2
      try clear hcz35_3
      try clear hcz37_0
      try clear hcz37_1
      try clear hcz37_2
      try clear hcz37_3
      try clear hcz38_0
      try clear hcz38_1
      try clear hcz41_0
      try clear hcz41_1
      try clear hfz12_0
      try clear hfz12_1
      try clear hfz14_0
      try clear hfz14_1
      try clear hfz18_0
      try clear hfz18_1
      try clear hfz18_2
      try clear hfz18_3
      try clear hfz20_0
      try clear hfz20_1
      try clear hfz20_2
      try clear hfz20_3
      try clear hfz21_0
      try clear hfz21_1
      try clear hfz24_0
      try clear hfz24_1
      try clear hfz29_0
      try clear hfz29_1
      try clear hfz31_0
      try clear hfz31_1
      try clear hfz35_0
      try clear hfz35_1
      try clear hfz35_2
      try clear hfz35_3
      try clear hfz37_0
      try clear hfz37_1
      try clear hfz37_2
      try clear hfz37_3
      try clear hfz38_0
      try clear hfz38_1
      try clear hfz41_0
      try clear hfz41_1
      try clear hx255_0
      try clear hx255_1
      try clear hx255_2
      try clear hx255_3
      try clear p255
      try clear q255
      obtain ⟨x8_1, x253000_1, x253001_1, u253000, rfl, HA, HK1, HO_253000, BK252, BK253, BK256, HB⟩ := hrel
      cases gk with
      | zero => exact absurd HA.out (by simp [assartref05_Loose.l0])
      | succ k1 =>
       have H := HA.out
       clear HA
       simp only [assartref05_Loose.l0] at H
       by_cases c42 : x8_1 < (((rd_T55 l0_0 a1).f2.f1).length : Int)
       ·rw [if_pos c42] at H
        have c42b0 : decide (x8_1 < (((rd_T55 l0_0 a1).f2.f1).length : Int)) = true := decide_eq_true c42
        clear c42
        by_cases c43 : ((rd_T55 l0_0 a1).f2.f0) = true
        ·rw [if_pos c43] at H
         have c43b0 : ((rd_T55 l0_0 a1).f2.f0) = true := c43
         clear c43
         simp only [Option.some.injEq, Prod.mk.injEq] at H
         obtain ⟨rfl, rfl, rfl⟩ := H
         have hnb44 := NB256_252.out
         have hnc44 := NB252_256.out
         have hnb45 := NB256_253.out
         have hnc45 := NB253_256.out
         have hcz46_0 : wr.cell? ⟨gb256, 0, none⟩ = some (.int .i64 ((rd_T55 l0_0 a1).f0)) := (blk_cell BK256.out 0).trans rfl
         have hcz46_1 : wr.cell? ⟨gb256, 1, none⟩ = some (.bool ((rd_T55 l0_0 a1).f1)) := (blk_cell BK256.out 1).trans rfl
         have hcz46_2 : wr.cell? ⟨gb256, 2, none⟩ = some (.bool ((rd_T55 l0_0 a1).f2.f0)) := (blk_cell BK256.out 2).trans rfl
         have hcz46_3 : wr.cell? ⟨gb256, 3, none⟩ = some (.slice A255_3 ((rd_T55 l0_0 a1).f2.f1).length c255_3) := (blk_cell BK256.out 3).trans rfl
         have hfz46_0 := blk_frozen BK256.out 0
         have hfz46_1 := blk_frozen BK256.out 1
         have hfz46_2 := blk_frozen BK256.out 2
         have hfz46_3 := blk_frozen BK256.out 3
         have hnb47 := NB252_253.out
         have hnc47 := NB253_252.out
         have hcz48_0 : wr.cell? ⟨gb252, 0, none⟩ = some (u253000) := (blk_cell BK252.out 0).trans rfl
         have hcz48_1 : wr.cell? ⟨gb252, 1, none⟩ = some (.int .i64 x253001_1) := (blk_cell BK252.out 1).trans rfl
         have hfz48_0 := blk_frozen BK252.out 0
         have hfz48_1 := blk_frozen BK252.out 1
         obtain ⟨Ao49, co49, eo49⟩ := Kd.V_slice HO_253000.out
         subst eo49
         have hcz50_0 : wr.cell? ⟨gb253, 0, none⟩ = some (.slice none 0 0) := (blk_cell BK253.out 0).trans rfl
         have hcz50_1 : wr.cell? ⟨gb253, 1, none⟩ = some (.int .i64 0) := (blk_cell BK253.out 1).trans rfl
         have hfz50_0 := blk_frozen BK253.out 0
         have hfz50_1 := blk_frozen BK253.out 1
         go_wp2
         refine bodyPost_ret (results_ct rfl _ _ gb253 24 #[.slice Ao49 x253000_1.length co49, .int .i64 x253001_1] (0, 0) _ rfl (by (with_reducible repeat (first | refine blk_drewN ?_ _ | refine blk_drew ?_ | refine blk_alloc ?_ _)); refine blk_put (cs := #[.slice Ao49 x253000_1.length co49, .int .i64 0]) ?_ 1 _ rfl; (with_reducible repeat (first | refine blk_drewN ?_ _ | refine blk_drew ?_ | refine blk_alloc ?_ _)); refine blk_put (cs := #[.slice none 0 0, .int .i64 0]) ?_ 0 _ rfl; (with_reducible repeat (first | refine blk_drewN ?_ _ | refine blk_drew ?_ | refine blk_alloc ?_ _)); exact BK253.out) Try.underlying24 rfl (by kernel_rfl)) rfl ?_
         exact ⟨_, by first | rfl | (simp [errW_none, errW_some] <;> rfl) | (simp [*, errW_none, errW_some] <;> rfl), by (with_reducible repeat (first | apply Kd.V_alloc | apply Kd.V_drewN | apply Kd.V_drew)); exact Kd.V_mono (Kd.V_far (p := ⟨gb253, 1, none⟩) (Kd.V_far (p := ⟨gb253, 0, none⟩) (Kd.V_mono HO_253000.out (fun k_ hk => (⟨hk, hk.2.2.1⟩ : _ ∧ k_ ≠ gb253))) (fun _ hk => hk.2) (.slice Ao49 x253000_1.length co49)) (fun _ hk => hk.2) (.int .i64 x253001_1)) (fun _ hk => hk.1.1), by repeat (first | (with_reducible first | exact HB.out | apply below_alloc | apply pw_below_drewN | apply below_drew1 | refine below_set ?_ GE252.out | refine below_set ?_ GE253.out | refine below_set ?_ GE256.out) | exact HB.out)⟩
        ·rw [if_neg c43] at H
         have c43b0 : ((rd_T55 l0_0 a1).f2.f0) = false := by simpa using c43
         clear c43
         by_cases c51 : 0 ≤ x8_1
         ·rw [if_pos c51] at H
          have c51b0 : decide (0 ≤ x8_1) = true := decide_eq_true c51
          clear c51
          replace H := Option.bind_eq_some_iff.mp H
          obtain ⟨⟨t266, t269, t270⟩, A520, H⟩ := H
          replace H : (assartref05_Loose.l0 k1 (wrap64 (x8_1 + 1)) t266 t269 ((rd_T55 l0_0 a1).f0) ((rd_T55 l0_0 a1).f1) ((rd_T55 l0_0 a1).f2.f0) ((rd_T55 l0_0 a1).f2.f1)) = some (r1, r2, r3) := H
          have A52 := Aside0.mk A520
          clear A520
          have H' := Aside0.mk H
          clear H
          have hnb53 := NB256_252.out
          have hnc53 := NB252_256.out
          have hnb54 := NB256_253.out
          have hnc54 := NB253_256.out
          have hcz55_0 : wr.cell? ⟨gb256, 0, none⟩ = some (.int .i64 ((rd_T55 l0_0 a1).f0)) := (blk_cell BK256.out 0).trans rfl
          have hcz55_1 : wr.cell? ⟨gb256, 1, none⟩ = some (.bool ((rd_T55 l0_0 a1).f1)) := (blk_cell BK256.out 1).trans rfl
          have hcz55_2 : wr.cell? ⟨gb256, 2, none⟩ = some (.bool ((rd_T55 l0_0 a1).f2.f0)) := (blk_cell BK256.out 2).trans rfl
          have hcz55_3 : wr.cell? ⟨gb256, 3, none⟩ = some (.slice A255_3 ((rd_T55 l0_0 a1).f2.f1).length c255_3) := (blk_cell BK256.out 3).trans rfl
          have hfz55_0 := blk_frozen BK256.out 0
          have hfz55_1 := blk_frozen BK256.out 1
          have hfz55_2 := blk_frozen BK256.out 2
          have hfz55_3 := blk_frozen BK256.out 3
          obtain ⟨Ao56, co56, eo56⟩ := Kd.V_slice HO_253000.out
          subst eo56
          try go_wp2
          have n0_ := Aside0.mk (Kd.V_drew HO_253000.out)
          have n1_ := Aside0.mk (blk_drew BK252.out)
          have n2_ := Aside0.mk (blk_drew BK253.out)
          have n3_ := Aside0.mk (blk_drew BK256.out)
          have n4_ := Aside0.mk (below_drew1 HB.out)
          clear HO_253000
          clear BK252
          clear BK253
          clear BK256
          clear HB
          have HO_253000 := n0_
          have BK252 := n1_
          have BK253 := n2_
          have BK256 := n3_
          have HB := n4_
          clear n0_ n1_ n2_ n3_ n4_
          have p265 : 0 ≤ (x8_1 : Int) := of_decide_eq_true (by first | (with_reducible assumption) | assumption)
          have q265 : x8_1 < (((rd_T55 l0_0 a1).f2.f1).length : Int) := of_decide_eq_true (by first | (with_reducible assumption) | assumption)
          obtain ⟨ad265, e265, hx265_0, hx265_1⟩ := at_T49 HR255_3.out x8_1 p265 q265
          have hw265_1 := hx265_1
          have hw265_0 := hx265_0
          cases e265
          replace hx265_0 := (HB.out.cell (World.block_lt_of_cell? w _ hx265_0)).trans hx265_0
          replace hx265_1 := (HB.out.cell (World.block_lt_of_cell? w _ hx265_1)).trans hx265_1
          replace p265 := eq_true p265
          replace q265 := eq_true q265
          refine start_ (n := 15) (S := fun w' => w'.cell? ⟨gb252, 0, none⟩ = some (.slice Ao56 x253000_1.length co56) ∧ w'.cell? ⟨gb252, 1, none⟩ = some (.int .i64 x253001_1) ∧ w'.cell? ⟨gb256, 0, none⟩ = some (.int .i64 ((rd_T55 l0_0 a1).f0)) ∧ w'.cell? ⟨gb256, 1, none⟩ = some (.bool ((rd_T55 l0_0 a1).f1)) ∧ w'.cell? ⟨gb256, 2, none⟩ = some (.bool ((rd_T55 l0_0 a1).f2.f0)) ∧ w'.cell? ⟨gb256, 3, none⟩ = some (.slice (some ad265) ((rd_T55 l0_0 a1).f2.f1).length c255_3) ∧ w'.cell? (ad265.add ((x8_1).toNat * 2)) = some (.int .i64 ((rd_T49 ((rd_T55 l0_0 a1).f2.f1) x8_1).f0)) ∧ w'.cell? ⟨(ad265.add ((x8_1).toNat * 2)).block, (ad265.add ((x8_1).toNat * 2)).off + 1, none⟩ = some (.int .i64 ((rd_T49 ((rd_T55 l0_0 a1).f2.f1) x8_1).f1))) (ds := []) #[false, false, false, false, false, false, false, false, false, false, false, false, false, false, false] (by kernel_rfl) rfl rfl ⟨(blk_cell BK252.out 0).trans rfl, (blk_cell BK252.out 1).trans rfl, (blk_cell BK256.out 0).trans rfl, (blk_cell BK256.out 1).trans rfl, (blk_cell BK256.out 2).trans rfl, (blk_cell BK256.out 3).trans rfl, ((HB.out.cell (World.block_lt_of_cell? w _ hw265_0)).trans hw265_0), ((HB.out.cell (World.block_lt_of_cell? w _ hw265_1)).trans hw265_1)⟩ (fun hHeld => ?_); refine with_tabW assartref05_Loose.tab11 assartref05_Loose.bits11 (fun HT_ HW_ => ?_)
          generalize wr.drew = w57 at HO_253000 BK252 BK253 BK256 HB hx265_0 hx265_1 hHeld ⊢
          refine pure_ (i := 1) (N := some 54) (v := ?_) (a' := ?_) #[false, true, false, false, false, false, false, false, false, false, false, false, false, false, false] rfl rfl (any_of HT_.out (by kernel_rfl)) (fun _ _ _ h => h) (Or.inl ⟨by rfl, ?_⟩) ?_ ?_
          rotate_left
          ·intro w'
           go_simp
           with_reducible rfl
          rotate_left
          ·simp only [Act.put, List.setIfInBounds_toArray, List.set_cons_zero, List.set_cons_succ, i64_w, i32_w]
           rfl
          refine pure_ (i := 2) (N := some 55) (v := ?_) (a' := ?_) #[false, true, true, false, false, false, false, false, false, false, false, false, false, false, false] rfl rfl (any_of HT_.out (by kernel_rfl)) (fun _ _ _ h => h) (Or.inl ⟨by rfl, ?_⟩) ?_ ?_
          rotate_left
          ·intro w'
           go_simp
           with_reducible rfl
          rotate_left
          ·simp only [Act.put, List.setIfInBounds_toArray, List.set_cons_zero, List.set_cons_succ, i64_w, i32_w]
           rfl
          refine pure_ (i := 4) (N := some 57) (v := ?_) (a' := ?_) #[false, true, true, false, true, false, false, false, false, false, false, false, false, false, false] rfl rfl (any_of HT_.out (by kernel_rfl)) (fun _ _ _ h => h) (Or.inl ⟨by rfl, ?_⟩) ?_ ?_
          rotate_left
          ·intro w'
           go_simp
           with_reducible rfl
          rotate_left
          ·simp only [Act.put, List.setIfInBounds_toArray, List.set_cons_zero, List.set_cons_succ, i64_w, i32_w]
           rfl
          refine take_ (i := 0) (N := some 53) (v := ?_) (a' := ?_) #[true, true, true, false, true, false, false, false, false, false, false, false, false, false, false] rfl rfl (take_ofW HT_.out HW_.out (by kernel_rfl)) (fun _ _ _ h => h) (Or.inl ⟨by rfl, ?_⟩) hHeld ?_ ?_
          rotate_left
          ·rintro w' ⟨s0, s1, s2, s3, s4, s5, s6, s7⟩
           go_simp
           with_reducible rfl
          rotate_left
          ·simp only [Act.put, List.setIfInBounds_toArray, List.set_cons_zero, List.set_cons_succ, i64_w, i32_w]
           rfl
          refine take_ (i := 3) (N := some 56) (v := ?_) (a' := ?_) #[true, true, true, true, true, false, false, false, false, false, false, false, false, false, false] rfl rfl (take_ofW HT_.out HW_.out (by kernel_rfl)) (fun _ _ _ h => h) (Or.inl ⟨by rfl, ?_⟩) hHeld ?_ ?_
          rotate_left
          ·rintro w' ⟨s0, s1, s2, s3, s4, s5, s6, s7⟩
           go_simp
           with_reducible rfl
          rotate_left
          ·simp only [Act.put, List.setIfInBounds_toArray, List.set_cons_zero, List.set_cons_succ, i64_w, i32_w]
           rfl
          refine pure_ (i := 5) (N := some 58) (v := ?_) (a' := ?_) #[true, true, true, true, true, true, false, false, false, false, false, false, false, false, false] rfl rfl (any_of HT_.out (by kernel_rfl)) (fun _ _ _ h => h) (Or.inl ⟨by rfl, ?_⟩) ?_ ?_
          rotate_left
          ·intro w'
           go_simp
           with_reducible rfl
          rotate_left
          ·simp only [Act.put, List.setIfInBounds_toArray, List.set_cons_zero, List.set_cons_succ, i64_w, i32_w]
           rfl
          refine pure_ (i := 6) (N := some 59) (v := ?_) (a' := ?_) #[true, true, true, true, true, true, true, false, false, false, false, false, false, false, false] rfl rfl (any_of HT_.out (by kernel_rfl)) (fun _ _ _ h => h) (Or.inl ⟨by rfl, ?_⟩) ?_ ?_
          rotate_left
          ·intro w'
           go_simp
           with_reducible rfl
          rotate_left
          ·simp only [Act.put, List.setIfInBounds_toArray, List.set_cons_zero, List.set_cons_succ, i64_w, i32_w]
           rfl
          refine take_ (i := 7) (N := some 60) (v := ?_) (a' := ?_) #[true, true, true, true, true, true, true, true, false, false, false, false, false, false, false] rfl rfl (take_ofW HT_.out HW_.out (by kernel_rfl)) (fun _ _ _ h => h) (Or.inl ⟨by rfl, ?_⟩) hHeld ?_ ?_
          rotate_left
          ·rintro w' ⟨s0, s1, s2, s3, s4, s5, s6, s7⟩
           go_simp
           with_reducible rfl
          rotate_left
          ·simp only [Act.put, List.setIfInBounds_toArray, List.set_cons_zero, List.set_cons_succ, i64_w, i32_w]
           rfl
          refine join_ (σ := Value × Nat) 2 #[true, true, true, true, true, true, true, true, true, true, true, true, true, false, false] (fun s_ => [(61, .tuple #[.agg #[s_.1, .int .i64 t269], .int .i64 t270]), (9, .pointer (some ⟨s_.2, 0, none⟩)), (52, .tuple #[.agg #[s_.1, .int .i64 t269], .int .i64 t270]), (62, .agg #[s_.1, .int .i64 t269]), (63, .int .i64 t270)]) (fun s_ w' => (w'.cell? ⟨gb252, 0, none⟩ = some (.slice Ao56 x253000_1.length co56) ∧ w'.cell? ⟨gb252, 1, none⟩ = some (.int .i64 x253001_1) ∧ w'.cell? ⟨gb256, 0, none⟩ = some (.int .i64 ((rd_T55 l0_0 a1).f0)) ∧ w'.cell? ⟨gb256, 1, none⟩ = some (.bool ((rd_T55 l0_0 a1).f1)) ∧ w'.cell? ⟨gb256, 2, none⟩ = some (.bool ((rd_T55 l0_0 a1).f2.f0)) ∧ w'.cell? ⟨gb256, 3, none⟩ = some (.slice (some ad265) ((rd_T55 l0_0 a1).f2.f1).length c255_3) ∧ w'.cell? (ad265.add ((x8_1).toNat * 2)) = some (.int .i64 ((rd_T49 ((rd_T55 l0_0 a1).f2.f1) x8_1).f0)) ∧ w'.cell? ⟨(ad265.add ((x8_1).toNat * 2)).block, (ad265.add ((x8_1).toNat * 2)).off + 1, none⟩ = some (.int .i64 ((rd_T49 ((rd_T55 l0_0 a1).f2.f1) x8_1).f1))) ∧ (Kd.V k55 55 w' w.heap.size (fun k_ => (P0_0_ k_ ∨ w.heap.size ≤ k_) ∧ k_ ≠ gb252 ∧ k_ ≠ gb253 ∧ k_ ≠ gb256 ∧ k_ ≠ s_.2) s_.1 t266) ∧ (Kd.V k55 55 w' w.heap.size (fun k_ => (P0_0_ k_ ∨ w.heap.size ≤ k_) ∧ k_ ≠ gb252 ∧ k_ ≠ gb253 ∧ k_ ≠ gb256 ∧ k_ ≠ s_.2) (.slice Ao56 x253000_1.length co56) x253000_1) ∧ (w'.heap[gb252]? = some (.cells #[.slice Ao56 x253000_1.length co56, .int .i64 x253001_1] 24 (0, 0))) ∧ (w'.heap[gb253]? = some (.cells #[.slice none 0 0, .int .i64 0] 24 (0, 0))) ∧ (w'.heap[gb256]? = some (.cells #[.int .i64 ((rd_T55 l0_0 a1).f0), .bool ((rd_T55 l0_0 a1).f1), .bool ((rd_T55 l0_0 a1).f2.f0), .slice (some ad265) ((rd_T55 l0_0 a1).f2.f1).length c255_3] 55 (0, 0))) ∧ (w'.heap[s_.2]? = some (.cells #[.slice none 0 0, .int .i64 0] 24 (0, 0))) ∧ (w.heap.size ≤ s_.2) ∧ (w.heap.size ≤ s_.2) ∧ (gb252 ≠ s_.2) ∧ (s_.2 ≠ gb252) ∧ (gb253 ≠ s_.2) ∧ (s_.2 ≠ gb253) ∧ (gb256 ≠ s_.2) ∧ (s_.2 ≠ gb256) ∧ (Below w.heap.size w w')) ?_ ?_
          rotate_left
          ·intro hCont
           refine two_ (i := 8) (j := 12) (Ni := some 61) (Nj := some 9) #[true, true, true, true, true, true, true, true, true, false, false, false, false, false, false] #[true, true, true, true, true, true, true, true, false, false, false, false, true, false, false] rfl rfl rfl rfl (two_of HT_.out (by kernel_rfl)) (by decide) (by decide) (fun K hK => ?_) (fun K hK => ?_)
           ·skip
            refine goes_ Try.func49 (by kernel_rfl) rfl #[.agg #[.slice Ao56 x253000_1.length co56, .int .i64 x253001_1], .int .i64 ((rd_T49 ((rd_T55 l0_0 a1).f2.f1) x8_1).f1)] (by rfl) rfl rfl (by (try simp only [List.map_toArray, List.map_cons, List.map_nil]); first | done | rfl | (simp only [List.length_drop, List.length_take]; rfl)) ?_
            with_reducible refine (ih k1 (by have := HK1.out; omega) (fun k_ => ((P0_0_ k_ ∨ w.heap.size ≤ k_) ∧ (k_ ≠ gb252 ∧ (k_ ≠ gb253 ∧ k_ ≠ gb256)))) _ _ x253000_1 x253001_1 ((rd_T49 ((rd_T55 l0_0 a1).f2.f1) x8_1).f1) t266 t269 t270 _ ?side1 A52.out).mono ?_
            (case side1 => exact HO_253000.out)
            rintro e w58 ⟨v267, rfl, ho0, hb⟩
            refine ⟨_, rfl, ?_⟩
            have n0_ := Aside0.mk (Kd.V_below (by (with_reducible repeat (first | apply Kd.V_alloc | apply Kd.V_drewN | apply Kd.V_drew)); exact HO_253000.out) hb)
            have n1_ := Aside0.mk (Kd.V_lower (Kd.V_mono (ok' := fun k_ => (P0_0_ k_ ∨ w.heap.size ≤ k_) ∧ k_ ≠ gb252 ∧ k_ ≠ gb253 ∧ k_ ≠ gb256) ho0 (fun k_ hk_ => ⟨Or.elim hk_ (fun hs_ => hs_.1) (fun hn_ => (.inr (Nat.le_trans (below_size (by repeat (first | (with_reducible first | exact HB.out | apply below_alloc | apply pw_below_drewN | apply below_drew1 | refine below_set ?_ GE252.out | refine below_set ?_ GE253.out | refine below_set ?_ GE256.out) | exact HB.out))) hn_))), Or.elim hk_ (fun hs_ => hs_.2.1) (fun hn_ => (Kd.freshB (g := gb252) (o := .cells #[.slice Ao56 x253000_1.length co56, .int .i64 x253001_1] 24 (0, 0)) (by (with_reducible repeat (first | refine blk_drewN ?_ _ | refine blk_drew ?_ | refine blk_alloc ?_ _)); exact BK252.out) k_ hn_)), Or.elim hk_ (fun hs_ => hs_.2.2.1) (fun hn_ => (Kd.freshB (g := gb253) (o := .cells #[.slice none 0 0, .int .i64 0] 24 (0, 0)) (by (with_reducible repeat (first | refine blk_drewN ?_ _ | refine blk_drew ?_ | refine blk_alloc ?_ _)); exact BK253.out) k_ hn_)), Or.elim hk_ (fun hs_ => hs_.2.2.2) (fun hn_ => (Kd.freshB (g := gb256) (o := .cells #[.int .i64 ((rd_T55 l0_0 a1).f0), .bool ((rd_T55 l0_0 a1).f1), .bool ((rd_T55 l0_0 a1).f2.f0), .slice (some ad265) ((rd_T55 l0_0 a1).f2.f1).length c255_3] 55 (0, 0)) (by (with_reducible repeat (first | refine blk_drewN ?_ _ | refine blk_drew ?_ | refine blk_alloc ?_ _)); exact BK256.out) k_ hn_))⟩)) (below_size (by repeat (first | (with_reducible first | exact HB.out | apply below_alloc | apply pw_below_drewN | apply below_drew1 | refine below_set ?_ GE252.out | refine below_set ?_ GE253.out | refine below_set ?_ GE256.out) | exact HB.out))))
            have n2_ := Aside0.mk (blk_below (g := gb252) (o := .cells #[.slice Ao56 x253000_1.length co56, .int .i64 x253001_1] 24 (0, 0)) (by (with_reducible repeat (first | refine blk_drewN ?_ _ | refine blk_drew ?_ | refine blk_alloc ?_ _)); exact BK252.out) hb)
            have n3_ := Aside0.mk (blk_below (g := gb253) (o := .cells #[.slice none 0 0, .int .i64 0] 24 (0, 0)) (by (with_reducible repeat (first | refine blk_drewN ?_ _ | refine blk_drew ?_ | refine blk_alloc ?_ _)); exact BK253.out) hb)
            have n4_ := Aside0.mk (blk_below (g := gb256) (o := .cells #[.int .i64 ((rd_T55 l0_0 a1).f0), .bool ((rd_T55 l0_0 a1).f1), .bool ((rd_T55 l0_0 a1).f2.f0), .slice (some ad265) ((rd_T55 l0_0 a1).f2.f1).length c255_3] 55 (0, 0)) (by (with_reducible repeat (first | refine blk_drewN ?_ _ | refine blk_drew ?_ | refine blk_alloc ?_ _)); exact BK256.out) hb)
            have n5_ := Aside0.mk (below_step (by repeat (first | (with_reducible first | exact HB.out | apply below_alloc | apply pw_below_drewN | apply below_drew1 | refine below_set ?_ GE252.out | refine below_set ?_ GE253.out | refine below_set ?_ GE256.out) | exact HB.out)) hb)
            clear HO_253000
            clear BK252
            clear BK253
            clear BK256
            clear HB
            have HO_253000 := n0_
            have HO268 := n1_
            have BK252 := n2_
            have BK253 := n3_
            have BK256 := n4_
            have HB := n5_
            clear n0_ n1_ n2_ n3_ n4_ n5_
            (try clear hb)
            (try clear hb2)
            (try clear hk)
            (try clear hi)
            (try clear ho0)
            refine hK.out _ _ ⟨(blk_cell BK252.out 0).trans rfl, (blk_cell BK252.out 1).trans rfl, (blk_cell BK256.out 0).trans rfl, (blk_cell BK256.out 1).trans rfl, (blk_cell BK256.out 2).trans rfl, (blk_cell BK256.out 3).trans rfl, ((HB.out.cell (World.block_lt_of_cell? w _ hw265_0)).trans hw265_0), ((HB.out.cell (World.block_lt_of_cell? w _ hw265_1)).trans hw265_1)⟩ (fun hHeld => ?_)
            clear hK K
            refine norm_ (a' := ?_) ?_ ?_
            rotate_left
            ·show Act.put _ (some 61) _ = _
             simp only [Act.put, List.setIfInBounds_toArray, List.set_cons_zero, List.set_cons_succ, i64_w, i32_w]
             rfl
            refine pure_ (i := 9) (N := some 52) (v := ?_) (a' := ?_) #[true, true, true, true, true, true, true, true, true, true, false, false, false, false, false] rfl rfl (any_of HT_.out (by kernel_rfl)) (fun _ _ _ h => h) (Or.inl ⟨by rfl, ?_⟩) ?_ ?_
            rotate_left
            ·intro w'
             go_simp
             with_reducible rfl
            rotate_left
            ·simp only [Act.put, List.setIfInBounds_toArray, List.set_cons_zero, List.set_cons_succ, i64_w, i32_w]
             rfl
            refine pure_ (i := 10) (N := some 62) (v := ?_) (a' := ?_) #[true, true, true, true, true, true, true, true, true, true, true, false, false, false, false] rfl rfl (any_of HT_.out (by kernel_rfl)) (fun _ _ _ h => h) (Or.inl ⟨by rfl, ?_⟩) ?_ ?_
            rotate_left
            ·intro w'
             go_simp
             with_reducible rfl
            rotate_left
            ·simp only [Act.put, List.setIfInBounds_toArray, List.set_cons_zero, List.set_cons_succ, i64_w, i32_w]
             rfl
            refine pure_ (i := 11) (N := some 63) (v := ?_) (a' := ?_) #[true, true, true, true, true, true, true, true, true, true, true, true, false, false, false] rfl rfl (any_of HT_.out (by kernel_rfl)) (fun _ _ _ h => h) (Or.inl ⟨by rfl, ?_⟩) ?_ ?_
            rotate_left
            ·intro w'
             go_simp
             with_reducible rfl
            rotate_left
            ·simp only [Act.put, List.setIfInBounds_toArray, List.set_cons_zero, List.set_cons_succ, i64_w, i32_w]
             rfl
            refine one_ (i := 12) (N := some 9) #[true, true, true, true, true, true, true, true, true, true, true, true, true, false, false] rfl rfl (one_of HT_.out (by kernel_rfl)) (by decide) (fun K hK => ?_)
            refine box_step ?hg (N := 9) ?hd (cs := #[.slice none 0 0, .int .i64 0]) (t := 24) ?hr ?_; (case hd => rfl); (case hg => rfl); (case hr => first | (go_simp; done) | (go_simp; rfl))
            intro gb271 hg w59 hbox hb
            have n0_ := Aside0.mk (Kd.V_below (Kd.V_elderB (by (with_reducible repeat (first | apply Kd.V_alloc | apply Kd.V_drewN | apply Kd.V_drew)); exact HO_253000.out) gb271 (Nat.le_of_eq hg.symm)) hb)
            have n1_ := Aside0.mk (Kd.V_below (Kd.V_elderB (by (with_reducible repeat (first | apply Kd.V_alloc | apply Kd.V_drewN | apply Kd.V_drew)); exact HO268.out) gb271 (Nat.le_of_eq hg.symm)) hb)
            have n2_ := Aside0.mk (blk_below (g := gb252) (o := .cells #[.slice Ao56 x253000_1.length co56, .int .i64 x253001_1] 24 (0, 0)) (by (with_reducible repeat (first | refine blk_drewN ?_ _ | refine blk_drew ?_ | refine blk_alloc ?_ _)); exact BK252.out) hb)
            have n3_ := Aside0.mk (blk_below (g := gb253) (o := .cells #[.slice none 0 0, .int .i64 0] 24 (0, 0)) (by (with_reducible repeat (first | refine blk_drewN ?_ _ | refine blk_drew ?_ | refine blk_alloc ?_ _)); exact BK253.out) hb)
            have n4_ := Aside0.mk (blk_below (g := gb256) (o := .cells #[.int .i64 ((rd_T55 l0_0 a1).f0), .bool ((rd_T55 l0_0 a1).f1), .bool ((rd_T55 l0_0 a1).f2.f0), .slice (some ad265) ((rd_T55 l0_0 a1).f2.f1).length c255_3] 55 (0, 0)) (by (with_reducible repeat (first | refine blk_drewN ?_ _ | refine blk_drew ?_ | refine blk_alloc ?_ _)); exact BK256.out) hb)
            have n5_ := Aside0.mk (below_step (by repeat (first | (with_reducible first | exact HB.out | apply below_alloc | apply pw_below_drewN | apply below_drew1 | refine below_set ?_ GE252.out | refine below_set ?_ GE253.out | refine below_set ?_ GE256.out) | exact HB.out)) hb)
            have n6_ := Aside0.mk (hbox)
            have n7_ := Aside0.mk ((by rw [hg]; exact (below_size (by repeat (first | (with_reducible first | exact HB.out | apply below_alloc | apply pw_below_drewN | apply below_drew1 | refine below_set ?_ GE252.out | refine below_set ?_ GE253.out | refine below_set ?_ GE256.out) | exact HB.out))) : w.heap.size ≤ gb271))
            have n8_ := Aside0.mk ((by rw [hg]; exact (below_size (by repeat (first | (with_reducible first | exact HB.out | apply below_alloc | apply pw_below_drewN | apply below_drew1 | refine below_set ?_ GE252.out | refine below_set ?_ GE253.out | refine below_set ?_ GE256.out) | exact HB.out))) : w.heap.size ≤ gb271))
            have n9_ := Aside0.mk ((by rw [hg]; exact Nat.ne_of_lt (blk_lt (g := gb252) (o := .cells #[.slice Ao56 x253000_1.length co56, .int .i64 x253001_1] 24 (0, 0)) (by (with_reducible repeat (first | refine blk_drewN ?_ _ | refine blk_drew ?_ | refine blk_alloc ?_ _)); exact BK252.out)) : gb252 ≠ gb271))
            have n10_ := Aside0.mk ((by rw [hg]; exact Nat.ne_of_gt (blk_lt (g := gb252) (o := .cells #[.slice Ao56 x253000_1.length co56, .int .i64 x253001_1] 24 (0, 0)) (by (with_reducible repeat (first | refine blk_drewN ?_ _ | refine blk_drew ?_ | refine blk_alloc ?_ _)); exact BK252.out)) : gb271 ≠ gb252))
            have n11_ := Aside0.mk ((by rw [hg]; exact Nat.ne_of_lt (blk_lt (g := gb253) (o := .cells #[.slice none 0 0, .int .i64 0] 24 (0, 0)) (by (with_reducible repeat (first | refine blk_drewN ?_ _ | refine blk_drew ?_ | refine blk_alloc ?_ _)); exact BK253.out)) : gb253 ≠ gb271))
            have n12_ := Aside0.mk ((by rw [hg]; exact Nat.ne_of_gt (blk_lt (g := gb253) (o := .cells #[.slice none 0 0, .int .i64 0] 24 (0, 0)) (by (with_reducible repeat (first | refine blk_drewN ?_ _ | refine blk_drew ?_ | refine blk_alloc ?_ _)); exact BK253.out)) : gb271 ≠ gb253))
            have n13_ := Aside0.mk ((by rw [hg]; exact Nat.ne_of_lt (blk_lt (g := gb256) (o := .cells #[.int .i64 ((rd_T55 l0_0 a1).f0), .bool ((rd_T55 l0_0 a1).f1), .bool ((rd_T55 l0_0 a1).f2.f0), .slice (some ad265) ((rd_T55 l0_0 a1).f2.f1).length c255_3] 55 (0, 0)) (by (with_reducible repeat (first | refine blk_drewN ?_ _ | refine blk_drew ?_ | refine blk_alloc ?_ _)); exact BK256.out)) : gb256 ≠ gb271))
            have n14_ := Aside0.mk ((by rw [hg]; exact Nat.ne_of_gt (blk_lt (g := gb256) (o := .cells #[.int .i64 ((rd_T55 l0_0 a1).f0), .bool ((rd_T55 l0_0 a1).f1), .bool ((rd_T55 l0_0 a1).f2.f0), .slice (some ad265) ((rd_T55 l0_0 a1).f2.f1).length c255_3] 55 (0, 0)) (by (with_reducible repeat (first | refine blk_drewN ?_ _ | refine blk_drew ?_ | refine blk_alloc ?_ _)); exact BK256.out)) : gb271 ≠ gb256))
            clear HO_253000
            clear HO268
            clear BK252
            clear BK253
            clear BK256
            clear HB
            have HO_253000 := n0_
            have HO268 := n1_
            have BK252 := n2_
            have BK253 := n3_
            have BK256 := n4_
            have HB := n5_
            have BK271 := n6_
            have GW271 := n7_
            have GE271 := n8_
            have NB252_271 := n9_
            have NB271_252 := n10_
            have NB253_271 := n11_
            have NB271_253 := n12_
            have NB256_271 := n13_
            have NB271_256 := n14_
            clear n0_ n1_ n2_ n3_ n4_ n5_ n6_ n7_ n8_ n9_ n10_ n11_ n12_ n13_ n14_
            clear hb hbox hg
            refine hK.out _ _ ⟨(blk_cell BK252.out 0).trans rfl, (blk_cell BK252.out 1).trans rfl, (blk_cell BK256.out 0).trans rfl, (blk_cell BK256.out 1).trans rfl, (blk_cell BK256.out 2).trans rfl, (blk_cell BK256.out 3).trans rfl, ((HB.out.cell (World.block_lt_of_cell? w _ hw265_0)).trans hw265_0), ((HB.out.cell (World.block_lt_of_cell? w _ hw265_1)).trans hw265_1)⟩ (fun hHeld => ?_)
            clear hK K
            refine norm_ (a' := ?_) ?_ ?_
            rotate_left
            ·show Act.put _ (some 9) _ = _
             simp only [Act.put, List.setIfInBounds_toArray, List.set_cons_zero, List.set_cons_succ, i64_w, i32_w]
             rfl
            exact norm_ (by simp only [putAll, Act.put, List.setIfInBounds_toArray, List.set_cons_zero, List.set_cons_succ]) (hCont (v267, gb271) _ ⟨hHeld, (by (with_reducible repeat (first | apply Kd.V_alloc | apply Kd.V_drewN | apply Kd.V_drew)); exact Kd.V_mono HO268.out (fun _ hk => ⟨hk.1.1, ⟨hk.1.2.1, ⟨hk.1.2.2.1, ⟨hk.1.2.2.2, hk.2⟩⟩⟩⟩)), (by (with_reducible repeat (first | apply Kd.V_alloc | apply Kd.V_drewN | apply Kd.V_drew)); exact Kd.V_mono HO_253000.out (fun _ hk => ⟨hk.1.1, ⟨hk.1.2.1, ⟨hk.1.2.2.1, ⟨hk.1.2.2.2, hk.2⟩⟩⟩⟩)), (by (with_reducible repeat (first | refine blk_drewN ?_ _ | refine blk_drew ?_ | refine blk_alloc ?_ _)); exact BK252.out), (by (with_reducible repeat (first | refine blk_drewN ?_ _ | refine blk_drew ?_ | refine blk_alloc ?_ _)); exact BK253.out), (by (with_reducible repeat (first | refine blk_drewN ?_ _ | refine blk_drew ?_ | refine blk_alloc ?_ _)); exact BK256.out), (by (with_reducible repeat (first | refine blk_drewN ?_ _ | refine blk_drew ?_ | refine blk_alloc ?_ _)); exact BK271.out), GW271.out, GE271.out, NB252_271.out, NB271_252.out, NB253_271.out, NB271_253.out, NB256_271.out, NB271_256.out, (by repeat (first | (with_reducible first | exact HB.out | apply below_alloc | apply pw_below_drewN | apply below_drew1 | refine below_set ?_ GE252.out | refine below_set ?_ GE253.out | refine below_set ?_ GE256.out | refine below_set ?_ GE271.out) | exact HB.out))⟩)
           ·skip
            refine box_step ?hg (N := 9) ?hd (cs := #[.slice none 0 0, .int .i64 0]) (t := 24) ?hr ?_; (case hd => rfl); (case hg => rfl); (case hr => first | (go_simp; done) | (go_simp; rfl))
            intro gb271 hg w58 hbox hb
            have n0_ := Aside0.mk (Kd.V_below (Kd.V_elderB (by (with_reducible repeat (first | apply Kd.V_alloc | apply Kd.V_drewN | apply Kd.V_drew)); exact HO_253000.out) gb271 (Nat.le_of_eq hg.symm)) hb)
            have n1_ := Aside0.mk (blk_below (g := gb252) (o := .cells #[.slice Ao56 x253000_1.length co56, .int .i64 x253001_1] 24 (0, 0)) (by (with_reducible repeat (first | refine blk_drewN ?_ _ | refine blk_drew ?_ | refine blk_alloc ?_ _)); exact BK252.out) hb)
            have n2_ := Aside0.mk (blk_below (g := gb253) (o := .cells #[.slice none 0 0, .int .i64 0] 24 (0, 0)) (by (with_reducible repeat (first | refine blk_drewN ?_ _ | refine blk_drew ?_ | refine blk_alloc ?_ _)); exact BK253.out) hb)
            have n3_ := Aside0.mk (blk_below (g := gb256) (o := .cells #[.int .i64 ((rd_T55 l0_0 a1).f0), .bool ((rd_T55 l0_0 a1).f1), .bool ((rd_T55 l0_0 a1).f2.f0), .slice (some ad265) ((rd_T55 l0_0 a1).f2.f1).length c255_3] 55 (0, 0)) (by (with_reducible repeat (first | refine blk_drewN ?_ _ | refine blk_drew ?_ | refine blk_alloc ?_ _)); exact BK256.out) hb)
            have n4_ := Aside0.mk (below_step (by repeat (first | (with_reducible first | exact HB.out | apply below_alloc | apply pw_below_drewN | apply below_drew1 | refine below_set ?_ GE252.out | refine below_set ?_ GE253.out | refine below_set ?_ GE256.out) | exact HB.out)) hb)
            have n5_ := Aside0.mk (hbox)
            have n6_ := Aside0.mk ((by rw [hg]; exact (below_size (by repeat (first | (with_reducible first | exact HB.out | apply below_alloc | apply pw_below_drewN | apply below_drew1 | refine below_set ?_ GE252.out | refine below_set ?_ GE253.out | refine below_set ?_ GE256.out) | exact HB.out))) : w.heap.size ≤ gb271))
            have n7_ := Aside0.mk ((by rw [hg]; exact (below_size (by repeat (first | (with_reducible first | exact HB.out | apply below_alloc | apply pw_below_drewN | apply below_drew1 | refine below_set ?_ GE252.out | refine below_set ?_ GE253.out | refine below_set ?_ GE256.out) | exact HB.out))) : w.heap.size ≤ gb271))
            have n8_ := Aside0.mk ((by rw [hg]; exact Nat.ne_of_lt (blk_lt (g := gb252) (o := .cells #[.slice Ao56 x253000_1.length co56, .int .i64 x253001_1] 24 (0, 0)) (by (with_reducible repeat (first | refine blk_drewN ?_ _ | refine blk_drew ?_ | refine blk_alloc ?_ _)); exact BK252.out)) : gb252 ≠ gb271))
            have n9_ := Aside0.mk ((by rw [hg]; exact Nat.ne_of_gt (blk_lt (g := gb252) (o := .cells #[.slice Ao56 x253000_1.length co56, .int .i64 x253001_1] 24 (0, 0)) (by (with_reducible repeat (first | refine blk_drewN ?_ _ | refine blk_drew ?_ | refine blk_alloc ?_ _)); exact BK252.out)) : gb271 ≠ gb252))
            have n10_ := Aside0.mk ((by rw [hg]; exact Nat.ne_of_lt (blk_lt (g := gb253) (o := .cells #[.slice none 0 0, .int .i64 0] 24 (0, 0)) (by (with_reducible repeat (first | refine blk_drewN ?_ _ | refine blk_drew ?_ | refine blk_alloc ?_ _)); exact BK253.out)) : gb253 ≠ gb271))
            have n11_ := Aside0.mk ((by rw [hg]; exact Nat.ne_of_gt (blk_lt (g := gb253) (o := .cells #[.slice none 0 0, .int .i64 0] 24 (0, 0)) (by (with_reducible repeat (first | refine blk_drewN ?_ _ | refine blk_drew ?_ | refine blk_alloc ?_ _)); exact BK253.out)) : gb271 ≠ gb253))
            have n12_ := Aside0.mk ((by rw [hg]; exact Nat.ne_of_lt (blk_lt (g := gb256) (o := .cells #[.int .i64 ((rd_T55 l0_0 a1).f0), .bool ((rd_T55 l0_0 a1).f1), .bool ((rd_T55 l0_0 a1).f2.f0), .slice (some ad265) ((rd_T55 l0_0 a1).f2.f1).length c255_3] 55 (0, 0)) (by (with_reducible repeat (first | refine blk_drewN ?_ _ | refine blk_drew ?_ | refine blk_alloc ?_ _)); exact BK256.out)) : gb256 ≠ gb271))
            have n13_ := Aside0.mk ((by rw [hg]; exact Nat.ne_of_gt (blk_lt (g := gb256) (o := .cells #[.int .i64 ((rd_T55 l0_0 a1).f0), .bool ((rd_T55 l0_0 a1).f1), .bool ((rd_T55 l0_0 a1).f2.f0), .slice (some ad265) ((rd_T55 l0_0 a1).f2.f1).length c255_3] 55 (0, 0)) (by (with_reducible repeat (first | refine blk_drewN ?_ _ | refine blk_drew ?_ | refine blk_alloc ?_ _)); exact BK256.out)) : gb271 ≠ gb256))
            clear HO_253000
            clear BK252
            clear BK253
            clear BK256
            clear HB
            have HO_253000 := n0_
            have BK252 := n1_
            have BK253 := n2_
            have BK256 := n3_
            have HB := n4_
            have BK271 := n5_
            have GW271 := n6_
            have GE271 := n7_
            have NB252_271 := n8_
            have NB271_252 := n9_
            have NB253_271 := n10_
            have NB271_253 := n11_
            have NB256_271 := n12_
            have NB271_256 := n13_
            clear n0_ n1_ n2_ n3_ n4_ n5_ n6_ n7_ n8_ n9_ n10_ n11_ n12_ n13_
            clear hb hbox hg
            refine hK.out _ _ ⟨(blk_cell BK252.out 0).trans rfl, (blk_cell BK252.out 1).trans rfl, (blk_cell BK256.out 0).trans rfl, (blk_cell BK256.out 1).trans rfl, (blk_cell BK256.out 2).trans rfl, (blk_cell BK256.out 3).trans rfl, ((HB.out.cell (World.block_lt_of_cell? w _ hw265_0)).trans hw265_0), ((HB.out.cell (World.block_lt_of_cell? w _ hw265_1)).trans hw265_1)⟩ (fun hHeld => ?_)
            clear hK K
            refine norm_ (a' := ?_) ?_ ?_
            rotate_left
            ·show Act.put _ (some 9) _ = _
             simp only [Act.put, List.setIfInBounds_toArray, List.set_cons_zero, List.set_cons_succ, i64_w, i32_w]
             rfl
            refine one_ (i := 8) (N := some 61) #[true, true, true, true, true, true, true, true, true, false, false, false, true, false, false] rfl rfl (one_of HT_.out (by kernel_rfl)) (by decide) (fun K hK => ?_)
            refine goes_ Try.func49 (by kernel_rfl) rfl #[.agg #[.slice Ao56 x253000_1.length co56, .int .i64 x253001_1], .int .i64 ((rd_T49 ((rd_T55 l0_0 a1).f2.f1) x8_1).f1)] (by rfl) rfl rfl (by (try simp only [List.map_toArray, List.map_cons, List.map_nil]); first | done | rfl | (simp only [List.length_drop, List.length_take]; rfl)) ?_
            with_reducible refine (ih k1 (by have := HK1.out; omega) (fun k_ => (((P0_0_ k_ ∨ w.heap.size ≤ k_) ∧ (k_ ≠ gb252 ∧ (k_ ≠ gb253 ∧ k_ ≠ gb256))) ∧ k_ ≠ gb271)) _ _ x253000_1 x253001_1 ((rd_T49 ((rd_T55 l0_0 a1).f2.f1) x8_1).f1) t266 t269 t270 _ ?side1 A52.out).mono ?_
            (case side1 => exact HO_253000.out)
            rintro e w59 ⟨v267, rfl, ho0, hb⟩
            refine ⟨_, rfl, ?_⟩
            have n0_ := Aside0.mk (Kd.V_below (by (with_reducible repeat (first | apply Kd.V_alloc | apply Kd.V_drewN | apply Kd.V_drew)); exact HO_253000.out) hb)
            have n1_ := Aside0.mk (Kd.V_lower (Kd.V_mono (ok' := fun k_ => (P0_0_ k_ ∨ w.heap.size ≤ k_) ∧ k_ ≠ gb252 ∧ k_ ≠ gb253 ∧ k_ ≠ gb256 ∧ k_ ≠ gb271) ho0 (fun k_ hk_ => ⟨Or.elim hk_ (fun hs_ => hs_.1.1) (fun hn_ => (.inr (Nat.le_trans (below_size (by repeat (first | (with_reducible first | exact HB.out | apply below_alloc | apply pw_below_drewN | apply below_drew1 | refine below_set ?_ GE252.out | refine below_set ?_ GE253.out | refine below_set ?_ GE256.out | refine below_set ?_ GE271.out) | exact HB.out))) hn_))), Or.elim hk_ (fun hs_ => hs_.1.2.1) (fun hn_ => (Kd.freshB (g := gb252) (o := .cells #[.slice Ao56 x253000_1.length co56, .int .i64 x253001_1] 24 (0, 0)) (by (with_reducible repeat (first | refine blk_drewN ?_ _ | refine blk_drew ?_ | refine blk_alloc ?_ _)); exact BK252.out) k_ hn_)), Or.elim hk_ (fun hs_ => hs_.1.2.2.1) (fun hn_ => (Kd.freshB (g := gb253) (o := .cells #[.slice none 0 0, .int .i64 0] 24 (0, 0)) (by (with_reducible repeat (first | refine blk_drewN ?_ _ | refine blk_drew ?_ | refine blk_alloc ?_ _)); exact BK253.out) k_ hn_)), Or.elim hk_ (fun hs_ => hs_.1.2.2.2) (fun hn_ => (Kd.freshB (g := gb256) (o := .cells #[.int .i64 ((rd_T55 l0_0 a1).f0), .bool ((rd_T55 l0_0 a1).f1), .bool ((rd_T55 l0_0 a1).f2.f0), .slice (some ad265) ((rd_T55 l0_0 a1).f2.f1).length c255_3] 55 (0, 0)) (by (with_reducible repeat (first | refine blk_drewN ?_ _ | refine blk_drew ?_ | refine blk_alloc ?_ _)); exact BK256.out) k_ hn_)), Or.elim hk_ (fun hs_ => hs_.2) (fun hn_ => (Kd.freshB (g := gb271) (o := .cells #[.slice none 0 0, .int .i64 0] 24 (0, 0)) (by (with_reducible repeat (first | refine blk_drewN ?_ _ | refine blk_drew ?_ | refine blk_alloc ?_ _)); exact BK271.out) k_ hn_))⟩)) (below_size (by repeat (first | (with_reducible first | exact HB.out | apply below_alloc | apply pw_below_drewN | apply below_drew1 | refine below_set ?_ GE252.out | refine below_set ?_ GE253.out | refine below_set ?_ GE256.out | refine below_set ?_ GE271.out) | exact HB.out))))
            have n2_ := Aside0.mk (blk_below (g := gb252) (o := .cells #[.slice Ao56 x253000_1.length co56, .int .i64 x253001_1] 24 (0, 0)) (by (with_reducible repeat (first | refine blk_drewN ?_ _ | refine blk_drew ?_ | refine blk_alloc ?_ _)); exact BK252.out) hb)
            have n3_ := Aside0.mk (blk_below (g := gb253) (o := .cells #[.slice none 0 0, .int .i64 0] 24 (0, 0)) (by (with_reducible repeat (first | refine blk_drewN ?_ _ | refine blk_drew ?_ | refine blk_alloc ?_ _)); exact BK253.out) hb)
            have n4_ := Aside0.mk (blk_below (g := gb256) (o := .cells #[.int .i64 ((rd_T55 l0_0 a1).f0), .bool ((rd_T55 l0_0 a1).f1), .bool ((rd_T55 l0_0 a1).f2.f0), .slice (some ad265) ((rd_T55 l0_0 a1).f2.f1).length c255_3] 55 (0, 0)) (by (with_reducible repeat (first | refine blk_drewN ?_ _ | refine blk_drew ?_ | refine blk_alloc ?_ _)); exact BK256.out) hb)
            have n5_ := Aside0.mk (blk_below (g := gb271) (o := .cells #[.slice none 0 0, .int .i64 0] 24 (0, 0)) (by (with_reducible repeat (first | refine blk_drewN ?_ _ | refine blk_drew ?_ | refine blk_alloc ?_ _)); exact BK271.out) hb)
            have n6_ := Aside0.mk (below_step (by repeat (first | (with_reducible first | exact HB.out | apply below_alloc | apply pw_below_drewN | apply below_drew1 | refine below_set ?_ GE252.out | refine below_set ?_ GE253.out | refine below_set ?_ GE256.out | refine below_set ?_ GE271.out) | exact HB.out)) hb)
            clear HO_253000
            clear BK252
            clear BK253
            clear BK256
            clear BK271
            clear HB
            have HO_253000 := n0_
            have HO268 := n1_
            have BK252 := n2_
            have BK253 := n3_
            have BK256 := n4_
            have BK271 := n5_
            have HB := n6_
            clear n0_ n1_ n2_ n3_ n4_ n5_ n6_
            (try clear hb)
            (try clear hb2)
            (try clear hk)
            (try clear hi)
            (try clear ho0)
            refine hK.out _ _ ⟨(blk_cell BK252.out 0).trans rfl, (blk_cell BK252.out 1).trans rfl, (blk_cell BK256.out 0).trans rfl, (blk_cell BK256.out 1).trans rfl, (blk_cell BK256.out 2).trans rfl, (blk_cell BK256.out 3).trans rfl, ((HB.out.cell (World.block_lt_of_cell? w _ hw265_0)).trans hw265_0), ((HB.out.cell (World.block_lt_of_cell? w _ hw265_1)).trans hw265_1)⟩ (fun hHeld => ?_)
            clear hK K
            refine norm_ (a' := ?_) ?_ ?_
            rotate_left
            ·show Act.put _ (some 61) _ = _
             simp only [Act.put, List.setIfInBounds_toArray, List.set_cons_zero, List.set_cons_succ, i64_w, i32_w]
             rfl
            refine pure_ (i := 9) (N := some 52) (v := ?_) (a' := ?_) #[true, true, true, true, true, true, true, true, true, true, false, false, true, false, false] rfl rfl (any_of HT_.out (by kernel_rfl)) (fun _ _ _ h => h) (Or.inl ⟨by rfl, ?_⟩) ?_ ?_
            rotate_left
            ·intro w'
             go_simp
             with_reducible rfl
            rotate_left
            ·simp only [Act.put, List.setIfInBounds_toArray, List.set_cons_zero, List.set_cons_succ, i64_w, i32_w]
             rfl
            refine pure_ (i := 10) (N := some 62) (v := ?_) (a' := ?_) #[true, true, true, true, true, true, true, true, true, true, true, false, true, false, false] rfl rfl (any_of HT_.out (by kernel_rfl)) (fun _ _ _ h => h) (Or.inl ⟨by rfl, ?_⟩) ?_ ?_
            rotate_left
            ·intro w'
             go_simp
             with_reducible rfl
            rotate_left
            ·simp only [Act.put, List.setIfInBounds_toArray, List.set_cons_zero, List.set_cons_succ, i64_w, i32_w]
             rfl
            refine pure_ (i := 11) (N := some 63) (v := ?_) (a' := ?_) #[true, true, true, true, true, true, true, true, true, true, true, true, true, false, false] rfl rfl (any_of HT_.out (by kernel_rfl)) (fun _ _ _ h => h) (Or.inl ⟨by rfl, ?_⟩) ?_ ?_
            rotate_left
            ·intro w'
             go_simp
             with_reducible rfl
            rotate_left
            ·simp only [Act.put, List.setIfInBounds_toArray, List.set_cons_zero, List.set_cons_succ, i64_w, i32_w]
             rfl
            exact norm_ (by simp only [putAll, Act.put, List.setIfInBounds_toArray, List.set_cons_zero, List.set_cons_succ]) (hCont (v267, gb271) _ ⟨hHeld, (by (with_reducible repeat (first | apply Kd.V_alloc | apply Kd.V_drewN | apply Kd.V_drew)); exact HO268.out), (by (with_reducible repeat (first | apply Kd.V_alloc | apply Kd.V_drewN | apply Kd.V_drew)); exact Kd.V_mono HO_253000.out (fun _ hk => ⟨hk.1.1, ⟨hk.1.2.1, ⟨hk.1.2.2.1, ⟨hk.1.2.2.2, hk.2⟩⟩⟩⟩)), (by (with_reducible repeat (first | refine blk_drewN ?_ _ | refine blk_drew ?_ | refine blk_alloc ?_ _)); exact BK252.out), (by (with_reducible repeat (first | refine blk_drewN ?_ _ | refine blk_drew ?_ | refine blk_alloc ?_ _)); exact BK253.out), (by (with_reducible repeat (first | refine blk_drewN ?_ _ | refine blk_drew ?_ | refine blk_alloc ?_ _)); exact BK256.out), (by (with_reducible repeat (first | refine blk_drewN ?_ _ | refine blk_drew ?_ | refine blk_alloc ?_ _)); exact BK271.out), GW271.out, GE271.out, NB252_271.out, NB271_252.out, NB253_271.out, NB271_253.out, NB256_271.out, NB271_256.out, (by repeat (first | (with_reducible first | exact HB.out | apply below_alloc | apply pw_below_drewN | apply below_drew1 | refine below_set ?_ GE252.out | refine below_set ?_ GE253.out | refine below_set ?_ GE256.out | refine below_set ?_ GE271.out) | exact HB.out))⟩)
          rintro ⟨v267, gb271⟩ w60 ⟨hS_, h0_, h1_, h2_, h3_, h4_, h5_, h6_, h7_, h8_, h9_, h10_, h11_, h12_, h13_, h14_⟩
          have n0_ : Aside0 (Kd.V k55 55 w60 w.heap.size (fun k_ => (P0_0_ k_ ∨ w.heap.size ≤ k_) ∧ k_ ≠ gb252 ∧ k_ ≠ gb253 ∧ k_ ≠ gb256 ∧ k_ ≠ gb271) v267 t266) := ⟨h0_⟩
          have n1_ : Aside0 (Kd.V k55 55 w60 w.heap.size (fun k_ => (P0_0_ k_ ∨ w.heap.size ≤ k_) ∧ k_ ≠ gb252 ∧ k_ ≠ gb253 ∧ k_ ≠ gb256 ∧ k_ ≠ gb271) (.slice Ao56 x253000_1.length co56) x253000_1) := ⟨h1_⟩
          have n2_ : Aside0 (w60.heap[gb252]? = some (.cells #[.slice Ao56 x253000_1.length co56, .int .i64 x253001_1] 24 (0, 0))) := ⟨h2_⟩
          have n3_ : Aside0 (w60.heap[gb253]? = some (.cells #[.slice none 0 0, .int .i64 0] 24 (0, 0))) := ⟨h3_⟩
          have n4_ : Aside0 (w60.heap[gb256]? = some (.cells #[.int .i64 ((rd_T55 l0_0 a1).f0), .bool ((rd_T55 l0_0 a1).f1), .bool ((rd_T55 l0_0 a1).f2.f0), .slice (some ad265) ((rd_T55 l0_0 a1).f2.f1).length c255_3] 55 (0, 0))) := ⟨h4_⟩
          have n5_ : Aside0 (w60.heap[gb271]? = some (.cells #[.slice none 0 0, .int .i64 0] 24 (0, 0))) := ⟨h5_⟩
          have n6_ : Aside0 (w.heap.size ≤ gb271) := ⟨h6_⟩
          have n7_ : Aside0 (w.heap.size ≤ gb271) := ⟨h7_⟩
          have n8_ : Aside0 (gb252 ≠ gb271) := ⟨h8_⟩
          have n9_ : Aside0 (gb271 ≠ gb252) := ⟨h9_⟩
          have n10_ : Aside0 (gb253 ≠ gb271) := ⟨h10_⟩
          have n11_ : Aside0 (gb271 ≠ gb253) := ⟨h11_⟩
          have n12_ : Aside0 (gb256 ≠ gb271) := ⟨h12_⟩
          have n13_ : Aside0 (gb271 ≠ gb256) := ⟨h13_⟩
          have n14_ : Aside0 (Below w.heap.size w w60) := ⟨h14_⟩
          clear HO_253000
          clear BK252
          clear BK253
          clear BK256
          clear HB
          clear h0_ h1_ h2_ h3_ h4_ h5_ h6_ h7_ h8_ h9_ h10_ h11_ h12_ h13_ h14_
          have HO268 := n0_
          have HO_253000 := n1_
          have BK252 := n2_
          have BK253 := n3_
          have BK256 := n4_
          have BK271 := n5_
          have GW271 := n6_
          have GE271 := n7_
          have NB252_271 := n8_
          have NB271_252 := n9_
          have NB253_271 := n10_
          have NB271_253 := n11_
          have NB256_271 := n12_
          have NB271_256 := n13_
          have HB := n14_
          clear n0_ n1_ n2_ n3_ n4_ n5_ n6_ n7_ n8_ n9_ n10_ n11_ n12_ n13_ n14_
          have hHeld : w60.cell? ⟨gb252, 0, none⟩ = some (.slice Ao56 x253000_1.length co56) ∧ w60.cell? ⟨gb252, 1, none⟩ = some (.int .i64 x253001_1) ∧ w60.cell? ⟨gb256, 0, none⟩ = some (.int .i64 ((rd_T55 l0_0 a1).f0)) ∧ w60.cell? ⟨gb256, 1, none⟩ = some (.bool ((rd_T55 l0_0 a1).f1)) ∧ w60.cell? ⟨gb256, 2, none⟩ = some (.bool ((rd_T55 l0_0 a1).f2.f0)) ∧ w60.cell? ⟨gb256, 3, none⟩ = some (.slice (some ad265) ((rd_T55 l0_0 a1).f2.f1).length c255_3) ∧ w60.cell? (ad265.add ((x8_1).toNat * 2)) = some (.int .i64 ((rd_T49 ((rd_T55 l0_0 a1).f2.f1) x8_1).f0)) ∧ w60.cell? ⟨(ad265.add ((x8_1).toNat * 2)).block, (ad265.add ((x8_1).toNat * 2)).off + 1, none⟩ = some (.int .i64 ((rd_T49 ((rd_T55 l0_0 a1).f2.f1) x8_1).f1)) := hS_
          obtain ⟨Ao61, co61, eo61⟩ := Kd.V_slice HO268.out
          (first | subst eo61 | (injection eo61 with f1_ f2_ f3_; have f4_ := f1_.symm; have f5_ := f3_.symm; clear f1_ f2_ f3_; subst f4_; subst f5_))
          refine norm_ (a' := ?_) ?_ ?_
          rotate_left
          ·simp only [putAll, Act.put, List.setIfInBounds_toArray, List.set_cons_zero, List.set_cons_succ]
           rfl
          refine one_ (i := 13) (N := none) #[true, true, true, true, true, true, true, true, true, true, true, true, true, true, false] rfl rfl (one_of HT_.out (by kernel_rfl)) (by decide) (fun K hK => ?_)
          have hs62 : w60.cell? ⟨gb271, 0, none⟩ = some (.slice none 0 0) := (blk_cell BK271.out 0).trans rfl
          have hfs62 := blk_frozen BK271.out 0
          have hns62_0 := NB252_271.out
          have hns62_1 := NB253_271.out
          have hns62_2 := NB256_271.out
          have hms62_0 := NB271_252.out
          have hms62_1 := NB271_253.out
          have hms62_2 := NB271_256.out
          have hs63 : w60.cell? ⟨gb271, 1, none⟩ = some (.int .i64 0) := (blk_cell BK271.out 1).trans rfl
          have hfs63 := blk_frozen BK271.out 1
          have hns63_0 := NB252_271.out
          have hns63_1 := NB253_271.out
          have hns63_2 := NB256_271.out
          have hms63_0 := NB271_252.out
          have hms63_1 := NB271_253.out
          have hms63_2 := NB271_256.out
          refine skip_ (w1 := ?_) (by rfl) rfl ?_ ?_
          rotate_left
          ·go_simp
           rfl
          refine hK.out _ _ ⟨((cell_far (p := ⟨gb271, _, none⟩) NB252_271.out _).trans (((cell_far (p := ⟨gb271, _, none⟩) NB252_271.out _).trans (hHeld.1)))), ((cell_far (p := ⟨gb271, _, none⟩) NB252_271.out _).trans (((cell_far (p := ⟨gb271, _, none⟩) NB252_271.out _).trans (hHeld.2.1)))), ((cell_far (p := ⟨gb271, _, none⟩) NB256_271.out _).trans (((cell_far (p := ⟨gb271, _, none⟩) NB256_271.out _).trans (hHeld.2.2.1)))), ((cell_far (p := ⟨gb271, _, none⟩) NB256_271.out _).trans (((cell_far (p := ⟨gb271, _, none⟩) NB256_271.out _).trans (hHeld.2.2.2.1)))), ((cell_far (p := ⟨gb271, _, none⟩) NB256_271.out _).trans (((cell_far (p := ⟨gb271, _, none⟩) NB256_271.out _).trans (hHeld.2.2.2.2.1)))), ((cell_far (p := ⟨gb271, _, none⟩) NB256_271.out _).trans (((cell_far (p := ⟨gb271, _, none⟩) NB256_271.out _).trans (hHeld.2.2.2.2.2.1)))), ((cell_far (p := ⟨gb271, _, none⟩) (by first | exact Nat.ne_of_lt (Nat.lt_of_lt_of_le (by have := World.block_lt_of_cell? _ _ hw265_0; first | rwa [add_block] at this | exact this) GW271.out) | (rw [add_block]; exact Nat.ne_of_lt (Nat.lt_of_lt_of_le (by have := World.block_lt_of_cell? _ _ hw265_0; first | rwa [add_block] at this | exact this) GW271.out)) | (show (Addr.add _ _).block ≠ _; rw [add_block]; exact Nat.ne_of_lt (Nat.lt_of_lt_of_le (by have := World.block_lt_of_cell? _ _ hw265_0; first | rwa [add_block] at this | exact this) GW271.out)) | (dsimp only; exact Nat.ne_of_lt (Nat.lt_of_lt_of_le (by have := World.block_lt_of_cell? _ _ hw265_0; first | rwa [add_block] at this | exact this) GW271.out))) _).trans (((cell_far (p := ⟨gb271, _, none⟩) (by first | exact Nat.ne_of_lt (Nat.lt_of_lt_of_le (by have := World.block_lt_of_cell? _ _ hw265_0; first | rwa [add_block] at this | exact this) GW271.out) | (rw [add_block]; exact Nat.ne_of_lt (Nat.lt_of_lt_of_le (by have := World.block_lt_of_cell? _ _ hw265_0; first | rwa [add_block] at this | exact this) GW271.out)) | (show (Addr.add _ _).block ≠ _; rw [add_block]; exact Nat.ne_of_lt (Nat.lt_of_lt_of_le (by have := World.block_lt_of_cell? _ _ hw265_0; first | rwa [add_block] at this | exact this) GW271.out)) | (dsimp only; exact Nat.ne_of_lt (Nat.lt_of_lt_of_le (by have := World.block_lt_of_cell? _ _ hw265_0; first | rwa [add_block] at this | exact this) GW271.out))) _).trans (hHeld.2.2.2.2.2.2.1)))), ((cell_far (p := ⟨gb271, _, none⟩) (by first | exact Nat.ne_of_lt (Nat.lt_of_lt_of_le (by have := World.block_lt_of_cell? _ _ hw265_1; first | rwa [add_block] at this | exact this) GW271.out) | (rw [add_block]; exact Nat.ne_of_lt (Nat.lt_of_lt_of_le (by have := World.block_lt_of_cell? _ _ hw265_1; first | rwa [add_block] at this | exact this) GW271.out)) | (show (Addr.add _ _).block ≠ _; rw [add_block]; exact Nat.ne_of_lt (Nat.lt_of_lt_of_le (by have := World.block_lt_of_cell? _ _ hw265_1; first | rwa [add_block] at this | exact this) GW271.out)) | (dsimp only; exact Nat.ne_of_lt (Nat.lt_of_lt_of_le (by have := World.block_lt_of_cell? _ _ hw265_1; first | rwa [add_block] at this | exact this) GW271.out))) _).trans (((cell_far (p := ⟨gb271, _, none⟩) (by first | exact Nat.ne_of_lt (Nat.lt_of_lt_of_le (by have := World.block_lt_of_cell? _ _ hw265_1; first | rwa [add_block] at this | exact this) GW271.out) | (rw [add_block]; exact Nat.ne_of_lt (Nat.lt_of_lt_of_le (by have := World.block_lt_of_cell? _ _ hw265_1; first | rwa [add_block] at this | exact this) GW271.out)) | (show (Addr.add _ _).block ≠ _; rw [add_block]; exact Nat.ne_of_lt (Nat.lt_of_lt_of_le (by have := World.block_lt_of_cell? _ _ hw265_1; first | rwa [add_block] at this | exact this) GW271.out)) | (dsimp only; exact Nat.ne_of_lt (Nat.lt_of_lt_of_le (by have := World.block_lt_of_cell? _ _ hw265_1; first | rwa [add_block] at this | exact this) GW271.out))) _).trans (hHeld.2.2.2.2.2.2.2))))⟩ (fun hHeld => ?_)
          clear hK K
          refine pure_ (i := 14) (N := some 10) (v := ?_) (a' := ?_) #[true, true, true, true, true, true, true, true, true, true, true, true, true, true, true] rfl rfl (any_of HT_.out (by kernel_rfl)) (fun _ _ _ h => h) (Or.inl ⟨by rfl, ?_⟩) ?_ ?_
          rotate_left
          ·intro w'
           go_simp
           with_reducible rfl
          rotate_left
          ·simp only [Act.put, List.setIfInBounds_toArray, List.set_cons_zero, List.set_cons_succ, i64_w, i32_w]
           rfl
          refine done_ (done_of HT_.out (by kernel_rfl)) ?_
          have hnb64 := NB271_252.out
          have hnc64 := NB252_271.out
          have hnb65 := NB271_253.out
          have hnc65 := NB253_271.out
          have hnb66 := NB271_256.out
          have hnc66 := NB256_271.out
          have hcz67_0 : w60.cell? ⟨gb271, 0, none⟩ = some (.slice none 0 0) := (blk_cell BK271.out 0).trans rfl
          have hcz67_1 : w60.cell? ⟨gb271, 1, none⟩ = some (.int .i64 0) := (blk_cell BK271.out 1).trans rfl
          have hfz67_0 := blk_frozen BK271.out 0
          have hfz67_1 := blk_frozen BK271.out 1
          have hnb68 := NB252_253.out
          have hnc68 := NB253_252.out
          have hcz69_0 : w60.cell? ⟨gb252, 0, none⟩ = some (.slice Ao56 x253000_1.length co56) := (blk_cell BK252.out 0).trans rfl
          have hcz69_1 : w60.cell? ⟨gb252, 1, none⟩ = some (.int .i64 x253001_1) := (blk_cell BK252.out 1).trans rfl
          have hfz69_0 := blk_frozen BK252.out 0
          have hfz69_1 := blk_frozen BK252.out 1
          try go_wp2
          go_roundg k1
          case measure => have := HK1.out; omega
          case rel => exact ⟨(wrap64 (x8_1 + 1)), (t266), (t269), (.slice Ao61 t266.length co61), (by first | rfl | (simp; done) | (simp [*]; done)), H', ⟨by have := HK1.out; omega⟩, ⟨by (with_reducible repeat (first | apply Kd.V_alloc | apply Kd.V_drewN | apply Kd.V_drew)); exact Kd.V_mono (Kd.V_far (p := ⟨gb252, 1, none⟩) (Kd.V_far (p := ⟨gb252, 0, none⟩) (Kd.V_far (p := ⟨gb271, 1, none⟩) (Kd.V_far (p := ⟨gb271, 0, none⟩) (Kd.V_mono (Kd.V_mono HO268.out (fun k_ hk => (⟨hk, hk.2.2.2.2⟩ : _ ∧ k_ ≠ gb271))) (fun k_ hk => (⟨hk, hk.1.2.1⟩ : _ ∧ k_ ≠ gb252))) (fun _ hk => hk.1.2) (.slice Ao61 t266.length co61)) (fun _ hk => hk.1.2) (.int .i64 t269)) (fun _ hk => hk.2) (.slice Ao61 t266.length co61)) (fun _ hk => hk.2) (.int .i64 t269)) (fun _ hk => ⟨hk.1.1.1, ⟨hk.1.1.2.1, ⟨hk.1.1.2.2.1, hk.1.1.2.2.2.1⟩⟩⟩)⟩, ⟨by (with_reducible repeat (first | refine blk_drewN ?_ _ | refine blk_drew ?_ | refine blk_alloc ?_ _)); refine blk_put (cs := #[.slice Ao61 t266.length co61, .int .i64 x253001_1]) ?_ 1 _ rfl; (with_reducible repeat (first | refine blk_drewN ?_ _ | refine blk_drew ?_ | refine blk_alloc ?_ _)); refine blk_put (cs := #[.slice Ao56 x253000_1.length co56, .int .i64 x253001_1]) ?_ 0 _ rfl; (with_reducible repeat (first | refine blk_drewN ?_ _ | refine blk_drew ?_ | refine blk_alloc ?_ _)); refine blk_far ?_ NB252_271.out _; (with_reducible repeat (first | refine blk_drewN ?_ _ | refine blk_drew ?_ | refine blk_alloc ?_ _)); refine blk_far ?_ NB252_271.out _; (with_reducible repeat (first | refine blk_drewN ?_ _ | refine blk_drew ?_ | refine blk_alloc ?_ _)); exact BK252.out⟩, ⟨by (with_reducible repeat (first | refine blk_drewN ?_ _ | refine blk_drew ?_ | refine blk_alloc ?_ _)); refine blk_far ?_ NB253_252.out _; (with_reducible repeat (first | refine blk_drewN ?_ _ | refine blk_drew ?_ | refine blk_alloc ?_ _)); refine blk_far ?_ NB253_252.out _; (with_reducible repeat (first | refine blk_drewN ?_ _ | refine blk_drew ?_ | refine blk_alloc ?_ _)); refine blk_far ?_ NB253_271.out _; (with_reducible repeat (first | refine blk_drewN ?_ _ | refine blk_drew ?_ | refine blk_alloc ?_ _)); refine blk_far ?_ NB253_271.out _; (with_reducible repeat (first | refine blk_drewN ?_ _ | refine blk_drew ?_ | refine blk_alloc ?_ _)); exact BK253.out⟩, ⟨by (with_reducible repeat (first | refine blk_drewN ?_ _ | refine blk_drew ?_ | refine blk_alloc ?_ _)); refine blk_far ?_ NB256_252.out _; (with_reducible repeat (first | refine blk_drewN ?_ _ | refine blk_drew ?_ | refine blk_alloc ?_ _)); refine blk_far ?_ NB256_252.out _; (with_reducible repeat (first | refine blk_drewN ?_ _ | refine blk_drew ?_ | refine blk_alloc ?_ _)); refine blk_far ?_ NB256_271.out _; (with_reducible repeat (first | refine blk_drewN ?_ _ | refine blk_drew ?_ | refine blk_alloc ?_ _)); refine blk_far ?_ NB256_271.out _; (with_reducible repeat (first | refine blk_drewN ?_ _ | refine blk_drew ?_ | refine blk_alloc ?_ _)); exact BK256.out⟩, ⟨by repeat (first | (with_reducible first | exact HB.out | apply below_alloc | apply pw_below_drewN | apply below_drew1 | refine below_set ?_ GE252.out | refine below_set ?_ GE253.out | refine below_set ?_ GE256.out | refine below_set ?_ GE271.out) | exact HB.out)⟩⟩
         ·rw [if_neg c51] at H
          exact absurd H (by simp)
       ·rw [if_neg c42] at H
        have c42b0 : decide (x8_1 < (((rd_T55 l0_0 a1).f2.f1).length : Int)) = false := decide_eq_false c42
        clear c42
        simp only [Option.some.injEq, Prod.mk.injEq] at H
        obtain ⟨rfl, rfl, rfl⟩ := H
        have hnb70 := NB256_252.out
        have hnc70 := NB252_256.out
        have hnb71 := NB256_253.out
        have hnc71 := NB253_256.out
        have hcz72_0 : wr.cell? ⟨gb256, 0, none⟩ = some (.int .i64 ((rd_T55 l0_0 a1).f0)) := (blk_cell BK256.out 0).trans rfl
        have hcz72_1 : wr.cell? ⟨gb256, 1, none⟩ = some (.bool ((rd_T55 l0_0 a1).f1)) := (blk_cell BK256.out 1).trans rfl
        have hcz72_2 : wr.cell? ⟨gb256, 2, none⟩ = some (.bool ((rd_T55 l0_0 a1).f2.f0)) := (blk_cell BK256.out 2).trans rfl
        have hcz72_3 : wr.cell? ⟨gb256, 3, none⟩ = some (.slice A255_3 ((rd_T55 l0_0 a1).f2.f1).length c255_3) := (blk_cell BK256.out 3).trans rfl
        have hfz72_0 := blk_frozen BK256.out 0
        have hfz72_1 := blk_frozen BK256.out 1
        have hfz72_2 := blk_frozen BK256.out 2
        have hfz72_3 := blk_frozen BK256.out 3
        have hnb73 := NB252_253.out
        have hnc73 := NB253_252.out
        have hcz74_0 : wr.cell? ⟨gb252, 0, none⟩ = some (u253000) := (blk_cell BK252.out 0).trans rfl
        have hcz74_1 : wr.cell? ⟨gb252, 1, none⟩ = some (.int .i64 x253001_1) := (blk_cell BK252.out 1).trans rfl
        have hfz74_0 := blk_frozen BK252.out 0
        have hfz74_1 := blk_frozen BK252.out 1
        obtain ⟨Ao75, co75, eo75⟩ := Kd.V_slice HO_253000.out
        subst eo75
        have hcz76_0 : wr.cell? ⟨gb253, 0, none⟩ = some (.slice none 0 0) := (blk_cell BK253.out 0).trans rfl
        have hcz76_1 : wr.cell? ⟨gb253, 1, none⟩ = some (.int .i64 0) := (blk_cell BK253.out 1).trans rfl
        have hfz76_0 := blk_frozen BK253.out 0
        have hfz76_1 := blk_frozen BK253.out 1
        go_wp2
        refine bodyPost_ret (results_ct rfl _ _ gb253 24 #[.slice Ao75 x253000_1.length co75, .int .i64 x253001_1] (0, 0) _ rfl (by (with_reducible repeat (first | refine blk_drewN ?_ _ | refine blk_drew ?_ | refine blk_alloc ?_ _)); refine blk_put (cs := #[.slice Ao75 x253000_1.length co75, .int .i64 0]) ?_ 1 _ rfl; (with_reducible repeat (first | refine blk_drewN ?_ _ | refine blk_drew ?_ | refine blk_alloc ?_ _)); refine blk_put (cs := #[.slice none 0 0, .int .i64 0]) ?_ 0 _ rfl; (with_reducible repeat (first | refine blk_drewN ?_ _ | refine blk_drew ?_ | refine blk_alloc ?_ _)); exact BK253.out) Try.underlying24 rfl (by kernel_rfl)) rfl ?_
        exact ⟨_, by first | rfl | (simp [errW_none, errW_some] <;> rfl) | (simp [*, errW_none, errW_some] <;> rfl), by (with_reducible repeat (first | apply Kd.V_alloc | apply Kd.V_drewN | apply Kd.V_drew)); exact Kd.V_mono (Kd.V_far (p := ⟨gb253, 1, none⟩) (Kd.V_far (p := ⟨gb253, 0, none⟩) (Kd.V_mono HO_253000.out (fun k_ hk => (⟨hk, hk.2.2.1⟩ : _ ∧ k_ ≠ gb253))) (fun _ hk => hk.2) (.slice Ao75 x253000_1.length co75)) (fun _ hk => hk.2) (.int .i64 x253001_1)) (fun _ hk => hk.1.1), by repeat (first | (with_reducible first | exact HB.out | apply below_alloc | apply pw_below_drewN | apply below_drew1 | refine below_set ?_ GE252.out | refine below_set ?_ GE253.out | refine below_set ?_ GE256.out) | exact HB.out)⟩
   ·rw [if_neg c6] at H
    exact absurd H (by simp)
  ·rw [if_neg c5] at H
   exact absurd H (by simp)
 ·replace c4 := Bool.eq_false_iff.mpr c4
  subst c4
  have H1 : (some (l0_0, a0_1, 4)) = some (r1, r2, r3) := by rw [if_neg (show ¬ (false = true) by decide)] at H; exact H
  clear H
  have H := H1
  clear H1
  simp only [Option.some.injEq, Prod.mk.injEq] at H
  obtain ⟨rfl, rfl, rfl⟩ := H
  go_enter Try.func49, Try.ntmps49
  go_wp2_with (first | ((with_reducible refine gate_dst (N := 2) rfl ?_); refine box_event ?hg (N := 2) ?hd (cs := #[.slice A0_0 l0_0.length c0_0, .int .i64 a0_1]) (t := 24) ?hr ?_; (case hd => rfl); (case hg => rfl); (case hr => first | (go_simp; done) | (go_simp; rfl)); intro gb252 hg w77 hbox hb; have n0_ := Aside0.mk (Kd.V_below (Kd.V_elderB (by (with_reducible repeat (first | apply Kd.V_alloc | apply Kd.V_drewN | apply Kd.V_drew)); exact HO0_0.out) gb252 (Nat.le_of_eq hg.symm)) hb); have n1_ := Aside0.mk (below_step (by repeat (first | (with_reducible first | exact HB.out | apply below_alloc | apply pw_below_drewN | apply below_drew1) | exact HB.out)) hb); have n2_ := Aside0.mk (hbox); have n3_ := Aside0.mk ((by rw [hg]; exact (below_size (by repeat (first | (with_reducible first | exact HB.out | apply below_alloc | apply pw_below_drewN | apply below_drew1) | exact HB.out))) : w.heap.size ≤ gb252)); have n4_ := Aside0.mk ((by rw [hg]; exact (below_size (by repeat (first | (with_reducible first | exact HB.out | apply below_alloc | apply pw_below_drewN | apply below_drew1) | exact HB.out))) : w.heap.size ≤ gb252)); clear HO0_0; clear HB; have HO0_0 := n0_; have HB := n1_; have BK252 := n2_; have GW252 := n3_; have GE252 := n4_; clear n0_ n1_ n2_ n3_ n4_; clear hb hbox hg) | ((with_reducible refine gate_dst (N := 4) rfl ?_); refine box_event ?hg (N := 4) ?hd (cs := #[.slice none 0 0, .int .i64 0]) (t := 24) ?hr ?_; (case hd => rfl); (case hg => rfl); (case hr => first | (go_simp; done) | (go_simp; rfl)); intro gb253 hg w78 hbox hb; have n0_ := Aside0.mk (Kd.V_below (Kd.V_elderB (by (with_reducible repeat (first | apply Kd.V_alloc | apply Kd.V_drewN | apply Kd.V_drew)); exact HO0_0.out) gb253 (Nat.le_of_eq hg.symm)) hb); have n1_ := Aside0.mk (blk_below (g := gb252) (o := .cells #[.slice A0_0 l0_0.length c0_0, .int .i64 a0_1] 24 (0, 0)) (by (with_reducible repeat (first | refine blk_drewN ?_ _ | refine blk_drew ?_ | refine blk_alloc ?_ _)); exact BK252.out) hb); have n2_ := Aside0.mk (below_step (by repeat (first | (with_reducible first | exact HB.out | apply below_alloc | apply pw_below_drewN | apply below_drew1 | refine below_set ?_ GE252.out) | exact HB.out)) hb); have n3_ := Aside0.mk (hbox); have n4_ := Aside0.mk ((by rw [hg]; exact (below_size (by repeat (first | (with_reducible first | exact HB.out | apply below_alloc | apply pw_below_drewN | apply below_drew1 | refine below_set ?_ GE252.out) | exact HB.out))) : w.heap.size ≤ gb253)); have n5_ := Aside0.mk ((by rw [hg]; exact (below_size (by repeat (first | (with_reducible first | exact HB.out | apply below_alloc | apply pw_below_drewN | apply below_drew1 | refine below_set ?_ GE252.out) | exact HB.out))) : w.heap.size ≤ gb253)); have n6_ := Aside0.mk ((by rw [hg]; exact Nat.ne_of_lt (blk_lt (g := gb252) (o := .cells #[.slice A0_0 l0_0.length c0_0, .int .i64 a0_1] 24 (0, 0)) (by (with_reducible repeat (first | refine blk_drewN ?_ _ | refine blk_drew ?_ | refine blk_alloc ?_ _)); exact BK252.out)) : gb252 ≠ gb253)); have n7_ := Aside0.mk ((by rw [hg]; exact Nat.ne_of_gt (blk_lt (g := gb252) (o := .cells #[.slice A0_0 l0_0.length c0_0, .int .i64 a0_1] 24 (0, 0)) (by (with_reducible repeat (first | refine blk_drewN ?_ _ | refine blk_drew ?_ | refine blk_alloc ?_ _)); exact BK252.out)) : gb253 ≠ gb252)); clear HO0_0; clear BK252; clear HB; have HO0_0 := n0_; have BK252 := n1_; have HB := n2_; have BK253 := n3_; have GW253 := n4_; have GE253 := n5_; have NB252_253 := n6_; have NB253_252 := n7_; clear n0_ n1_ n2_ n3_ n4_ n5_ n6_ n7_; clear hb hbox hg; have hnb79 := NB252_253.out; have hnc79 := NB253_252.out; have hcz80_0 : w78.cell? ⟨gb252, 0, none⟩ = some (.slice A0_0 l0_0.length c0_0) := (blk_cell BK252.out 0).trans rfl; have hcz80_1 : w78.cell? ⟨gb252, 1, none⟩ = some (.int .i64 a0_1) := (blk_cell BK252.out 1).trans rfl; have hfz80_0 := blk_frozen BK252.out 0; have hfz80_1 := blk_frozen BK252.out 1) | ((with_reducible refine gate_callee (f := 52) rfl ?_); refine goesL_ (some 13) rfl rfl Try.func52 (by kernel_rfl) rfl #[.agg #[.slice A0_0 l0_0.length c0_0, .int .i64 a0_1], .int .i64 a1] rfl (by (try simp only [List.map_toArray, List.map_cons, List.map_nil]); first | done | rfl | (simp only [List.length_drop, List.length_take]; rfl)) ?_; (with_reducible refine (assartref05_Used.calls _ _ l0_0 a0_1 a1 false _ ?side1 ?side2 A3.out).mono ?_); (case side1 => repeat (first | exact (Kd.V_reads' HO0_0.out).2.2 | (with_reducible refine Kd.C_alloc ?_ _) | (with_reducible refine Kd.C_drewN ?_ _) | (with_reducible refine Kd.C_drew ?_))); (case side2 => exact (Kd.V_reads' HO0_0.out).2.1); rintro e w81 ⟨rfl, hb⟩; refine ⟨_, rfl, ?_⟩; have n0_ := Aside0.mk (Kd.V_below (by (with_reducible repeat (first | apply Kd.V_alloc | apply Kd.V_drewN | apply Kd.V_drew)); exact HO0_0.out) hb); have n1_ := Aside0.mk (blk_below (g := gb252) (o := .cells #[.slice A0_0 l0_0.length c0_0, .int .i64 a0_1] 24 (0, 0)) (by (with_reducible repeat (first | refine blk_drewN ?_ _ | refine blk_drew ?_ | refine blk_alloc ?_ _)); exact BK252.out) hb); have n2_ := Aside0.mk (blk_below (g := gb253) (o := .cells #[.slice none 0 0, .int .i64 0] 24 (0, 0)) (by (with_reducible repeat (first | refine blk_drewN ?_ _ | refine blk_drew ?_ | refine blk_alloc ?_ _)); exact BK253.out) hb); have n3_ := Aside0.mk (below_step (by repeat (first | (with_reducible first | exact HB.out | apply below_alloc | apply pw_below_drewN | apply below_drew1 | refine below_set ?_ GE252.out | refine below_set ?_ GE253.out) | exact HB.out)) hb); clear HO0_0; clear BK252; clear BK253; clear HB; have HO0_0 := n0_; have BK252 := n1_; have BK253 := n2_; have HB := n3_; clear n0_ n1_ n2_ n3_; (try clear hb); (try clear hb2); (try clear hk); (try clear hi); have hcz82_0 : w81.cell? ⟨gb252, 0, none⟩ = some (.slice A0_0 l0_0.length c0_0) := (blk_cell BK252.out 0).trans rfl; have hcz82_1 : w81.cell? ⟨gb252, 1, none⟩ = some (.int .i64 a0_1) := (blk_cell BK252.out 1).trans rfl; have hfz82_0 := blk_frozen BK252.out 0; have hfz82_1 := blk_frozen BK252.out 1; have hcz83_0 : w81.cell? ⟨gb253, 0, none⟩ = some (.slice none 0 0) := (blk_cell BK253.out 0).trans rfl; have hcz83_1 : w81.cell? ⟨gb253, 1, none⟩ = some (.int .i64 0) := (blk_cell BK253.out 1).trans rfl; have hfz83_0 := blk_frozen BK253.out 0; have hfz83_1 := blk_frozen BK253.out 1))
  refine bodyPost_ret (results_ct rfl _ _ gb253 24 #[.slice A0_0 l0_0.length c0_0, .int .i64 a0_1] (0, 0) _ rfl (by (with_reducible repeat (first | refine blk_drewN ?_ _ | refine blk_drew ?_ | refine blk_alloc ?_ _)); refine blk_put (cs := #[.slice A0_0 l0_0.length c0_0, .int .i64 0]) ?_ 1 _ rfl; (with_reducible repeat (first | refine blk_drewN ?_ _ | refine blk_drew ?_ | refine blk_alloc ?_ _)); refine blk_put (cs := #[.slice none 0 0, .int .i64 0]) ?_ 0 _ rfl; (with_reducible repeat (first | refine blk_drewN ?_ _ | refine blk_drew ?_ | refine blk_alloc ?_ _)); exact BK253.out) Try.underlying24 rfl (by kernel_rfl)) rfl ?_
  exact ⟨_, by first | rfl | (simp [errW_none, errW_some] <;> rfl) | (simp [*, errW_none, errW_some] <;> rfl), by (with_reducible repeat (first | apply Kd.V_alloc | apply Kd.V_drewN | apply Kd.V_drew)); exact Kd.V_mono (Kd.V_far (p := ⟨gb253, 1, none⟩) (Kd.V_far (p := ⟨gb253, 0, none⟩) (Kd.V_mono HO0_0.out (fun k_ hk => (⟨hk, hk.2⟩ : _ ∧ k_ ≠ gb253))) (fun _ hk => hk.2) (.slice A0_0 l0_0.length c0_0)) (fun _ hk => hk.2) (.int .i64 a0_1)) (fun _ hk => hk.1.1.1), by repeat (first | (with_reducible first | exact HB.out | apply below_alloc | apply pw_below_drewN | apply below_drew1 | refine below_set ?_ GE252.out | refine below_set ?_ GE253.out) | exact HB.out)⟩
end Go.Proofs.Yteiladccdenpbaa.P
end
section
namespace Go.Proofs.Yteiladccdenpbaa.P
open Go.RowKit Go.Proofs.YteiladccdenpbaaW.PrintWords Go.Proofs.YteiladccdenpbaaW.PrintLast Go.Proofs.YteiladccdenpbaaW.PrintMore
set_option linter.unusedVariables false
set_option linter.unusedSimpArgs false
def goodC (n : Nat) (x : S55) : Prop := 0 ≤ x.f0 ∧ x.f0 ≤ 1000000 ∧ (0 < x.f0 → x.f1 = false) ∧ x.f2.f1.length ≤ 10 ∧ (x.f2.f0 = true ∨ ∀ i : Nat, i < x.f2.f1.length → 0 ≤ (rd_T49 x.f2.f1 (i : Nat)).f1 ∧ (rd_T49 x.f2.f1 (i : Nat)).f1 < (n : Int))
def goodL (l : List S55) : Prop := ∀ i : Nat, i < l.length → goodC l.length (rd_T55 l (i : Nat))
theorem goodL_may {l : List S55} {kp : Int} (hs : smallF l 0) (hr : heapR l kp) : goodL l := fun i hi => by
  have a := hs i hi (Nat.zero_le _)
  have b := hr.2.2.2.2 i hi (Nat.zero_le _)
  simp only [It, Rf] at a
  rcases b with ⟨b1, b2, b3⟩ | ⟨b1, b2, b3, b4, b5⟩
  · exact ⟨by omega, a.2, fun h => by omega, a.1, .inr fun i hi => by omega⟩
  · refine ⟨by omega, a.2, fun _ => b3, a.1, ?_⟩
    rcases b5 with b5 | b5
    · exact .inl b5
    · exact .inr fun i hi => by
        have := b5 i hi
        simp only [vAt] at this
        exact this
theorem goodL_set {l : List S55} {q : Nat} {x : S55} (h : goodL l) (hq : q < l.length) (hx : goodC l.length x) : goodL (l.set q x) := fun i hi => by
  rw [List.length_set] at hi ⊢
  rw [rd55_same _ hq]
  split
  · exact hx
  · exact h i hi
def usedN (l : List S55) : Nat := l.countP fun x => decide (0 < x.f0)
theorem usedN_set {l : List S55} {q : Nat} {x : S55} (hq : q < l.length) (h0 : 0 < (rd_T55 l (q : Nat)).f0) : usedN (l.set q x) + 1 = usedN l + (if 0 < x.f0 then 1 else 0) := by
  unfold usedN
  rw [rd55_at hq] at h0
  have hp : 0 < l.countP (fun x => decide (0 < x.f0)) := List.countP_pos_iff.2 ⟨l[q], List.getElem_mem _, by simpa using h0⟩
  rw [List.countP_set hq]
  simp only [decide_eq_true_eq]
  rw [if_pos h0]
  omega
theorem setF_val (l : List S55) (kp : Int) (q : Nat) (a : Int) (b c : Bool) (d : List S49) (hq : q < l.length) (hl : l.length < 1000000) : assartref05_set.f l kp q a b c d = some (l.set q ⟨a, b, ⟨c, d⟩⟩, kp) := by
  unfold assartref05_set.f
  rw [Option.bind_some, if_pos (by simp; omega), Option.bind_some, List.nil_append, if_pos (by omega), if_pos (by omega), Int.toNat_natCast]
def LooseOk (k : Nat) : Prop := ∀ (l : List S55) (p kp : Int), goodL l → l.length < 1000000 → 0 ≤ p → p < (l.length : Int) → usedN l < k →
  ∃ l', looseP k l p = some l' ∧ goodL l' ∧ l'.length = l.length ∧ usedN l' ≤ usedN l ∧ ∀ K, 13 * k ≤ K → assartref05_Loose.f K l kp p = some (l', kp, if usedB l p = true then 0 else 4)
theorem loose_fold {k : Nat} (H : LooseOk k) (it : List S49) (kp z0 : Int) (z1 : Bool) (n : Nat) (hn : n < 1000000) (hit : it.length ≤ 10) (hp : ∀ i : Nat, i < it.length → 0 ≤ (rd_T49 it (i : Nat)).f1 ∧ (rd_T49 it (i : Nat)).f1 < (n : Int)) :
    ∀ (d j : Nat) (S : List S55), j + d = it.length → goodL S → S.length = n → usedN S < k →
      ∃ S', foldO (looseP k) (it.drop j) S = some S' ∧ goodL S' ∧ S'.length = n ∧ usedN S' ≤ usedN S ∧ ∀ K, 13 * k + d + 1 ≤ K → assartref05_Loose.l0 K (j : Int) S kp z0 z1 false it = some (S', kp, 0) := by
  intro d
  induction d with
  | zero =>
    intro j S hj hg hl hu
    refine ⟨S, by rw [List.drop_eq_nil_of_le (by omega)]; rfl, hg, hl, Nat.le_refl _, fun K hK => ?_⟩
    obtain ⟨K, rfl⟩ : ∃ m, K = m + 1 := ⟨K - 1, by omega⟩
    rw [assartref05_Loose.l0, if_neg (by omega)]
  | succ d ih =>
    intro j S hj hg hl hu
    have hlt : j < it.length := by omega
    obtain ⟨p0, p1⟩ := hp j hlt
    obtain ⟨l1, e1, g1, n1, u1, f1⟩ := H S (rd_T49 it (j : Nat)).f1 kp hg (by omega) p0 (by omega) hu
    obtain ⟨S', e2, g2, n2, u2, f2⟩ := ih (j + 1) l1 (by omega) g1 (by omega) (by omega)
    refine ⟨S', ?_, g2, n2, by omega, fun K hK => ?_⟩
    · rw [(rd49_mem hlt).2, foldO, e1, Option.bind_some]
      exact e2
    · obtain ⟨K, rfl⟩ : ∃ m, K = m + 1 := ⟨K - 1, by omega⟩
      rw [assartref05_Loose.l0, if_pos (by omega), if_neg (by simp), if_pos (by omega), f1 K (by omega), Option.bind_some, wsucc j (by omega)]
      exact f2 K (by omega)
theorem loose_ok : ∀ k : Nat, LooseOk k := by
  intro k
  induction k with
  | zero => intro l p kp hg hl h0 h1 hu; omega
  | succ k ih =>
    intro l p kp hg hl h0 h1 hu
    obtain ⟨q, rfl⟩ : ∃ q : Nat, p = q := ⟨p.toNat, by omega⟩
    have hq : q < l.length := by omega
    obtain ⟨r0, r1, r2, r3, r4⟩ := hg q hq
    rw [looseP, if_pos ⟨by omega, by omega, hl, by omega, by omega⟩]
    have hF : ∀ K, 13 * (k + 1) ≤ K → ∃ m, K = m + 1 ∧ 13 * k + 12 ≤ m := fun K hK => ⟨K - 1, by omega, by omega⟩
    by_cases hz : (rd_T55 l (q : Nat)).f0 = 0
    · rw [if_pos hz]
      have hu0 : usedB l (q : Int) = false := by unfold usedB; exact decide_eq_false (by omega)
      refine ⟨l, rfl, hg, rfl, Nat.le_refl _, fun K hK => ?_⟩
      obtain ⟨m, rfl, hm⟩ := hF K hK
      rw [assartref05_Loose.f, used_val, Option.bind_some, hu0, if_neg (by simp), if_neg (by simp)]
    · rw [if_neg hz]
      have hpos : 0 < (rd_T55 l (q : Nat)).f0 := by omega
      have hu1 : usedB l (q : Int) = true := by unfold usedB; exact decide_eq_true ⟨by omega, by omega, hpos⟩
      have hpin := r2 hpos
      rw [hu1, if_pos rfl]
      by_cases h2 : 0 < (rd_T55 l (q : Nat)).f0 - 1
      · rw [if_pos h2, Int.toNat_natCast, hpin]
        refine ⟨_, rfl, goodL_set hg hq ⟨by simp only []; omega, by simp only []; omega, fun _ => rfl, r3, r4⟩, List.length_set, ?_, fun K hK => ?_⟩
        · have := usedN_set (x := ⟨(rd_T55 l (q : Nat)).f0 - 1, false, (rd_T55 l (q : Nat)).f2⟩) hq hpos
          rw [if_pos h2] at this
          omega
        · obtain ⟨m, rfl, hm⟩ := hF K hK
          have hw : wrap64 ((rd_T55 l (q : Nat)).f0 - 1) = (rd_T55 l (q : Nat)).f0 - 1 := by unfold wrap64; omega
          rw [assartref05_Loose.f, used_val, Option.bind_some, hu1, if_pos rfl, if_pos (by omega), if_pos (by omega), if_pos (by omega), setF_val _ _ _ _ _ _ _ hq hl, Option.bind_some, hw]
      · rw [if_neg h2, Int.toNat_natCast]
        have h3 : (rd_T55 l (q : Nat)).f0 - 1 = 0 := by omega
        rw [h3]
        have hg1 : goodL (l.set q ⟨0, true, ⟨false, []⟩⟩) := goodL_set hg hq ⟨Int.le_refl _, by decide, fun h => by simp at h, by simp, .inr fun i hi => by simp at hi⟩
        have hu2 := usedN_set (x := ⟨0, true, ⟨false, []⟩⟩) hq hpos
        rw [if_neg (by simp)] at hu2
        cases hlf : (rd_T55 l (q : Nat)).f2.f0 with
        | true =>
          refine ⟨_, by unfold eachP; rw [if_pos rfl], hg1, List.length_set, by omega, fun K hK => ?_⟩
          obtain ⟨m, rfl, hm⟩ := hF K hK
          rw [assartref05_Loose.f, used_val, Option.bind_some, hu1, if_pos rfl, if_pos (by omega), if_pos (by omega), if_neg (by omega), setF_val _ _ _ _ _ _ _ hq hl, Option.bind_some]
          obtain ⟨m, rfl⟩ : ∃ m', m = m' + 1 := ⟨m - 1, by omega⟩
          rw [assartref05_Loose.l0, hlf]
          split
          · rw [if_pos rfl]
          · rfl
        | false =>
          have hpl : ∀ i : Nat, i < (rd_T55 l (q : Nat)).f2.f1.length → 0 ≤ (rd_T49 (rd_T55 l (q : Nat)).f2.f1 (i : Nat)).f1 ∧ (rd_T49 (rd_T55 l (q : Nat)).f2.f1 (i : Nat)).f1 < (l.length : Int) := r4.resolve_left (by rw [hlf]; simp)
          obtain ⟨S', e2, g2, n2, u2, f2⟩ := loose_fold ih (rd_T55 l (q : Nat)).f2.f1 kp (rd_T55 l (q : Nat)).f0 (rd_T55 l (q : Nat)).f1 l.length hl r3 hpl (rd_T55 l (q : Nat)).f2.f1.length 0 _ (by omega) hg1 List.length_set (by omega)
          rw [List.drop_zero] at e2
          refine ⟨S', by unfold eachP; rw [if_neg (by simp), if_pos (by omega)]; exact e2, g2, n2, by omega, fun K hK => ?_⟩
          obtain ⟨m, rfl, hm⟩ := hF K hK
          rw [assartref05_Loose.f, used_val, Option.bind_some, hu1, if_pos rfl, if_pos (by omega), if_pos (by omega), if_neg (by omega), setF_val _ _ _ _ _ _ _ hq hl, Option.bind_some, hlf]
          have := f2 m (by omega)
          rw [show ((0 : Nat) : Int) = 0 from rfl] at this
          exact this
theorem good_items {l : List S55} (h : goodL l) : ∀ x ∈ l, x.f2.f1.length ≤ 10 := fun x hx => by
  obtain ⟨i, hi, rfl⟩ := List.mem_iff_getElem.1 hx
  have := (h i hi).2.2.2.1
  rwa [rd55_at hi] at this
theorem does_loose (l : List S55) (kp p : Int) (hl : l.length ≤ 60) (hs : smallF l 0) (hr : heapR l kp) :
    ∃ l' c K, heap_Loose.f l kp p = some (l', kp, c) ∧ assartref05_Loose.f K l kp p = some (l', kp, c) ∧ l'.length = l.length ∧ ∀ x ∈ l', x.f2.f1.length ≤ 10 := by
  unfold heap_Loose.f
  rw [if_pos (by omega)]
  by_cases hu : usedB l p = true
  · obtain ⟨q, rfl, hq, h0⟩ := usedB_nat hu
    have hc : usedN l ≤ l.length := List.countP_le_length
    obtain ⟨l', e1, g1, n1, -, f1⟩ := loose_ok 5000 l (q : Int) kp (goodL_may hs hr) (by omega) (by omega) (by omega) (by omega)
    rw [if_pos hu, e1, Option.bind_some, if_pos (by omega)]
    rw [if_pos hu] at f1
    exact ⟨l', 0, 13 * 5000, rfl, f1 _ (Nat.le_refl _), n1, good_items g1⟩
  · rw [if_neg hu]
    refine ⟨l, 4, 1, rfl, ?_, rfl, fun x hx => (small_items hs x hx).1⟩
    rw [assartref05_Loose.f, used_val, Option.bind_some, if_neg hu]
theorem does_hold (l : List S55) (kp p : Int) (hl : l.length ≤ 60) (hs : smallF l 0) :
    heap_Hold.f l kp p = some ((refHoldF l p).1, kp, (refHoldF l p).2) ∧ (refHoldF l p).1.length = l.length ∧ ∀ x ∈ (refHoldF l p).1, x.f2.f1.length ≤ 10 := by
  unfold heap_Hold.f refHoldF
  rw [if_pos (by omega)]
  by_cases hu : usedB l p = true
  · obtain ⟨q, rfl, hq, h0⟩ := usedB_nat hu
    have h1 := (small_items hs _ (List.getElem_mem hq)).2
    rw [← rd55_at hq] at h1
    rw [if_pos hu, if_pos hu, Int.toNat_natCast]
    have : holdP l (q : Int) = some (heldN l q 1) := by
      unfold holdP
      rw [if_pos ⟨by omega, by omega, by omega, by omega, by omega⟩, Int.toNat_natCast]
      rfl
    rw [this, Option.bind_some, heldN_len, if_pos (by omega)]
    refine ⟨rfl, rfl, fun x hx => ?_⟩
    obtain ⟨i, hi, rfl⟩ := List.mem_iff_getElem.1 hx
    have hi2 : i < l.length := by rwa [heldN_len] at hi
    have hix := (small_items hs _ (List.getElem_mem hi2)).1
    have hqx := (small_items hs _ (List.getElem_mem hq)).1
    rw [← rd55_at hi]
    unfold heldN
    rw [rd55_same _ hq]
    split
    · rw [rd55_at hq]; exact hqx
    · rw [rd55_at hi2]; exact hix
  · rw [if_neg hu, if_neg hu]
    exact ⟨rfl, rfl, fun x hx => (small_items hs x hx).1⟩
theorem does_fold (held : List Int) : ∀ (it : List S49) (l : List S55) (B : Int), l.length < 1000000 → (∀ x ∈ it, 0 ≤ x.f1 ∧ x.f1 < (l.length : Int)) → (∀ i : Nat, i < l.length → 0 ≤ (rd_T55 l i).f0 ∧ (rd_T55 l i).f0 ≤ B ∧ (rd_T55 l i).f2.f1.length ≤ 10) → B + it.length ≤ 2000000 →
    ∃ l1, foldO (allocF held) it l = some l1 ∧ l1.length = l.length ∧ ∀ i : Nat, i < l.length → (rd_T55 l1 i).f2.f1.length ≤ 10
  | [], l, B, _, _, hb, _ => ⟨l, rfl, rfl, fun i hi => (hb i hi).2.2⟩
  | x :: xs, l, B, hl, hx, hb, hB => by
    rw [List.length_cons] at hB
    obtain ⟨p0, p1⟩ := hx x (List.mem_cons_self ..)
    unfold foldO
    by_cases hm : x.f1 ∈ held
    · have : allocF held l x.f1 = some l := by unfold allocF; rw [if_pos hm]
      rw [this, Option.bind_some]
      exact does_fold held xs l B hl (fun y hy => hx y (List.mem_cons_of_mem _ hy)) hb (by omega)
    · obtain ⟨q, hq⟩ : ∃ q : Nat, x.f1 = q := ⟨x.f1.toNat, by omega⟩
      have hq1 : q < l.length := by omega
      have hbq := hb q hq1
      have : allocF held l x.f1 = some (heldN l q 1) := by
        unfold allocF holdP
        rw [if_neg hm, hq, if_pos ⟨by omega, by omega, hl, by omega, by omega⟩, Int.toNat_natCast]
        rfl
      rw [this, Option.bind_some]
      have hlen := heldN_len l q 1
      obtain ⟨l1, h1, h2, h3⟩ := does_fold held xs (heldN l q 1) (B + 1) (by omega) (fun y hy => by rw [hlen]; exact hx y (List.mem_cons_of_mem _ hy)) (fun i hi => by
        rw [hlen] at hi
        unfold heldN
        rw [rd55_same _ hq1]
        have := hb i hi
        by_cases e : q = i
        · rw [if_pos e]; exact ⟨by simp only []; omega, by simp only []; omega, hbq.2.2⟩
        · rw [if_neg e]; exact ⟨this.1, by omega, this.2.2⟩) (by omega)
      exact ⟨l1, h1, by omega, fun i hi => h3 i (by omega)⟩
theorem does_alloc (held : List Int) (l : List S55) (kp : Int) (leaf : Bool) (it : List S49) (hl : l.length ≤ 60) (hit : it.length ≤ 10) (hh : held.length ≤ 20) (hs : smallF l 0) (hr : heapR l kp) :
    ∃ l' r c, heap_Alloc.f l kp leaf it held = some (l', kp, r, c) ∧ l'.length = l.length ∧ ∀ x ∈ l', x.f2.f1.length ≤ 10 := by
  have hg := goodL_may hs hr
  unfold heap_Alloc.f
  rw [if_pos ⟨by omega, by omega, by omega⟩]
  by_cases h1 : RtN it ∧ leadsB l leaf it = true
  · rw [if_pos h1]
    by_cases h2 : idxN isFreeB l 0 < 0
    · rw [if_pos h2]
      exact ⟨l, 0, 3, rfl, rfl, fun x hx => (small_items hs x hx).1⟩
    · rw [if_neg h2]
      have hE : ∃ l1, eachP (allocF held) leaf it l = some l1 ∧ l1.length = l.length ∧ ∀ i : Nat, i < l.length → (rd_T55 l1 i).f2.f1.length ≤ 10 := by
        unfold eachP
        cases leaf
        · rw [if_neg (by simp), if_pos (by omega)]
          refine does_fold held it l 1000000 (by omega) (fun x hx => ?_) (fun i hi => ⟨(hg i hi).1, (hg i hi).2.1, (hg i hi).2.2.2.1⟩) (by omega)
          have hld := h1.2
          unfold leadsB at hld
          rw [Bool.false_or, Bool.not_eq_true', List.any_eq_false] at hld
          have := hld x hx
          unfold usedB at this
          simp at this
          omega
        · rw [if_pos rfl]
          exact ⟨l, rfl, rfl, fun i hi => (hg i hi).2.2.2.1⟩
      obtain ⟨l1, e1, e2, e3⟩ := hE
      rw [e1, Option.bind_some, if_pos e2]
      refine ⟨_, _, 0, rfl, by rw [List.length_set, e2], fun x hx => ?_⟩
      obtain ⟨i, hi, rfl⟩ := List.mem_iff_getElem.1 hx
      rw [List.getElem_set]
      have hi2 : i < l1.length := by rwa [List.length_set] at hi
      split
      · exact hit
      · rw [← rd55_at hi2]; exact e3 i (by omega)
  · rw [if_neg h1]
    exact ⟨l, 0, 1, rfl, rfl, fun x hx => (small_items hs x hx).1⟩
theorem does_settle (l : List S55) (kp : Int) (hl : l.length ≤ 60) (hs : smallF l 0) (hr : heapR l kp) :
    heap_Settle.f l kp = some (stT l l.length, kp) ∧ (stT l l.length).length = l.length ∧ ∀ x ∈ stT l l.length, x.f2.f1.length ≤ 10 := by
  unfold heap_Settle.f
  rw [if_pos ⟨by have := hr.1; omega, by omega⟩, stT_end]
  refine ⟨rfl, by rw [List.length_map], fun x hx => ?_⟩
  obtain ⟨y, hy, rfl⟩ := List.mem_map.1 hx
  exact (small_items hs y hy).1
end Go.Proofs.Yteiladccdenpbaa.P
end
