/- Texts of this claim's proof put together: F24, F14, F38, F39, F25, F26, F15, F6, PFine, PFine2, F9, HIdx. -/
import Derived.Below
import Derived.Deep.Draws
import Derived.Deep.AppendLies
import Derived.Maps.AppendAt
import Derived.OwnWalk
import Derived.Laws.BytesArg
import Derived.Laws.MakeOwn
import Derived.Laws.OwnMore
import Derived.Deep.OwnRows
import Derived.Tactics
import Derived.Lib.ConvBytes
import Derived.Laws.Slices
import Derived.WalkKit
import Derived.KernelRfl
import Derived.RowKit3
import Derived.Deep.LoopGhost
import Derived.Deep.QuietTactic
import Derived.BigQuiet
import Derived.WideLaws
import Derived.Deep.DeepCutAuto
import Derived.Deep.CutBlock
import Derived.Deep.RegionHeld3
import Derived.Laws.Rows
import Derived.Lib.AppendStr
import Derived.ArgAppend
import Derived.Laws.IdiomCopy
import Derived.RowKit
import Derived.OrdersHeld
import Derived.Laws.BitsLemmas
import Derived.Laws.StructEq
import Derived.Test.YtflndiikeoflfaaProg
import Derived.Shelf.RegionOpenPlain
import Derived.Shelf.Abstract
import Derived.Laws.CopyOwn
import Derived.Lib.SlBuf
import Derived.WalkLawsBesides
import Derived.Lib.LazyBuf
import Derived.ChangeArms
import Derived.DataReads
import Derived.DataElems
import Derived.SizedLaws
import Derived.Test.YtflndiikeoflfaaRows
import Derived.ProofKit
import Derived.OpenShut
import Derived.ShutString
import Derived.ChangeOld
import Derived.Test.YtflndiikeoflfaaKCleanBound0
import Derived.Test.YtflndiikeoflfaaKCleanBound1
import Derived.Test.YtflndiikeoflfaaKCleanBound2
namespace Foot
end Foot
namespace Go.Proofs.Ytflndiikeoflfaa
end Go.Proofs.Ytflndiikeoflfaa
namespace Go.Proofs.Ytflndiikeoflfaa.P
end Go.Proofs.Ytflndiikeoflfaa.P
namespace Go.Proofs.Ytflndiikeoflfaa.cleanBound
end Go.Proofs.Ytflndiikeoflfaa.cleanBound
namespace Go.Proofs.YtflndiikeoflfaaW.PrintLast
end Go.Proofs.YtflndiikeoflfaaW.PrintLast
namespace Go.Proofs.YtflndiikeoflfaaW.PrintMore
end Go.Proofs.YtflndiikeoflfaaW.PrintMore
namespace Go.Proofs.YtflndiikeoflfaaW.PrintWords
end Go.Proofs.YtflndiikeoflfaaW.PrintWords
namespace Kd
end Kd
section
namespace Go.Proofs.Ytflndiikeoflfaa.P
open Go.RowKit Go.Proofs.YtflndiikeoflfaaW.PrintWords Go.Proofs.YtflndiikeoflfaaW.PrintLast Go.Proofs.YtflndiikeoflfaaW.PrintMore
attribute [local go_sem] max2_int min2_int max_two min_two max_three min_three max_four min_four
set_option linter.unusedVariables false
set_option linter.unusedSimpArgs false
mutual
def assartref08_Any.j0 : Nat → List Int → List ByteArray → Bool → List (S38) → Int → Option (Bool)
 | 0, _, _, _, _, _ => none
 | k + 1, x1, x2, x29, x180000, x180001 => if x29 = true then (some false) else (assartref08_Any.l0 k x1 x2 0 x180000 x180001)
def assartref08_Any.l0 : Nat → List Int → List ByteArray → Int → List (S38) → Int → Option (Bool)
 | 0, _, _, _, _, _ => none
 | k + 1, x1, x2, x9, x180000, x180001 => if x9 < (x1.length : Int) then (if 0 ≤ x9 then ((assartref07_Right.f k x180000 x180001 (rd x1 x9)).bind fun t183 => (if t183 = true then (assartref08_Any.l0 k x1 x2 (wrap64 (x9 + 1)) x180000 x180001) else (some false))) else (none)) else (assartref08_Any.l1 k x2 0 x180000 x180001)
def assartref08_Any.l1 : Nat → List ByteArray → Int → List (S38) → Int → Option (Bool)
 | 0, _, _, _, _ => none
 | k + 1, x2, x11, x180000, x180001 => if x11 < (x2.length : Int) then (if 0 ≤ x11 then ((assartref06_Place.f (rdOf ByteArray.empty x2 x11)).bind fun t185 => ((assartref06_Done.f (rdOf ByteArray.empty x2 x11)).bind fun t187 => (if t187 = 0 then ((assartref07_Right.f k x180000 x180001 t185).bind fun t188 => (if t188 = true then (assartref08_Any.l1 k x2 (wrap64 (x11 + 1)) x180000 x180001) else (some false))) else (if 0 ≤ t185 then (if t185 < (x180000.length : Int) then (if (rd_T38 x180000 t185).f2.f0 = true then (assartref08_Any.j3 k x2 x11 t185 true x180000 x180001 ((rd_T38 x180000 t185).f0) ((rd_T38 x180000 t185).f1) ((rd_T38 x180000 t185).f2.f0) ((rd_T38 x180000 t185).f2.f1)) else (assartref08_Any.j3 k x2 x11 t185 (((rd_T38 x180000 t185).f0) != 1) x180000 x180001 ((rd_T38 x180000 t185).f0) ((rd_T38 x180000 t185).f1) ((rd_T38 x180000 t185).f2.f0) ((rd_T38 x180000 t185).f2.f1))) else (none)) else (none))))) else (none)) else (some true)
def assartref08_Any.j3 : Nat → List ByteArray → Int → Int → Bool → List (S38) → Int → Int → Bool → Bool → List (S46) → Option (Bool)
 | 0, _, _, _, _, _, _, _, _, _, _ => none
 | k + 1, x2, x11, x12, x78, x180000, x180001, x191000, x191001, x191002, x191003 => if x78 = true then (some false) else ((assartref08_Given.f k x2 x12).bind fun t191 => (assartref08_Any.l2 k x2 x11 t191 x180000 x180001 x191000 x191001 x191002 x191003))
def assartref08_Any.l2 : Nat → List ByteArray → Int → Int → List (S38) → Int → Int → Bool → Bool → List (S46) → Option (Bool)
 | 0, _, _, _, _, _, _, _, _, _ => none
 | k + 1, x2, x11, x15, x180000, x180001, x191000, x191001, x191002, x191003 => if x15 < (x191003.length : Int) then (if 0 ≤ x15 then ((assartref07_Right.f k x180000 x180001 ((rd_T46 x191003 x15).f1)).bind fun t193 => (if t193 = true then (assartref08_Any.l2 k x2 x11 (wrap64 (x15 + 1)) x180000 x180001 x191000 x191001 x191002 x191003) else (some false))) else (none)) else (assartref08_Any.l1 k x2 (wrap64 (x11 + 1)) x180000 x180001)
end
def assartref08_Any.f (k : Nat) (l0_0 : List (S38)) (a0_1 : Int) (l1 : List Int) (l2 : List ByteArray) : Option (Bool) := (assartref05_Right.f k l0_0 a0_1).bind fun t180 => ((assartref06_Right.f l2 (l0_0.length : Int)).bind fun t181 => (if t180 = true then (assartref08_Any.j0 k l1 l2 (!t181) l0_0 a0_1) else (assartref08_Any.j0 k l1 l2 true l0_0 a0_1)))
set_option maxHeartbeats 8000000 in
set_option maxRecDepth 100000 in
theorem assartref08_Any.calls (k : Nat) (A0_0 : Option Addr) (c0_0 : Nat) (l0_0 : List (S38)) (a0_1 : Int) (A1 : Option Addr) (c1 : Nat) (l1 : List Int) (A2 : Option Addr) (c2 : Nat) (l2 : List ByteArray) (r : Bool) (w : World) (hr0_0 : Kd.C k38 w A0_0 l0_0.length l0_0) (hc0_0 : l0_0.length ≤ c0_0) (hr1 : Kd.C (Kd.int .i64) w A1 l1.length l1) (hc1 : l1.length ≤ c1) (hr2 : Kd.C Kd.string w A2 l2.length l2) (hc2 : l2.length ≤ c2) (h : assartref08_Any.f k l0_0 a0_1 l1 l2 = some r) :
  Calls Try.prog 24 #[.agg #[.slice A0_0 l0_0.length c0_0, .int .i64 a0_1], .slice A1 l1.length c1, .slice A2 l2.length c2] w fun e w' => e = .returned (.bool r) ∧ Below w.heap.size w w' := by
 have hu24 := Try.underlying24
 have hu38 := Try.underlying38
 have HR0_0 := Aside0.mk hr0_0
 have HC0_0 := Aside0.mk hc0_0
 clear hr0_0 hc0_0
 have HR1 := Aside0.mk hr1
 have HC1 := Aside0.mk hc1
 clear hr1 hc1
 have HR2 := Aside0.mk hr2
 have HC2 := Aside0.mk hc2
 clear hr2 hc2
 have HB := Aside0.mk (Below.refl w.heap.size w)
 have H : ((assartref05_Right.f k l0_0 a0_1).bind fun t180 => ((assartref06_Right.f l2 (l0_0.length : Int)).bind fun t181 => (if t180 = true then (assartref08_Any.j0 k l1 l2 (!t181) l0_0 a0_1) else (assartref08_Any.j0 k l1 l2 true l0_0 a0_1)))) = some r := h
 clear h
 replace H := Option.bind_eq_some_iff.mp H
 obtain ⟨t180, A40, H⟩ := H
 replace H : ((assartref06_Right.f l2 (l0_0.length : Int)).bind fun t181 => (if t180 = true then (assartref08_Any.j0 k l1 l2 (!t181) l0_0 a0_1) else (assartref08_Any.j0 k l1 l2 true l0_0 a0_1))) = some r := H
 have A4 := Aside0.mk A40
 clear A40
 replace H := Option.bind_eq_some_iff.mp H
 obtain ⟨t181, A50, H⟩ := H
 replace H : (if t180 = true then (assartref08_Any.j0 k l1 l2 (!t181) l0_0 a0_1) else (assartref08_Any.j0 k l1 l2 true l0_0 a0_1)) = some r := H
 have A5 := Aside0.mk A50
 clear A50
 have HC6 := Aside0.mk H
 clear H
 go_enter Try.func24, Try.ntmps24
 go_upto_region 3 with (first | ((with_reducible refine gate_dst (N := 3) rfl ?_); refine box_event ?hg (N := 3) ?hd (cs := #[.slice A0_0 l0_0.length c0_0, .int .i64 a0_1]) (t := 24) ?hr ?_; (case hd => rfl); (case hg => rfl); (case hr => first | (go_simp; done) | (go_simp; rfl)); intro gb179 hg w7 hbox hb; have n0_ := Aside0.mk (below_step (by repeat (first | (with_reducible first | exact HB.out | apply below_alloc | apply pw_below_drewN | apply below_drew1) | exact HB.out)) hb); have n1_ := Aside0.mk (hbox); have n2_ := Aside0.mk ((by rw [hg]; exact (below_size (by repeat (first | (with_reducible first | exact HB.out | apply below_alloc | apply pw_below_drewN | apply below_drew1) | exact HB.out))) : w.heap.size ≤ gb179)); have n3_ := Aside0.mk ((by rw [hg]; exact (below_size (by repeat (first | (with_reducible first | exact HB.out | apply below_alloc | apply pw_below_drewN | apply below_drew1) | exact HB.out))) : w.heap.size ≤ gb179)); clear HB; have HB := n0_; have BK179 := n1_; have GW179 := n2_; have GE179 := n3_; clear n0_ n1_ n2_ n3_; clear hb hbox hg; have hcz8_0 : w7.cell? ⟨gb179, 0, none⟩ = some (.slice A0_0 l0_0.length c0_0) := (blk_cell BK179.out 0).trans rfl; have hcz8_1 : w7.cell? ⟨gb179, 1, none⟩ = some (.int .i64 a0_1) := (blk_cell BK179.out 1).trans rfl; have hfz8_0 := blk_frozen BK179.out 0; have hfz8_1 := blk_frozen BK179.out 1) | ((with_reducible refine gate_callee (f := 32) rfl ?_); refine goesL_ (some 18) rfl rfl Try.func32 (by kernel_rfl) rfl #[.agg #[.slice A0_0 l0_0.length c0_0, .int .i64 a0_1]] rfl (by (try simp only [List.map_toArray, List.map_cons, List.map_nil]); first | done | rfl | (simp only [List.length_drop, List.length_take]; rfl)) ?_; (with_reducible refine (assartref05_Right.calls k _ _ l0_0 a0_1 t180 _ ?side1 ?side2 A4.out).mono ?_); (case side1 => repeat (first | exact (Kd.C_below HR0_0.out HB.out) | (with_reducible refine Kd.C_alloc ?_ _) | (with_reducible refine Kd.C_drewN ?_ _) | (with_reducible refine Kd.C_drew ?_))); (case side2 => exact HC0_0.out); rintro e w9 ⟨rfl, hb⟩; refine ⟨_, rfl, ?_⟩; have n0_ := Aside0.mk (blk_below (g := gb179) (o := .cells #[.slice A0_0 l0_0.length c0_0, .int .i64 a0_1] 24 (0, 0)) (by (with_reducible repeat (first | refine blk_drewN ?_ _ | refine blk_drew ?_ | refine blk_alloc ?_ _)); exact BK179.out) hb); have n1_ := Aside0.mk (below_step (by repeat (first | (with_reducible first | exact HB.out | apply below_alloc | apply pw_below_drewN | apply below_drew1 | refine below_set ?_ GE179.out) | exact HB.out)) hb); clear BK179; clear HB; have BK179 := n0_; have HB := n1_; clear n0_ n1_; (try clear hb); (try clear hb2); (try clear hk); (try clear hi); have hcz10_0 : w9.cell? ⟨gb179, 0, none⟩ = some (.slice A0_0 l0_0.length c0_0) := (blk_cell BK179.out 0).trans rfl; have hcz10_1 : w9.cell? ⟨gb179, 1, none⟩ = some (.int .i64 a0_1) := (blk_cell BK179.out 1).trans rfl; have hfz10_0 := blk_frozen BK179.out 0; have hfz10_1 := blk_frozen BK179.out 1) | ((with_reducible refine gate_callee (f := 33) rfl ?_); refine goesL_ (some 23) rfl rfl Try.func33 (by kernel_rfl) rfl #[.slice A2 l2.length c2, .int .i64 (l0_0.length : Int)] rfl (by (try simp only [List.map_toArray, List.map_cons, List.map_nil]); first | done | rfl | (simp only [List.length_drop, List.length_take]; rfl)) ?_; (with_reducible refine (assartref06_Right.calls _ _ l2 (l0_0.length : Int) t181 _ ?side1 ?side2 A5.out).mono ?_); (case side1 => repeat (first | exact (Kd.C_below HR2.out HB.out) | (with_reducible refine Kd.C_alloc ?_ _) | (with_reducible refine Kd.C_drewN ?_ _) | (with_reducible refine Kd.C_drew ?_))); (case side2 => exact HC2.out); rintro e w' ⟨rfl, ⟨nd, rfl⟩⟩; refine ⟨_, rfl, ?_⟩))
 (try simp only [Act.put, List.setIfInBounds_toArray, List.set_cons_zero, List.set_cons_succ])
 go_cut [29] (fun v29 wc => ∃ (kq : Nat) (x29_5 : Bool), v29 = .bool x29_5 ∧ Aside0 (assartref08_Any.j0 kq l1 l2 x29_5 l0_0 a0_1 = some r) ∧ Aside0 (kq ≤ k) ∧ Aside0 (wc.heap[gb179]? = some (.cells #[(.slice A0_0 l0_0.length c0_0), .int .i64 a0_1] 24 (0, 0))) ∧ Aside0 (Below w.heap.size w wc))
 case first =>
  have H := HC6.out
  clear HC6
  by_cases c11 : t180 = true
  ·subst c11
   have H1 : (assartref08_Any.j0 k l1 l2 (!t181) l0_0 a0_1) = some r := by rw [if_pos rfl] at H; exact H
   clear H
   have H := H1
   clear H1
   have H' := Aside0.mk H
   clear H
   go_wp2
   go_meet
   case rel => exact ⟨_, (!t181), (by first | rfl | (simp; done) | (simp [*]; done)), H', ⟨by first | omega | exact Nat.le_refl _⟩, ⟨by (with_reducible repeat (first | refine blk_drewN ?_ _ | refine blk_drew ?_ | refine blk_alloc ?_ _)); exact BK179.out⟩, ⟨by repeat (first | (with_reducible first | exact HB.out | apply below_alloc | apply pw_below_drewN | apply below_drew1 | refine below_set ?_ GE179.out) | exact HB.out)⟩⟩
  ·replace c11 := Bool.eq_false_iff.mpr c11
   subst c11
   have H1 : (assartref08_Any.j0 k l1 l2 true l0_0 a0_1) = some r := by rw [if_neg (show ¬ (false = true) by decide)] at H; exact H
   clear H
   have H := H1
   clear H1
   have H' := Aside0.mk H
   clear H
   go_wp2
   go_meet
   case rel => exact ⟨_, (true), (by first | rfl | (simp; done) | (simp [*]; done)), H', ⟨by first | omega | exact Nat.le_refl _⟩, ⟨by (with_reducible repeat (first | refine blk_drewN ?_ _ | refine blk_drew ?_ | refine blk_alloc ?_ _)); exact BK179.out⟩, ⟨by repeat (first | (with_reducible first | exact HB.out | apply below_alloc | apply pw_below_drewN | apply below_drew1 | refine below_set ?_ GE179.out) | exact HB.out)⟩⟩
 case rest =>
  clear HC6
  try clear c1
  try clear c2
  try clear p2
  try clear c3
  try clear c11
  try clear hcz10_0
  try clear hcz10_1
  try clear hcz8_0
  try clear hcz8_1
  try clear hfz10_0
  try clear hfz10_1
  try clear hfz8_0
  try clear hfz8_1
  obtain ⟨kq, x29_5, rfl, HA, HJ5, BK179, HB⟩ := hcut
  cases kq with
  | zero => exact absurd HA.out (by simp [assartref08_Any.j0])
  | succ kj5 =>
   have H := HA.out
   clear HA
   simp only [assartref08_Any.j0] at H
   by_cases c12 : x29_5 = true
   ·subst c12
    have H1 : (some false) = some r := by rw [if_pos rfl] at H; exact H
    clear H
    have H := H1
    clear H1
    obtain rfl := Option.some.inj H
    go_wp2
    go_ret
    exact ⟨by first | rfl | (simp [errW_none, errW_some] <;> rfl) | (simp [*, errW_none, errW_some] <;> rfl), by repeat (first | (with_reducible first | exact HB.out | apply below_alloc | apply pw_below_drewN | apply below_drew1 | refine below_set ?_ GE179.out) | exact HB.out)⟩
   ·replace c12 := Bool.eq_false_iff.mpr c12
    subst c12
    have H1 : (assartref08_Any.l0 kj5 l1 l2 0 l0_0 a0_1) = some r := by rw [if_neg (show ¬ (false = true) by decide)] at H; exact H
    clear H
    have H := H1
    clear H1
    have H' := Aside0.mk H
    clear H
    go_wp2
    go_loopg [9] kj5 (fun kq v9 w' => ∃ (x9_2 : Int), v9 = .int .i64 x9_2 ∧ Aside0 (assartref08_Any.l0 kq l1 l2 x9_2 l0_0 a0_1 = some r) ∧ Aside0 (kq ≤ kj5) ∧ Aside0 (w'.heap[gb179]? = some (.cells #[(.slice A0_0 l0_0.length c0_0), .int .i64 a0_1] 24 (0, 0))) ∧ Aside0 (Below w.heap.size w w'))
    case atStart => exact ⟨(0), (by first | rfl | (simp; done) | (simp [*]; done)), H', ⟨Nat.le_refl _⟩, ⟨by (with_reducible repeat (first | refine blk_drewN ?_ _ | refine blk_drew ?_ | refine blk_alloc ?_ _)); exact BK179.out⟩, ⟨by repeat (first | (with_reducible first | exact HB.out | apply below_alloc | apply pw_below_drewN | apply below_drew1 | refine below_set ?_ GE179.out) | exact HB.out)⟩⟩
    case round =>
     clear H'
     try clear c1
     try clear c2
     try clear p2
     try clear c3
     try clear c11
     try clear c12
     try clear hcz10_0
     try clear hcz10_1
     try clear hcz8_0
     try clear hcz8_1
     try clear hfz10_0
     try clear hfz10_1
     try clear hfz8_0
     try clear hfz8_1
     try clear p2
     obtain ⟨x9_2, rfl, HA, HK2, BK179, HB⟩ := hrel
     cases gk with
     | zero => exact absurd HA.out (by simp [assartref08_Any.l0])
     | succ k2 =>
      have H := HA.out
      clear HA
      simp only [assartref08_Any.l0] at H
      by_cases c13 : x9_2 < (l1.length : Int)
      ·rw [if_pos c13] at H
       have c13b0 : decide (x9_2 < (l1.length : Int)) = true := decide_eq_true c13
       clear c13
       by_cases c14 : 0 ≤ x9_2
       ·rw [if_pos c14] at H
        have c14b0 : decide (0 ≤ x9_2) = true := decide_eq_true c14
        clear c14
        replace H := Option.bind_eq_some_iff.mp H
        obtain ⟨t183, A150, H⟩ := H
        replace H : (if t183 = true then (assartref08_Any.l0 k2 l1 l2 (wrap64 (x9_2 + 1)) l0_0 a0_1) else (some false)) = some r := H
        have A15 := Aside0.mk A150
        clear A150
        by_cases c16 : t183 = true
        ·subst c16
         have H1 : (assartref08_Any.l0 k2 l1 l2 (wrap64 (x9_2 + 1)) l0_0 a0_1) = some r := by rw [if_pos rfl] at H; exact H
         clear H
         have H := H1
         clear H1
         have H' := Aside0.mk H
         clear H
         try go_wp2
         have n0_ := Aside0.mk (blk_drew BK179.out)
         have n1_ := Aside0.mk (below_drew1 HB.out)
         clear BK179
         clear HB
         have BK179 := n0_
         have HB := n1_
         clear n0_ n1_
         have p182 : 0 ≤ (x9_2 : Int) := of_decide_eq_true (by first | (with_reducible assumption) | assumption)
         have q182 : x9_2 < (l1.length : Int) := of_decide_eq_true (by first | (with_reducible assumption) | assumption)
         obtain ⟨ad182, e182, hx182_0⟩ := Kd.at_int HR1.out x9_2 p182 q182
         have hw182_0 := hx182_0
         cases e182
         replace hx182_0 := (HB.out.cell (World.block_lt_of_cell? w _ hx182_0)).trans hx182_0
         replace p182 := eq_true p182
         replace q182 := eq_true q182
         refine start_ (n := 7) (S := fun w' => w'.cell? ⟨gb179, 0, none⟩ = some (.slice A0_0 l0_0.length c0_0) ∧ w'.cell? ⟨gb179, 1, none⟩ = some (.int .i64 a0_1) ∧ w'.cell? (ad182.add (x9_2).toNat) = some (.int .i64 (rd l1 x9_2))) (ds := []) #[false, false, false, false, false, false, false] (by kernel_rfl) rfl rfl ⟨(blk_cell BK179.out 0).trans rfl, (blk_cell BK179.out 1).trans rfl, ((HB.out.cell (World.block_lt_of_cell? w _ hw182_0)).trans hw182_0)⟩ (fun hHeld => ?_)
         generalize wr.drew = w17 at BK179 HB hx182_0 hHeld ⊢
         refine pure_ (i := 1) (N := some 37) (v := ?_) (a' := ?_) #[false, true, false, false, false, false, false] rfl rfl (by kernel_rfl) (fun _ _ _ h => h) (Or.inl ⟨by rfl, ?_⟩) ?_ ?_
         rotate_left
         ·intro w'
          go_simp
          with_reducible rfl
         rotate_left
         ·simp only [Act.put, List.setIfInBounds_toArray, List.set_cons_zero, List.set_cons_succ, i64_w, i32_w]
          rfl
         refine pure_ (i := 2) (N := some 38) (v := ?_) (a' := ?_) #[false, true, true, false, false, false, false] rfl rfl (by kernel_rfl) (fun _ _ _ h => h) (Or.inl ⟨by rfl, ?_⟩) ?_ ?_
         rotate_left
         ·intro w'
          go_simp
          with_reducible rfl
         rotate_left
         ·simp only [Act.put, List.setIfInBounds_toArray, List.set_cons_zero, List.set_cons_succ, i64_w, i32_w]
          rfl
         refine pure_ (i := 3) (N := some 39) (v := ?_) (a' := ?_) #[false, true, true, true, false, false, false] rfl rfl (by kernel_rfl) (fun _ _ _ h => h) (Or.inl ⟨by rfl, ?_⟩) ?_ ?_
         rotate_left
         ·intro w'
          go_simp
          with_reducible rfl
         rotate_left
         ·simp only [Act.put, List.setIfInBounds_toArray, List.set_cons_zero, List.set_cons_succ, i64_w, i32_w]
          rfl
         refine take_ (i := 0) (N := some 36) (v := ?_) (a' := ?_) #[true, true, true, true, false, false, false] rfl rfl (by kernel_rfl) (fun _ _ _ h => h) (Or.inl ⟨by rfl, ?_⟩) hHeld ?_ ?_
         rotate_left
         ·rintro w' ⟨s0, s1, s2⟩
          go_simp
          with_reducible rfl
         rotate_left
         ·simp only [Act.put, List.setIfInBounds_toArray, List.set_cons_zero, List.set_cons_succ, i64_w, i32_w]
          rfl
         refine take_ (i := 4) (N := some 40) (v := ?_) (a' := ?_) #[true, true, true, true, true, false, false] rfl rfl (by kernel_rfl) (fun _ _ _ h => h) (Or.inl ⟨by rfl, ?_⟩) hHeld ?_ ?_
         rotate_left
         ·rintro w' ⟨s0, s1, s2⟩
          go_simp
          with_reducible rfl
         rotate_left
         ·simp only [Act.put, List.setIfInBounds_toArray, List.set_cons_zero, List.set_cons_succ, i64_w, i32_w]
          rfl
         refine one_ (i := 5) (N := some 41) #[true, true, true, true, true, true, false] rfl rfl (by kernel_rfl) (by decide) (fun K hK => ?_)
         refine goes_ Try.func34 (by kernel_rfl) rfl #[.agg #[.slice A0_0 l0_0.length c0_0, .int .i64 a0_1], .int .i64 (rd l1 x9_2)] (by rfl) rfl rfl (by (try simp only [List.map_toArray, List.map_cons, List.map_nil]); first | done | rfl | (simp only [List.length_drop, List.length_take]; rfl)) ?_
         with_reducible refine (assartref07_Right.calls k2 _ _ l0_0 a0_1 (rd l1 x9_2) true _ ?side1 ?side2 A15.out).mono ?_
         (case side1 => repeat (first | exact (Kd.C_below HR0_0.out HB.out) | (with_reducible refine Kd.C_alloc ?_ _) | (with_reducible refine Kd.C_drewN ?_ _) | (with_reducible refine Kd.C_drew ?_)))
         (case side2 => exact HC0_0.out)
         rintro e w18 ⟨rfl, hb⟩
         refine ⟨_, rfl, ?_⟩
         have n0_ := Aside0.mk (blk_below (g := gb179) (o := .cells #[.slice A0_0 l0_0.length c0_0, .int .i64 a0_1] 24 (0, 0)) (by (with_reducible repeat (first | refine blk_drewN ?_ _ | refine blk_drew ?_ | refine blk_alloc ?_ _)); exact BK179.out) hb)
         have n1_ := Aside0.mk (below_step (by repeat (first | (with_reducible first | exact HB.out | apply below_alloc | apply pw_below_drewN | apply below_drew1 | refine below_set ?_ GE179.out) | exact HB.out)) hb)
         clear BK179
         clear HB
         have BK179 := n0_
         have HB := n1_
         clear n0_ n1_
         (try clear hb)
         (try clear hb2)
         (try clear hk)
         (try clear hi)
         refine hK.out _ _ ⟨(blk_cell BK179.out 0).trans rfl, (blk_cell BK179.out 1).trans rfl, ((HB.out.cell (World.block_lt_of_cell? w _ hw182_0)).trans hw182_0)⟩ (fun hHeld => ?_)
         clear hK K
         refine norm_ (a' := ?_) ?_ ?_
         rotate_left
         ·show Act.put _ (some 41) _ = _
          simp only [Act.put, List.setIfInBounds_toArray, List.set_cons_zero, List.set_cons_succ, i64_w, i32_w]
          rfl
         refine pure_ (i := 6) (N := some 10) (v := ?_) (a' := ?_) #[true, true, true, true, true, true, true] rfl rfl (by kernel_rfl) (fun _ _ _ h => h) (Or.inl ⟨by rfl, ?_⟩) ?_ ?_
         rotate_left
         ·intro w'
          go_simp
          with_reducible rfl
         rotate_left
         ·simp only [Act.put, List.setIfInBounds_toArray, List.set_cons_zero, List.set_cons_succ, i64_w, i32_w]
          rfl
         refine done_ (by kernel_rfl) ?_
         try go_wp2
         go_roundg k2
         case measure => have := HJ5.out; have := HK2.out; omega
         case rel => exact ⟨(wrap64 (x9_2 + 1)), (by first | rfl | (simp; done) | (simp [*]; done)), H', ⟨by have := HJ5.out; have := HK2.out; omega⟩, ⟨by (with_reducible repeat (first | refine blk_drewN ?_ _ | refine blk_drew ?_ | refine blk_alloc ?_ _)); exact BK179.out⟩, ⟨by repeat (first | (with_reducible first | exact HB.out | apply below_alloc | apply pw_below_drewN | apply below_drew1 | refine below_set ?_ GE179.out) | exact HB.out)⟩⟩
        ·replace c16 := Bool.eq_false_iff.mpr c16
         subst c16
         have H1 : (some false) = some r := by rw [if_neg (show ¬ (false = true) by decide)] at H; exact H
         clear H
         have H := H1
         clear H1
         obtain rfl := Option.some.inj H
         try go_wp2
         have n0_ := Aside0.mk (blk_drew BK179.out)
         have n1_ := Aside0.mk (below_drew1 HB.out)
         clear BK179
         clear HB
         have BK179 := n0_
         have HB := n1_
         clear n0_ n1_
         have p182 : 0 ≤ (x9_2 : Int) := of_decide_eq_true (by first | (with_reducible assumption) | assumption)
         have q182 : x9_2 < (l1.length : Int) := of_decide_eq_true (by first | (with_reducible assumption) | assumption)
         obtain ⟨ad182, e182, hx182_0⟩ := Kd.at_int HR1.out x9_2 p182 q182
         have hw182_0 := hx182_0
         cases e182
         replace hx182_0 := (HB.out.cell (World.block_lt_of_cell? w _ hx182_0)).trans hx182_0
         replace p182 := eq_true p182
         replace q182 := eq_true q182
         refine start_ (n := 7) (S := fun w' => w'.cell? ⟨gb179, 0, none⟩ = some (.slice A0_0 l0_0.length c0_0) ∧ w'.cell? ⟨gb179, 1, none⟩ = some (.int .i64 a0_1) ∧ w'.cell? (ad182.add (x9_2).toNat) = some (.int .i64 (rd l1 x9_2))) (ds := []) #[false, false, false, false, false, false, false] (by kernel_rfl) rfl rfl ⟨(blk_cell BK179.out 0).trans rfl, (blk_cell BK179.out 1).trans rfl, ((HB.out.cell (World.block_lt_of_cell? w _ hw182_0)).trans hw182_0)⟩ (fun hHeld => ?_)
         generalize wr.drew = w19 at BK179 HB hx182_0 hHeld ⊢
         refine pure_ (i := 1) (N := some 37) (v := ?_) (a' := ?_) #[false, true, false, false, false, false, false] rfl rfl (by kernel_rfl) (fun _ _ _ h => h) (Or.inl ⟨by rfl, ?_⟩) ?_ ?_
         rotate_left
         ·intro w'
          go_simp
          with_reducible rfl
         rotate_left
         ·simp only [Act.put, List.setIfInBounds_toArray, List.set_cons_zero, List.set_cons_succ, i64_w, i32_w]
          rfl
         refine pure_ (i := 2) (N := some 38) (v := ?_) (a' := ?_) #[false, true, true, false, false, false, false] rfl rfl (by kernel_rfl) (fun _ _ _ h => h) (Or.inl ⟨by rfl, ?_⟩) ?_ ?_
         rotate_left
         ·intro w'
          go_simp
          with_reducible rfl
         rotate_left
         ·simp only [Act.put, List.setIfInBounds_toArray, List.set_cons_zero, List.set_cons_succ, i64_w, i32_w]
          rfl
         refine pure_ (i := 3) (N := some 39) (v := ?_) (a' := ?_) #[false, true, true, true, false, false, false] rfl rfl (by kernel_rfl) (fun _ _ _ h => h) (Or.inl ⟨by rfl, ?_⟩) ?_ ?_
         rotate_left
         ·intro w'
          go_simp
          with_reducible rfl
         rotate_left
         ·simp only [Act.put, List.setIfInBounds_toArray, List.set_cons_zero, List.set_cons_succ, i64_w, i32_w]
          rfl
         refine take_ (i := 0) (N := some 36) (v := ?_) (a' := ?_) #[true, true, true, true, false, false, false] rfl rfl (by kernel_rfl) (fun _ _ _ h => h) (Or.inl ⟨by rfl, ?_⟩) hHeld ?_ ?_
         rotate_left
         ·rintro w' ⟨s0, s1, s2⟩
          go_simp
          with_reducible rfl
         rotate_left
         ·simp only [Act.put, List.setIfInBounds_toArray, List.set_cons_zero, List.set_cons_succ, i64_w, i32_w]
          rfl
         refine take_ (i := 4) (N := some 40) (v := ?_) (a' := ?_) #[true, true, true, true, true, false, false] rfl rfl (by kernel_rfl) (fun _ _ _ h => h) (Or.inl ⟨by rfl, ?_⟩) hHeld ?_ ?_
         rotate_left
         ·rintro w' ⟨s0, s1, s2⟩
          go_simp
          with_reducible rfl
         rotate_left
         ·simp only [Act.put, List.setIfInBounds_toArray, List.set_cons_zero, List.set_cons_succ, i64_w, i32_w]
          rfl
         refine one_ (i := 5) (N := some 41) #[true, true, true, true, true, true, false] rfl rfl (by kernel_rfl) (by decide) (fun K hK => ?_)
         refine goes_ Try.func34 (by kernel_rfl) rfl #[.agg #[.slice A0_0 l0_0.length c0_0, .int .i64 a0_1], .int .i64 (rd l1 x9_2)] (by rfl) rfl rfl (by (try simp only [List.map_toArray, List.map_cons, List.map_nil]); first | done | rfl | (simp only [List.length_drop, List.length_take]; rfl)) ?_
         with_reducible refine (assartref07_Right.calls k2 _ _ l0_0 a0_1 (rd l1 x9_2) false _ ?side1 ?side2 A15.out).mono ?_
         (case side1 => repeat (first | exact (Kd.C_below HR0_0.out HB.out) | (with_reducible refine Kd.C_alloc ?_ _) | (with_reducible refine Kd.C_drewN ?_ _) | (with_reducible refine Kd.C_drew ?_)))
         (case side2 => exact HC0_0.out)
         rintro e w20 ⟨rfl, hb⟩
         refine ⟨_, rfl, ?_⟩
         have n0_ := Aside0.mk (blk_below (g := gb179) (o := .cells #[.slice A0_0 l0_0.length c0_0, .int .i64 a0_1] 24 (0, 0)) (by (with_reducible repeat (first | refine blk_drewN ?_ _ | refine blk_drew ?_ | refine blk_alloc ?_ _)); exact BK179.out) hb)
         have n1_ := Aside0.mk (below_step (by repeat (first | (with_reducible first | exact HB.out | apply below_alloc | apply pw_below_drewN | apply below_drew1 | refine below_set ?_ GE179.out) | exact HB.out)) hb)
         clear BK179
         clear HB
         have BK179 := n0_
         have HB := n1_
         clear n0_ n1_
         (try clear hb)
         (try clear hb2)
         (try clear hk)
         (try clear hi)
         refine hK.out _ _ ⟨(blk_cell BK179.out 0).trans rfl, (blk_cell BK179.out 1).trans rfl, ((HB.out.cell (World.block_lt_of_cell? w _ hw182_0)).trans hw182_0)⟩ (fun hHeld => ?_)
         clear hK K
         refine norm_ (a' := ?_) ?_ ?_
         rotate_left
         ·show Act.put _ (some 41) _ = _
          simp only [Act.put, List.setIfInBounds_toArray, List.set_cons_zero, List.set_cons_succ, i64_w, i32_w]
          rfl
         refine pure_ (i := 6) (N := some 10) (v := ?_) (a' := ?_) #[true, true, true, true, true, true, true] rfl rfl (by kernel_rfl) (fun _ _ _ h => h) (Or.inl ⟨by rfl, ?_⟩) ?_ ?_
         rotate_left
         ·intro w'
          go_simp
          with_reducible rfl
         rotate_left
         ·simp only [Act.put, List.setIfInBounds_toArray, List.set_cons_zero, List.set_cons_succ, i64_w, i32_w]
          rfl
         refine done_ (by kernel_rfl) ?_
         try go_wp2
         go_ret
         exact ⟨by first | rfl | (simp [errW_none, errW_some] <;> rfl) | (simp [*, errW_none, errW_some] <;> rfl), by repeat (first | (with_reducible first | exact HB.out | apply below_alloc | apply pw_below_drewN | apply below_drew1 | refine below_set ?_ GE179.out) | exact HB.out)⟩
       ·rw [if_neg c14] at H
        exact absurd H (by simp)
      ·rw [if_neg c13] at H
       have c13b0 : decide (x9_2 < (l1.length : Int)) = false := decide_eq_false c13
       clear c13
       have H' := Aside0.mk H
       clear H
       go_wp2
       go_loopg [11] k2 (fun kq v11 w' => ∃ (x11_3 : Int), v11 = .int .i64 x11_3 ∧ Aside0 (assartref08_Any.l1 kq l2 x11_3 l0_0 a0_1 = some r) ∧ Aside0 (kq ≤ k2) ∧ Aside0 (w'.heap[gb179]? = some (.cells #[(.slice A0_0 l0_0.length c0_0), .int .i64 a0_1] 24 (0, 0))) ∧ Aside0 (Below w.heap.size w w'))
       case atStart => exact ⟨(0), (by first | rfl | (simp; done) | (simp [*]; done)), H', ⟨Nat.le_refl _⟩, ⟨by (with_reducible repeat (first | refine blk_drewN ?_ _ | refine blk_drew ?_ | refine blk_alloc ?_ _)); exact BK179.out⟩, ⟨by repeat (first | (with_reducible first | exact HB.out | apply below_alloc | apply pw_below_drewN | apply below_drew1 | refine below_set ?_ GE179.out) | exact HB.out)⟩⟩
       case round =>
        clear H'
        try clear c1
        try clear p1
        try clear q1
        try clear hx1
        try clear c2
        try clear p2
        try clear c3
        try clear p6
        try clear c11
        try clear c12
        try clear c13
        try clear c13b0
        try clear c14
        try clear c14b0
        try clear c16
        try clear p18
        try clear q18
        try clear hx18
        try clear hcz10_0
        try clear hcz10_1
        try clear hcz8_0
        try clear hcz8_1
        try clear hfz10_0
        try clear hfz10_1
        try clear hfz8_0
        try clear hfz8_1
        try clear hx182_0
        try clear p182
        try clear p2
        try clear q182
        obtain ⟨x11_3, rfl, HA, HK3, BK179, HB⟩ := hrel
        cases gk with
        | zero => exact absurd HA.out (by simp [assartref08_Any.l1])
        | succ k3 =>
         have H := HA.out
         clear HA
         simp only [assartref08_Any.l1] at H
         by_cases c21 : x11_3 < (l2.length : Int)
         ·rw [if_pos c21] at H
          have c21b0 : decide (x11_3 < (l2.length : Int)) = true := decide_eq_true c21
          clear c21
          by_cases c22 : 0 ≤ x11_3
          ·rw [if_pos c22] at H
           have c22b0 : decide (0 ≤ x11_3) = true := decide_eq_true c22
           clear c22
           replace H := Option.bind_eq_some_iff.mp H
           obtain ⟨t185, A230, H⟩ := H
           unfold assartref06_Place.f at A230
           cases A230
          ·rw [if_neg c22] at H
           exact absurd H (by simp)
         ·rw [if_neg c21] at H
          have c21b0 : decide (x11_3 < (l2.length : Int)) = false := decide_eq_false c21
          clear c21
          obtain rfl := Option.some.inj H
          go_wp2
          go_ret
          exact ⟨by first | rfl | (simp [errW_none, errW_some] <;> rfl) | (simp [*, errW_none, errW_some] <;> rfl), by repeat (first | (with_reducible first | exact HB.out | apply below_alloc | apply pw_below_drewN | apply below_drew1 | refine below_set ?_ GE179.out) | exact HB.out)⟩
end Go.Proofs.Ytflndiikeoflfaa.P
end
section
namespace Go.Proofs.Ytflndiikeoflfaa.P
open Go.RowKit Go.Proofs.YtflndiikeoflfaaW.PrintWords Go.Proofs.YtflndiikeoflfaaW.PrintLast Go.Proofs.YtflndiikeoflfaaW.PrintMore
attribute [local go_sem] max2_int min2_int max_two min_two max_three min_three max_four min_four
set_option linter.unusedVariables false
set_option linter.unusedSimpArgs false
def assartref08_May.f (k : Nat) (l0_0 : List (S38)) (a0_1 : Int) (l1 : List Int) (l2 : List ByteArray) (a3 : Int) : Option (Bool) := (assartref05_Small.f k l0_0 a0_1 a3).bind fun t195 => (if t195 = true then (if (l1.length : Int) > 20 then (some false) else (if (l2.length : Int) > 20 then (some false) else ((assartref08_Any.f k l0_0 a0_1 l1 l2).bind fun t196 => (some t196)))) else (some false))
set_option maxHeartbeats 8000000 in
set_option maxRecDepth 100000 in
theorem assartref08_May.calls (k : Nat) (A0_0 : Option Addr) (c0_0 : Nat) (l0_0 : List (S38)) (a0_1 : Int) (A1 : Option Addr) (c1 : Nat) (l1 : List Int) (A2 : Option Addr) (c2 : Nat) (l2 : List ByteArray) (a3 : Int) (r : Bool) (w : World) (hr0_0 : Kd.C k38 w A0_0 l0_0.length l0_0) (hc0_0 : l0_0.length ≤ c0_0) (hr1 : Kd.C (Kd.int .i64) w A1 l1.length l1) (hc1 : l1.length ≤ c1) (hr2 : Kd.C Kd.string w A2 l2.length l2) (hc2 : l2.length ≤ c2) (h : assartref08_May.f k l0_0 a0_1 l1 l2 a3 = some r) :
  Calls Try.prog 14 #[.agg #[.slice A0_0 l0_0.length c0_0, .int .i64 a0_1], .slice A1 l1.length c1, .slice A2 l2.length c2, .int .i64 a3] w fun e w' => e = .returned (.bool r) ∧ Below w.heap.size w w' := by
 have hu24 := Try.underlying24
 have HR0_0 := Aside0.mk hr0_0
 have HC0_0 := Aside0.mk hc0_0
 clear hr0_0 hc0_0
 have HR1 := Aside0.mk hr1
 have HC1 := Aside0.mk hc1
 clear hr1 hc1
 have HR2 := Aside0.mk hr2
 have HC2 := Aside0.mk hc2
 clear hr2 hc2
 have HB := Aside0.mk (Below.refl w.heap.size w)
 have H : ((assartref05_Small.f k l0_0 a0_1 a3).bind fun t195 => (if t195 = true then (if (l1.length : Int) > 20 then (some false) else (if (l2.length : Int) > 20 then (some false) else ((assartref08_Any.f k l0_0 a0_1 l1 l2).bind fun t196 => (some t196)))) else (some false))) = some r := h
 clear h
 replace H := Option.bind_eq_some_iff.mp H
 obtain ⟨t195, A50, H⟩ := H
 replace H : (if t195 = true then (if (l1.length : Int) > 20 then (some false) else (if (l2.length : Int) > 20 then (some false) else ((assartref08_Any.f k l0_0 a0_1 l1 l2).bind fun t196 => (some t196)))) else (some false)) = some r := H
 have A5 := Aside0.mk A50
 clear A50
 by_cases c6 : t195 = true
 ·subst c6
  have H1 : (if (l1.length : Int) > 20 then (some false) else (if (l2.length : Int) > 20 then (some false) else ((assartref08_Any.f k l0_0 a0_1 l1 l2).bind fun t196 => (some t196)))) = some r := by rw [if_pos rfl] at H; exact H
  clear H
  have H := H1
  clear H1
  by_cases c7 : (l1.length : Int) > 20
  ·rw [if_pos c7] at H
   have c7b0 : decide (20 < (l1.length : Int)) = true := decide_eq_true c7
   have c7b1 : decide (20 < l1.length) = true := decide_eq_true (by omega)
   clear c7
   obtain rfl := Option.some.inj H
   go_enter Try.func14, Try.ntmps14
   go_wp2_with (first | ((with_reducible refine gate_dst (N := 4) rfl ?_); (try (refine gate_guard (by rfl) ?_; dsimp only)); refine box_event ?hg (N := 4) ?hd (cs := #[.slice A0_0 l0_0.length c0_0, .int .i64 a0_1]) (t := 24) ?hr ?_; (case hd => rfl); (case hg => rfl); (case hr => first | (go_simp; done) | (go_simp; rfl)); intro gb194 hg w8 hbox hb; have n0_ := Aside0.mk (below_step (by repeat (first | (with_reducible first | exact HB.out | apply below_alloc | apply pw_below_drewN | apply below_drew1) | exact HB.out)) hb); have n1_ := Aside0.mk (hbox); have n2_ := Aside0.mk ((by rw [hg]; exact (below_size (by repeat (first | (with_reducible first | exact HB.out | apply below_alloc | apply pw_below_drewN | apply below_drew1) | exact HB.out))) : w.heap.size ≤ gb194)); have n3_ := Aside0.mk ((by rw [hg]; exact (below_size (by repeat (first | (with_reducible first | exact HB.out | apply below_alloc | apply pw_below_drewN | apply below_drew1) | exact HB.out))) : w.heap.size ≤ gb194)); clear HB; have HB := n0_; have BK194 := n1_; have GW194 := n2_; have GE194 := n3_; clear n0_ n1_ n2_ n3_; clear hb hbox hg; have hcz9_0 : w8.cell? ⟨gb194, 0, none⟩ = some (.slice A0_0 l0_0.length c0_0) := (blk_cell BK194.out 0).trans rfl; have hcz9_1 : w8.cell? ⟨gb194, 1, none⟩ = some (.int .i64 a0_1) := (blk_cell BK194.out 1).trans rfl; have hfz9_0 := blk_frozen BK194.out 0; have hfz9_1 := blk_frozen BK194.out 1) | ((with_reducible refine gate_callee (f := 23) rfl ?_); refine goesL_ (some 12) rfl rfl Try.func23 (by kernel_rfl) rfl #[.agg #[.slice A0_0 l0_0.length c0_0, .int .i64 a0_1], .int .i64 a3] rfl (by (try simp only [List.map_toArray, List.map_cons, List.map_nil]); first | done | rfl | (simp only [List.length_drop, List.length_take]; rfl)) ?_; (with_reducible refine (assartref05_Small.calls k _ _ l0_0 a0_1 a3 true _ ?side1 ?side2 A5.out).mono ?_); (case side1 => repeat (first | exact (Kd.C_below HR0_0.out HB.out) | (with_reducible refine Kd.C_alloc ?_ _) | (with_reducible refine Kd.C_drewN ?_ _) | (with_reducible refine Kd.C_drew ?_))); (case side2 => exact HC0_0.out); rintro e w10 ⟨rfl, hb⟩; refine ⟨_, rfl, ?_⟩; have n0_ := Aside0.mk (blk_below (g := gb194) (o := .cells #[.slice A0_0 l0_0.length c0_0, .int .i64 a0_1] 24 (0, 0)) (by (with_reducible repeat (first | refine blk_drewN ?_ _ | refine blk_drew ?_ | refine blk_alloc ?_ _)); exact BK194.out) hb); have n1_ := Aside0.mk (below_step (by repeat (first | (with_reducible first | exact HB.out | apply below_alloc | apply pw_below_drewN | apply below_drew1 | refine below_set ?_ GE194.out) | exact HB.out)) hb); clear BK194; clear HB; have BK194 := n0_; have HB := n1_; clear n0_ n1_; (try clear hb); (try clear hb2); (try clear hk); (try clear hi)))
   go_ret
   exact ⟨by first | rfl | (simp [errW_none, errW_some] <;> rfl) | (simp [*, errW_none, errW_some] <;> rfl), by repeat (first | (with_reducible first | exact HB.out | apply below_alloc | apply pw_below_drewN | apply below_drew1 | refine below_set ?_ GE194.out) | exact HB.out)⟩
  ·rw [if_neg c7] at H
   have c7b0 : decide (20 < (l1.length : Int)) = false := decide_eq_false c7
   have c7b1 : decide (20 < l1.length) = false := decide_eq_false (by omega)
   clear c7
   by_cases c11 : (l2.length : Int) > 20
   ·rw [if_pos c11] at H
    have c11b0 : decide (20 < (l2.length : Int)) = true := decide_eq_true c11
    have c11b1 : decide (20 < l2.length) = true := decide_eq_true (by omega)
    clear c11
    obtain rfl := Option.some.inj H
    go_enter Try.func14, Try.ntmps14
    go_wp2_with (first | ((with_reducible refine gate_dst (N := 4) rfl ?_); (try (refine gate_guard (by rfl) ?_; dsimp only)); refine box_event ?hg (N := 4) ?hd (cs := #[.slice A0_0 l0_0.length c0_0, .int .i64 a0_1]) (t := 24) ?hr ?_; (case hd => rfl); (case hg => rfl); (case hr => first | (go_simp; done) | (go_simp; rfl)); intro gb194 hg w12 hbox hb; have n0_ := Aside0.mk (below_step (by repeat (first | (with_reducible first | exact HB.out | apply below_alloc | apply pw_below_drewN | apply below_drew1) | exact HB.out)) hb); have n1_ := Aside0.mk (hbox); have n2_ := Aside0.mk ((by rw [hg]; exact (below_size (by repeat (first | (with_reducible first | exact HB.out | apply below_alloc | apply pw_below_drewN | apply below_drew1) | exact HB.out))) : w.heap.size ≤ gb194)); have n3_ := Aside0.mk ((by rw [hg]; exact (below_size (by repeat (first | (with_reducible first | exact HB.out | apply below_alloc | apply pw_below_drewN | apply below_drew1) | exact HB.out))) : w.heap.size ≤ gb194)); clear HB; have HB := n0_; have BK194 := n1_; have GW194 := n2_; have GE194 := n3_; clear n0_ n1_ n2_ n3_; clear hb hbox hg; have hcz13_0 : w12.cell? ⟨gb194, 0, none⟩ = some (.slice A0_0 l0_0.length c0_0) := (blk_cell BK194.out 0).trans rfl; have hcz13_1 : w12.cell? ⟨gb194, 1, none⟩ = some (.int .i64 a0_1) := (blk_cell BK194.out 1).trans rfl; have hfz13_0 := blk_frozen BK194.out 0; have hfz13_1 := blk_frozen BK194.out 1) | ((with_reducible refine gate_callee (f := 23) rfl ?_); refine goesL_ (some 12) rfl rfl Try.func23 (by kernel_rfl) rfl #[.agg #[.slice A0_0 l0_0.length c0_0, .int .i64 a0_1], .int .i64 a3] rfl (by (try simp only [List.map_toArray, List.map_cons, List.map_nil]); first | done | rfl | (simp only [List.length_drop, List.length_take]; rfl)) ?_; (with_reducible refine (assartref05_Small.calls k _ _ l0_0 a0_1 a3 true _ ?side1 ?side2 A5.out).mono ?_); (case side1 => repeat (first | exact (Kd.C_below HR0_0.out HB.out) | (with_reducible refine Kd.C_alloc ?_ _) | (with_reducible refine Kd.C_drewN ?_ _) | (with_reducible refine Kd.C_drew ?_))); (case side2 => exact HC0_0.out); rintro e w14 ⟨rfl, hb⟩; refine ⟨_, rfl, ?_⟩; have n0_ := Aside0.mk (blk_below (g := gb194) (o := .cells #[.slice A0_0 l0_0.length c0_0, .int .i64 a0_1] 24 (0, 0)) (by (with_reducible repeat (first | refine blk_drewN ?_ _ | refine blk_drew ?_ | refine blk_alloc ?_ _)); exact BK194.out) hb); have n1_ := Aside0.mk (below_step (by repeat (first | (with_reducible first | exact HB.out | apply below_alloc | apply pw_below_drewN | apply below_drew1 | refine below_set ?_ GE194.out) | exact HB.out)) hb); clear BK194; clear HB; have BK194 := n0_; have HB := n1_; clear n0_ n1_; (try clear hb); (try clear hb2); (try clear hk); (try clear hi)))
    go_ret
    exact ⟨by first | rfl | (simp [errW_none, errW_some] <;> rfl) | (simp [*, errW_none, errW_some] <;> rfl), by repeat (first | (with_reducible first | exact HB.out | apply below_alloc | apply pw_below_drewN | apply below_drew1 | refine below_set ?_ GE194.out) | exact HB.out)⟩
   ·rw [if_neg c11] at H
    have c11b0 : decide (20 < (l2.length : Int)) = false := decide_eq_false c11
    have c11b1 : decide (20 < l2.length) = false := decide_eq_false (by omega)
    clear c11
    replace H := Option.bind_eq_some_iff.mp H
    obtain ⟨t196, A150, H⟩ := H
    replace H : (some t196) = some r := H
    have A15 := Aside0.mk A150
    clear A150
    obtain rfl := Option.some.inj H
    go_enter Try.func14, Try.ntmps14
    go_wp2_with (first | ((with_reducible refine gate_dst (N := 4) rfl ?_); (try (refine gate_guard (by rfl) ?_; dsimp only)); refine box_event ?hg (N := 4) ?hd (cs := #[.slice A0_0 l0_0.length c0_0, .int .i64 a0_1]) (t := 24) ?hr ?_; (case hd => rfl); (case hg => rfl); (case hr => first | (go_simp; done) | (go_simp; rfl)); intro gb194 hg w16 hbox hb; have n0_ := Aside0.mk (below_step (by repeat (first | (with_reducible first | exact HB.out | apply below_alloc | apply pw_below_drewN | apply below_drew1) | exact HB.out)) hb); have n1_ := Aside0.mk (hbox); have n2_ := Aside0.mk ((by rw [hg]; exact (below_size (by repeat (first | (with_reducible first | exact HB.out | apply below_alloc | apply pw_below_drewN | apply below_drew1) | exact HB.out))) : w.heap.size ≤ gb194)); have n3_ := Aside0.mk ((by rw [hg]; exact (below_size (by repeat (first | (with_reducible first | exact HB.out | apply below_alloc | apply pw_below_drewN | apply below_drew1) | exact HB.out))) : w.heap.size ≤ gb194)); clear HB; have HB := n0_; have BK194 := n1_; have GW194 := n2_; have GE194 := n3_; clear n0_ n1_ n2_ n3_; clear hb hbox hg; have hcz17_0 : w16.cell? ⟨gb194, 0, none⟩ = some (.slice A0_0 l0_0.length c0_0) := (blk_cell BK194.out 0).trans rfl; have hcz17_1 : w16.cell? ⟨gb194, 1, none⟩ = some (.int .i64 a0_1) := (blk_cell BK194.out 1).trans rfl; have hfz17_0 := blk_frozen BK194.out 0; have hfz17_1 := blk_frozen BK194.out 1) | ((with_reducible refine gate_callee (f := 23) rfl ?_); refine goesL_ (some 12) rfl rfl Try.func23 (by kernel_rfl) rfl #[.agg #[.slice A0_0 l0_0.length c0_0, .int .i64 a0_1], .int .i64 a3] rfl (by (try simp only [List.map_toArray, List.map_cons, List.map_nil]); first | done | rfl | (simp only [List.length_drop, List.length_take]; rfl)) ?_; (with_reducible refine (assartref05_Small.calls k _ _ l0_0 a0_1 a3 true _ ?side1 ?side2 A5.out).mono ?_); (case side1 => repeat (first | exact (Kd.C_below HR0_0.out HB.out) | (with_reducible refine Kd.C_alloc ?_ _) | (with_reducible refine Kd.C_drewN ?_ _) | (with_reducible refine Kd.C_drew ?_))); (case side2 => exact HC0_0.out); rintro e w18 ⟨rfl, hb⟩; refine ⟨_, rfl, ?_⟩; have n0_ := Aside0.mk (blk_below (g := gb194) (o := .cells #[.slice A0_0 l0_0.length c0_0, .int .i64 a0_1] 24 (0, 0)) (by (with_reducible repeat (first | refine blk_drewN ?_ _ | refine blk_drew ?_ | refine blk_alloc ?_ _)); exact BK194.out) hb); have n1_ := Aside0.mk (below_step (by repeat (first | (with_reducible first | exact HB.out | apply below_alloc | apply pw_below_drewN | apply below_drew1 | refine below_set ?_ GE194.out) | exact HB.out)) hb); clear BK194; clear HB; have BK194 := n0_; have HB := n1_; clear n0_ n1_; (try clear hb); (try clear hb2); (try clear hk); (try clear hi); have hcz19_0 : w18.cell? ⟨gb194, 0, none⟩ = some (.slice A0_0 l0_0.length c0_0) := (blk_cell BK194.out 0).trans rfl; have hcz19_1 : w18.cell? ⟨gb194, 1, none⟩ = some (.int .i64 a0_1) := (blk_cell BK194.out 1).trans rfl; have hfz19_0 := blk_frozen BK194.out 0; have hfz19_1 := blk_frozen BK194.out 1) | ((with_reducible refine gate_callee (f := 24) rfl ?_); refine goesL_ (some 28) rfl rfl Try.func24 (by kernel_rfl) rfl #[.agg #[.slice A0_0 l0_0.length c0_0, .int .i64 a0_1], .slice A1 l1.length c1, .slice A2 l2.length c2] rfl (by (try simp only [List.map_toArray, List.map_cons, List.map_nil]); first | done | rfl | (simp only [List.length_drop, List.length_take]; rfl)) ?_; (with_reducible refine (assartref08_Any.calls k _ _ l0_0 a0_1 _ _ l1 _ _ l2 t196 _ ?side1 ?side2 ?side3 ?side4 ?side5 ?side6 A15.out).mono ?_); (case side1 => repeat (first | exact (Kd.C_below HR0_0.out HB.out) | (with_reducible refine Kd.C_alloc ?_ _) | (with_reducible refine Kd.C_drewN ?_ _) | (with_reducible refine Kd.C_drew ?_))); (case side2 => exact HC0_0.out); (case side3 => repeat (first | exact (Kd.C_below HR1.out HB.out) | (with_reducible refine Kd.C_alloc ?_ _) | (with_reducible refine Kd.C_drewN ?_ _) | (with_reducible refine Kd.C_drew ?_))); (case side4 => exact HC1.out); (case side5 => repeat (first | exact (Kd.C_below HR2.out HB.out) | (with_reducible refine Kd.C_alloc ?_ _) | (with_reducible refine Kd.C_drewN ?_ _) | (with_reducible refine Kd.C_drew ?_))); (case side6 => exact HC2.out); rintro e w20 ⟨rfl, hb⟩; refine ⟨_, rfl, ?_⟩; have n0_ := Aside0.mk (blk_below (g := gb194) (o := .cells #[.slice A0_0 l0_0.length c0_0, .int .i64 a0_1] 24 (0, 0)) (by (with_reducible repeat (first | refine blk_drewN ?_ _ | refine blk_drew ?_ | refine blk_alloc ?_ _)); exact BK194.out) hb); have n1_ := Aside0.mk (below_step (by repeat (first | (with_reducible first | exact HB.out | apply below_alloc | apply pw_below_drewN | apply below_drew1 | refine below_set ?_ GE194.out) | exact HB.out)) hb); clear BK194; clear HB; have BK194 := n0_; have HB := n1_; clear n0_ n1_; (try clear hb); (try clear hb2); (try clear hk); (try clear hi)))
    go_ret
    exact ⟨by first | rfl | (simp [errW_none, errW_some] <;> rfl) | (simp [*, errW_none, errW_some] <;> rfl), by repeat (first | (with_reducible first | exact HB.out | apply below_alloc | apply pw_below_drewN | apply below_drew1 | refine below_set ?_ GE194.out) | exact HB.out)⟩
 ·replace c6 := Bool.eq_false_iff.mpr c6
  subst c6
  have H1 : (some false) = some r := by rw [if_neg (show ¬ (false = true) by decide)] at H; exact H
  clear H
  have H := H1
  clear H1
  obtain rfl := Option.some.inj H
  go_enter Try.func14, Try.ntmps14
  go_wp2_with (first | ((with_reducible refine gate_dst (N := 4) rfl ?_); (try (refine gate_guard (by rfl) ?_; dsimp only)); refine box_event ?hg (N := 4) ?hd (cs := #[.slice A0_0 l0_0.length c0_0, .int .i64 a0_1]) (t := 24) ?hr ?_; (case hd => rfl); (case hg => rfl); (case hr => first | (go_simp; done) | (go_simp; rfl)); intro gb194 hg w21 hbox hb; have n0_ := Aside0.mk (below_step (by repeat (first | (with_reducible first | exact HB.out | apply below_alloc | apply pw_below_drewN | apply below_drew1) | exact HB.out)) hb); have n1_ := Aside0.mk (hbox); have n2_ := Aside0.mk ((by rw [hg]; exact (below_size (by repeat (first | (with_reducible first | exact HB.out | apply below_alloc | apply pw_below_drewN | apply below_drew1) | exact HB.out))) : w.heap.size ≤ gb194)); have n3_ := Aside0.mk ((by rw [hg]; exact (below_size (by repeat (first | (with_reducible first | exact HB.out | apply below_alloc | apply pw_below_drewN | apply below_drew1) | exact HB.out))) : w.heap.size ≤ gb194)); clear HB; have HB := n0_; have BK194 := n1_; have GW194 := n2_; have GE194 := n3_; clear n0_ n1_ n2_ n3_; clear hb hbox hg; have hcz22_0 : w21.cell? ⟨gb194, 0, none⟩ = some (.slice A0_0 l0_0.length c0_0) := (blk_cell BK194.out 0).trans rfl; have hcz22_1 : w21.cell? ⟨gb194, 1, none⟩ = some (.int .i64 a0_1) := (blk_cell BK194.out 1).trans rfl; have hfz22_0 := blk_frozen BK194.out 0; have hfz22_1 := blk_frozen BK194.out 1) | ((with_reducible refine gate_callee (f := 23) rfl ?_); refine goesL_ (some 12) rfl rfl Try.func23 (by kernel_rfl) rfl #[.agg #[.slice A0_0 l0_0.length c0_0, .int .i64 a0_1], .int .i64 a3] rfl (by (try simp only [List.map_toArray, List.map_cons, List.map_nil]); first | done | rfl | (simp only [List.length_drop, List.length_take]; rfl)) ?_; (with_reducible refine (assartref05_Small.calls k _ _ l0_0 a0_1 a3 false _ ?side1 ?side2 A5.out).mono ?_); (case side1 => repeat (first | exact (Kd.C_below HR0_0.out HB.out) | (with_reducible refine Kd.C_alloc ?_ _) | (with_reducible refine Kd.C_drewN ?_ _) | (with_reducible refine Kd.C_drew ?_))); (case side2 => exact HC0_0.out); rintro e w23 ⟨rfl, hb⟩; refine ⟨_, rfl, ?_⟩; have n0_ := Aside0.mk (blk_below (g := gb194) (o := .cells #[.slice A0_0 l0_0.length c0_0, .int .i64 a0_1] 24 (0, 0)) (by (with_reducible repeat (first | refine blk_drewN ?_ _ | refine blk_drew ?_ | refine blk_alloc ?_ _)); exact BK194.out) hb); have n1_ := Aside0.mk (below_step (by repeat (first | (with_reducible first | exact HB.out | apply below_alloc | apply pw_below_drewN | apply below_drew1 | refine below_set ?_ GE194.out) | exact HB.out)) hb); clear BK194; clear HB; have BK194 := n0_; have HB := n1_; clear n0_ n1_; (try clear hb); (try clear hb2); (try clear hk); (try clear hi)))
  go_ret
  exact ⟨by first | rfl | (simp [errW_none, errW_some] <;> rfl) | (simp [*, errW_none, errW_some] <;> rfl), by repeat (first | (with_reducible first | exact HB.out | apply below_alloc | apply pw_below_drewN | apply below_drew1 | refine below_set ?_ GE194.out) | exact HB.out)⟩
end Go.Proofs.Ytflndiikeoflfaa.P
end
section
namespace Go.Proofs.Ytflndiikeoflfaa.P
open Go.RowKit Go.Proofs.YtflndiikeoflfaaW.PrintWords Go.Proofs.YtflndiikeoflfaaW.PrintLast Go.Proofs.YtflndiikeoflfaaW.PrintMore
attribute [local go_sem] max2_int min2_int max_two min_two max_three min_three max_four min_four
set_option linter.unusedVariables false
set_option linter.unusedSimpArgs false
mutual
def assartref08_outside.l0 : Nat → List Int → List ByteArray → Int → Int → Int → Option (Int)
 | 0, _, _, _, _, _ => none
 | k + 1, x0, x1, x2, x7, x8 => if x8 < (x0.length : Int) then (if 0 ≤ x8 then (if (rd x0 x8) = x2 then (assartref08_outside.l0 k x0 x1 x2 (wrap64 (x7 + 1)) (wrap64 (x8 + 1))) else (assartref08_outside.l0 k x0 x1 x2 x7 (wrap64 (x8 + 1)))) else (none)) else (assartref08_outside.l1 k x1 x2 x7 0)
def assartref08_outside.l1 : Nat → List ByteArray → Int → Int → Int → Option (Int)
 | 0, _, _, _, _ => none
 | k + 1, x1, x2, x7, x9 => if x9 < (x1.length : Int) then (if 0 ≤ x9 then ((assartref06_Place.f (rdOf ByteArray.empty x1 x9)).bind fun t199 => (if t199 = x2 then (assartref08_outside.l1 k x1 x2 (wrap64 (x7 + 1)) (wrap64 (x9 + 1))) else (assartref08_outside.l1 k x1 x2 x7 (wrap64 (x9 + 1))))) else (none)) else (some x7)
end
def assartref08_outside.f (k : Nat) (l0 : List Int) (l1 : List ByteArray) (a2 : Int) : Option (Int) := assartref08_outside.l0 k l0 l1 a2 0 0
theorem assartref08_outside.mono_l : ∀ k, (∀ y0 y1 y2 y3 y4, LeO (assartref08_outside.l0 k y0 y1 y2 y3 y4) (assartref08_outside.l0 (k + 1) y0 y1 y2 y3 y4)) ∧ (∀ y0 y1 y2 y3, LeO (assartref08_outside.l1 k y0 y1 y2 y3) (assartref08_outside.l1 (k + 1) y0 y1 y2 y3))
 | 0 => ⟨fun _ _ _ _ _ r h => by simp [assartref08_outside.l0] at h, fun _ _ _ _ r h => by simp [assartref08_outside.l1] at h⟩
 | k + 1 => by
  obtain ⟨ih0, ih1⟩ := assartref08_outside.mono_l k
  refine ⟨?_, ?_⟩
  ·intro y0 y1 y2 y3 y4
   unfold assartref08_outside.l0
   repeat' first
   | (with_reducible exact ih0 _ _ _ _ _)
   | (with_reducible exact ih1 _ _ _ _)
   | (with_reducible exact LeO.refl _)
   | (with_reducible exact LeO.none _)
   | (with_reducible refine LeO.ite ?_ ?_)
   | (with_reducible refine LeO.bind ?_ (fun _ => ?_))
   | exact ih0 _ _ _ _ _
   | exact ih1 _ _ _ _
   | exact LeO.none _
   | refine LeO.ite ?_ ?_
   | refine LeO.bind ?_ (fun _ => ?_)
  ·intro y0 y1 y2 y3
   unfold assartref08_outside.l1
   repeat' first
   | (with_reducible exact ih0 _ _ _ _ _)
   | (with_reducible exact ih1 _ _ _ _)
   | (with_reducible exact LeO.refl _)
   | (with_reducible exact LeO.none _)
   | (with_reducible refine LeO.ite ?_ ?_)
   | (with_reducible refine LeO.bind ?_ (fun _ => ?_))
   | exact ih0 _ _ _ _ _
   | exact ih1 _ _ _ _
   | exact LeO.none _
   | refine LeO.ite ?_ ?_
   | refine LeO.bind ?_ (fun _ => ?_)
theorem assartref08_outside.mono : ∀ a0 a1 a2 k, LeO (assartref08_outside.f k a0 a1 a2) (assartref08_outside.f (k + 1) a0 a1 a2) := by
 intro a0 a1 a2 k
 obtain ⟨ih0, ih1⟩ := assartref08_outside.mono_l k
 unfold assartref08_outside.f
 repeat' first
   | (with_reducible exact ih0 _ _ _ _ _)
   | (with_reducible exact ih1 _ _ _ _)
   | (with_reducible exact LeO.refl _)
   | (with_reducible exact LeO.none _)
   | (with_reducible refine LeO.ite ?_ ?_)
   | (with_reducible refine LeO.bind ?_ (fun _ => ?_))
   | exact ih0 _ _ _ _ _
   | exact ih1 _ _ _ _
   | exact LeO.none _
   | refine LeO.ite ?_ ?_
   | refine LeO.bind ?_ (fun _ => ?_)
set_option maxHeartbeats 8000000 in
set_option maxRecDepth 100000 in
theorem assartref08_outside.calls (k : Nat) (A0 : Option Addr) (c0 : Nat) (l0 : List Int) (A1 : Option Addr) (c1 : Nat) (l1 : List ByteArray) (a2 : Int) (r : Int) (w : World) (hr0 : Kd.C (Kd.int .i64) w A0 l0.length l0) (hc0 : l0.length ≤ c0) (hr1 : Kd.C Kd.string w A1 l1.length l1) (hc1 : l1.length ≤ c1) (h : assartref08_outside.f k l0 l1 a2 = some r) :
  Calls Try.prog 38 #[.slice A0 l0.length c0, .slice A1 l1.length c1, .int .i64 a2] w fun e w' => e = .returned (.int .i64 r) ∧ Below w.heap.size w w' := by
 have HR0 := Aside0.mk hr0
 have HC0 := Aside0.mk hc0
 clear hr0 hc0
 have HR1 := Aside0.mk hr1
 have HC1 := Aside0.mk hc1
 clear hr1 hc1
 have HB := Aside0.mk (Below.refl w.heap.size w)
 have H : (assartref08_outside.l0 k l0 l1 a2 0 0) = some r := h
 clear h
 have H' := Aside0.mk H
 clear H
 go_enter Try.func38, Try.ntmps38
 go_wp2
 go_loopg [7, 8] k (fun kq v7 v8 w' => ∃ (x7_1 : Int) (x8_1 : Int), v7 = .int .i64 x7_1 ∧ v8 = .int .i64 x8_1 ∧ Aside0 (assartref08_outside.l0 kq l0 l1 a2 x7_1 x8_1 = some r) ∧ Aside0 (kq ≤ k) ∧ Aside0 (Below w.heap.size w w'))
 case atStart => exact ⟨(0), (0), (by first | rfl | (simp; done) | (simp [*]; done)), (by first | rfl | (simp; done) | (simp [*]; done)), H', ⟨Nat.le_refl _⟩, ⟨by repeat (first | (with_reducible first | exact HB.out | apply below_alloc | apply pw_below_drewN | apply below_drew1) | exact HB.out)⟩⟩
 case round =>
  clear H'
  try clear c1
  try clear p2
  try clear c3
  obtain ⟨x7_1, x8_1, rfl, rfl, HA, HK1, HB⟩ := hrel
  cases gk with
  | zero => exact absurd HA.out (by simp [assartref08_outside.l0])
  | succ k1 =>
   have H := HA.out
   clear HA
   simp only [assartref08_outside.l0] at H
   by_cases c4 : x8_1 < (l0.length : Int)
   ·rw [if_pos c4] at H
    have c4b0 : decide (x8_1 < (l0.length : Int)) = true := decide_eq_true c4
    clear c4
    by_cases c5 : 0 ≤ x8_1
    ·rw [if_pos c5] at H
     have c5b0 : decide (0 ≤ x8_1) = true := decide_eq_true c5
     clear c5
     by_cases c6 : (rd l0 x8_1) = a2
     ·rw [if_pos c6] at H
      have c6b0 : ((rd l0 x8_1) == a2) = true := beq_iff_eq.mpr c6
      have c6b1 : ((rd l0 x8_1) != a2) = false := bne_eq_false_iff_eq.mpr c6
      clear c6
      have H' := Aside0.mk H
      clear H
      have p197 : 0 ≤ (x8_1 : Int) := of_decide_eq_true (by first | (with_reducible assumption) | assumption)
      have q197 : x8_1 < (l0.length : Int) := of_decide_eq_true (by first | (with_reducible assumption) | assumption)
      obtain ⟨ad197, e197, hx197_0⟩ := Kd.at_int HR0.out x8_1 p197 q197
      cases e197
      replace hx197_0 := (HB.out.cell (World.block_lt_of_cell? w _ hx197_0)).trans hx197_0
      replace p197 := eq_true p197
      replace q197 := eq_true q197
      go_wp2
      go_roundg k1
      case measure => have := HK1.out; omega
      case rel => exact ⟨(wrap64 (x7_1 + 1)), (wrap64 (x8_1 + 1)), (by first | rfl | (simp; done) | (simp [*]; done)), (by first | rfl | (simp; done) | (simp [*]; done)), H', ⟨by have := HK1.out; omega⟩, ⟨by repeat (first | (with_reducible first | exact HB.out | apply below_alloc | apply pw_below_drewN | apply below_drew1) | exact HB.out)⟩⟩
     ·rw [if_neg c6] at H
      have c6b0 : ((rd l0 x8_1) == a2) = false := beq_eq_false_iff_ne.mpr c6
      have c6b1 : ((rd l0 x8_1) != a2) = true := bne_iff_ne.mpr c6
      have H' := Aside0.mk H
      clear H
      have p197 : 0 ≤ (x8_1 : Int) := of_decide_eq_true (by first | (with_reducible assumption) | assumption)
      have q197 : x8_1 < (l0.length : Int) := of_decide_eq_true (by first | (with_reducible assumption) | assumption)
      obtain ⟨ad197, e197, hx197_0⟩ := Kd.at_int HR0.out x8_1 p197 q197
      cases e197
      replace hx197_0 := (HB.out.cell (World.block_lt_of_cell? w _ hx197_0)).trans hx197_0
      replace p197 := eq_true p197
      replace q197 := eq_true q197
      go_wp2
      go_roundg k1
      case measure => have := HK1.out; omega
      case rel => exact ⟨(x7_1), (wrap64 (x8_1 + 1)), (by first | rfl | (simp; done) | (simp [*]; done)), (by first | rfl | (simp; done) | (simp [*]; done)), H', ⟨by have := HK1.out; omega⟩, ⟨by repeat (first | (with_reducible first | exact HB.out | apply below_alloc | apply pw_below_drewN | apply below_drew1) | exact HB.out)⟩⟩
    ·rw [if_neg c5] at H
     exact absurd H (by simp)
   ·rw [if_neg c4] at H
    have c4b0 : decide (x8_1 < (l0.length : Int)) = false := decide_eq_false c4
    clear c4
    have H' := Aside0.mk H
    clear H
    go_wp2
    go_loopg [7, 9] k1 (fun kq v7 v9 w' => ∃ (x7_2 : Int) (x9_2 : Int), v7 = .int .i64 x7_2 ∧ v9 = .int .i64 x9_2 ∧ Aside0 (assartref08_outside.l1 kq l1 a2 x7_2 x9_2 = some r) ∧ Aside0 (kq ≤ k1) ∧ Aside0 (Below w.heap.size w w'))
    case atStart => exact ⟨(x7_1), (0), (by first | rfl | (simp; done) | (simp [*]; done)), (by first | rfl | (simp; done) | (simp [*]; done)), H', ⟨Nat.le_refl _⟩, ⟨by repeat (first | (with_reducible first | exact HB.out | apply below_alloc | apply pw_below_drewN | apply below_drew1) | exact HB.out)⟩⟩
    case round =>
     clear H'
     try clear c1
     try clear p1
     try clear q1
     try clear hx1
     try clear p2
     try clear c3
     try clear c4
     try clear c4b0
     try clear c5
     try clear c5b0
     try clear c6
     try clear c6b0
     try clear c6b1
     try clear p6
     try clear hx197_0
     try clear p197
     try clear p2
     try clear q197
     obtain ⟨x7_2, x9_2, rfl, rfl, HA, HK2, HB⟩ := hrel
     cases gk with
     | zero => exact absurd HA.out (by simp [assartref08_outside.l1])
     | succ k2 =>
      have H := HA.out
      clear HA
      simp only [assartref08_outside.l1] at H
      by_cases c7 : x9_2 < (l1.length : Int)
      ·rw [if_pos c7] at H
       have c7b0 : decide (x9_2 < (l1.length : Int)) = true := decide_eq_true c7
       clear c7
       by_cases c8 : 0 ≤ x9_2
       ·rw [if_pos c8] at H
        have c8b0 : decide (0 ≤ x9_2) = true := decide_eq_true c8
        clear c8
        replace H := Option.bind_eq_some_iff.mp H
        obtain ⟨t199, A90, H⟩ := H
        replace H : (if t199 = a2 then (assartref08_outside.l1 k2 l1 a2 (wrap64 (x7_2 + 1)) (wrap64 (x9_2 + 1))) else (assartref08_outside.l1 k2 l1 a2 x7_2 (wrap64 (x9_2 + 1)))) = some r := H
        have A9 := Aside0.mk A90
        clear A90
        by_cases c10 : t199 = a2
        ·rw [if_pos c10] at H
         have c10b0 : (t199 == a2) = true := beq_iff_eq.mpr c10
         have c10b1 : (t199 != a2) = false := bne_eq_false_iff_eq.mpr c10
         clear c10
         have H' := Aside0.mk H
         clear H
         have p198 : 0 ≤ (x9_2 : Int) := of_decide_eq_true (by first | (with_reducible assumption) | assumption)
         have q198 : x9_2 < (l1.length : Int) := of_decide_eq_true (by first | (with_reducible assumption) | assumption)
         obtain ⟨ad198, e198, hx198_0⟩ := Kd.at_string HR1.out x9_2 p198 q198
         cases e198
         replace hx198_0 := (HB.out.cell (World.block_lt_of_cell? w _ hx198_0)).trans hx198_0
         replace p198 := eq_true p198
         replace q198 := eq_true q198
         go_wp2_with (first | ((with_reducible refine gate_callee (f := 35) rfl ?_); refine goesL_ (some 34) rfl rfl Try.func35 (by kernel_rfl) rfl #[.string (rdOf ByteArray.empty l1 x9_2)] rfl (by (try simp only [List.map_toArray, List.map_cons, List.map_nil]); first | done | rfl | (simp only [List.length_drop, List.length_take]; rfl)) ?_; (with_reducible refine (assartref06_Place.calls (rdOf ByteArray.empty l1 x9_2) t199 _ A9.out).mono ?_); rintro e w11 ⟨rfl, hb⟩; refine ⟨_, rfl, ?_⟩; have n0_ := Aside0.mk (below_step (by repeat (first | (with_reducible first | exact HB.out | apply below_alloc | apply pw_below_drewN | apply below_drew1) | exact HB.out)) hb); clear HB; have HB := n0_; clear n0_; (try clear hb); (try clear hb2); (try clear hk); (try clear hi)))
         go_roundg k2
         case measure => have := HK1.out; have := HK2.out; omega
         case rel => exact ⟨(wrap64 (x7_2 + 1)), (wrap64 (x9_2 + 1)), (by first | rfl | (simp; done) | (simp [*]; done)), (by first | rfl | (simp; done) | (simp [*]; done)), H', ⟨by have := HK1.out; have := HK2.out; omega⟩, ⟨by repeat (first | (with_reducible first | exact HB.out | apply below_alloc | apply pw_below_drewN | apply below_drew1) | exact HB.out)⟩⟩
        ·rw [if_neg c10] at H
         have c10b0 : (t199 == a2) = false := beq_eq_false_iff_ne.mpr c10
         have c10b1 : (t199 != a2) = true := bne_iff_ne.mpr c10
         have H' := Aside0.mk H
         clear H
         have p198 : 0 ≤ (x9_2 : Int) := of_decide_eq_true (by first | (with_reducible assumption) | assumption)
         have q198 : x9_2 < (l1.length : Int) := of_decide_eq_true (by first | (with_reducible assumption) | assumption)
         obtain ⟨ad198, e198, hx198_0⟩ := Kd.at_string HR1.out x9_2 p198 q198
         cases e198
         replace hx198_0 := (HB.out.cell (World.block_lt_of_cell? w _ hx198_0)).trans hx198_0
         replace p198 := eq_true p198
         replace q198 := eq_true q198
         go_wp2_with (first | ((with_reducible refine gate_callee (f := 35) rfl ?_); refine goesL_ (some 34) rfl rfl Try.func35 (by kernel_rfl) rfl #[.string (rdOf ByteArray.empty l1 x9_2)] rfl (by (try simp only [List.map_toArray, List.map_cons, List.map_nil]); first | done | rfl | (simp only [List.length_drop, List.length_take]; rfl)) ?_; (with_reducible refine (assartref06_Place.calls (rdOf ByteArray.empty l1 x9_2) t199 _ A9.out).mono ?_); rintro e w12 ⟨rfl, hb⟩; refine ⟨_, rfl, ?_⟩; have n0_ := Aside0.mk (below_step (by repeat (first | (with_reducible first | exact HB.out | apply below_alloc | apply pw_below_drewN | apply below_drew1) | exact HB.out)) hb); clear HB; have HB := n0_; clear n0_; (try clear hb); (try clear hb2); (try clear hk); (try clear hi)))
         go_roundg k2
         case measure => have := HK1.out; have := HK2.out; omega
         case rel => exact ⟨(x7_2), (wrap64 (x9_2 + 1)), (by first | rfl | (simp; done) | (simp [*]; done)), (by first | rfl | (simp; done) | (simp [*]; done)), H', ⟨by have := HK1.out; have := HK2.out; omega⟩, ⟨by repeat (first | (with_reducible first | exact HB.out | apply below_alloc | apply pw_below_drewN | apply below_drew1) | exact HB.out)⟩⟩
       ·rw [if_neg c8] at H
        exact absurd H (by simp)
      ·rw [if_neg c7] at H
       have c7b0 : decide (x9_2 < (l1.length : Int)) = false := decide_eq_false c7
       clear c7
       obtain rfl := Option.some.inj H
       go_wp2
       go_ret
       exact ⟨by first | rfl | (simp [errW_none, errW_some] <;> rfl) | (simp [*, errW_none, errW_some] <;> rfl), by repeat (first | (with_reducible first | exact HB.out | apply below_alloc | apply pw_below_drewN | apply below_drew1) | exact HB.out)⟩
end Go.Proofs.Ytflndiikeoflfaa.P
end
section
namespace Go.Proofs.Ytflndiikeoflfaa.P
open Go.RowKit Go.Proofs.YtflndiikeoflfaaW.PrintWords Go.Proofs.YtflndiikeoflfaaW.PrintLast Go.Proofs.YtflndiikeoflfaaW.PrintMore
attribute [local go_sem] max2_int min2_int max_two min_two max_three min_three max_four min_four
set_option linter.unusedVariables false
set_option linter.unusedSimpArgs false
mutual
def assartref08_Tells.l0 : Nat → Int → Int → Int → Int → Bool → Bool → List (S46) → Option (Int)
 | 0, _, _, _, _, _, _, _ => none
 | k + 1, x3, x10, x11, x203000, x203001, x203002, x203003 => if x11 < (x203003.length : Int) then (if x203000 > 0 then (assartref08_Tells.j1 k x3 x10 x11 (!x203002) x203000 x203001 x203002 x203003) else (assartref08_Tells.j1 k x3 x10 x11 false x203000 x203001 x203002 x203003)) else (assartref08_Tells.j1 k x3 x10 x11 false x203000 x203001 x203002 x203003)
def assartref08_Tells.j1 : Nat → Int → Int → Int → Bool → Int → Bool → Bool → List (S46) → Option (Int)
 | 0, _, _, _, _, _, _, _, _ => none
 | k + 1, x3, x10, x11, x36, x203000, x203001, x203002, x203003 => if x36 = true then (if 0 ≤ x11 then (if x11 < (x203003.length : Int) then (if ((rd_T46 x203003 x11).f1) = x3 then (assartref08_Tells.l0 k x3 (wrap64 (x10 + 1)) (wrap64 (x11 + 1)) x203000 x203001 x203002 x203003) else (assartref08_Tells.l0 k x3 x10 (wrap64 (x11 + 1)) x203000 x203001 x203002 x203003)) else (none)) else (none)) else (some x10)
end
def assartref08_Tells.f (k : Nat) (l0_0 : List (S38)) (a0_1 : Int) (l1 : List ByteArray) (a2 : Int) (a3 : Int) : Option (Int) := if 0 ≤ a2 then (if a2 < (l0_0.length : Int) then ((assartref08_Given.f k l1 a2).bind fun t203 => (assartref08_Tells.l0 k a3 0 t203 ((rd_T38 l0_0 a2).f0) ((rd_T38 l0_0 a2).f1) ((rd_T38 l0_0 a2).f2.f0) ((rd_T38 l0_0 a2).f2.f1))) else (none)) else (none)
theorem assartref08_Tells.mono_l : ∀ k, (∀ y0 y1 y2 y3 y4 y5 y6, LeO (assartref08_Tells.l0 k y0 y1 y2 y3 y4 y5 y6) (assartref08_Tells.l0 (k + 1) y0 y1 y2 y3 y4 y5 y6)) ∧ (∀ y0 y1 y2 y3 y4 y5 y6 y7, LeO (assartref08_Tells.j1 k y0 y1 y2 y3 y4 y5 y6 y7) (assartref08_Tells.j1 (k + 1) y0 y1 y2 y3 y4 y5 y6 y7))
 | 0 => ⟨fun _ _ _ _ _ _ _ r h => by simp [assartref08_Tells.l0] at h, fun _ _ _ _ _ _ _ _ r h => by simp [assartref08_Tells.j1] at h⟩
 | k + 1 => by
  obtain ⟨ih0, ih1⟩ := assartref08_Tells.mono_l k
  refine ⟨?_, ?_⟩
  ·intro y0 y1 y2 y3 y4 y5 y6
   unfold assartref08_Tells.l0
   repeat' first
   | (with_reducible exact ih0 _ _ _ _ _ _ _)
   | (with_reducible exact ih1 _ _ _ _ _ _ _ _)
   | (with_reducible exact assartref08_Given.mono _ _ _)
   | (with_reducible exact LeO.refl _)
   | (with_reducible exact LeO.none _)
   | (with_reducible refine LeO.ite ?_ ?_)
   | (with_reducible refine LeO.bind ?_ (fun _ => ?_))
   | exact ih0 _ _ _ _ _ _ _
   | exact ih1 _ _ _ _ _ _ _ _
   | exact assartref08_Given.mono _ _ _
   | exact LeO.none _
   | refine LeO.ite ?_ ?_
   | refine LeO.bind ?_ (fun _ => ?_)
  ·intro y0 y1 y2 y3 y4 y5 y6 y7
   unfold assartref08_Tells.j1
   repeat' first
   | (with_reducible exact ih0 _ _ _ _ _ _ _)
   | (with_reducible exact ih1 _ _ _ _ _ _ _ _)
   | (with_reducible exact assartref08_Given.mono _ _ _)
   | (with_reducible exact LeO.refl _)
   | (with_reducible exact LeO.none _)
   | (with_reducible refine LeO.ite ?_ ?_)
   | (with_reducible refine LeO.bind ?_ (fun _ => ?_))
   | exact ih0 _ _ _ _ _ _ _
   | exact ih1 _ _ _ _ _ _ _ _
   | exact assartref08_Given.mono _ _ _
   | exact LeO.none _
   | refine LeO.ite ?_ ?_
   | refine LeO.bind ?_ (fun _ => ?_)
theorem assartref08_Tells.mono : ∀ a0 a1 a2 a3 a4 k, LeO (assartref08_Tells.f k a0 a1 a2 a3 a4) (assartref08_Tells.f (k + 1) a0 a1 a2 a3 a4) := by
 intro a0 a1 a2 a3 a4 k
 obtain ⟨ih0, ih1⟩ := assartref08_Tells.mono_l k
 unfold assartref08_Tells.f
 repeat' first
   | (with_reducible exact ih0 _ _ _ _ _ _ _)
   | (with_reducible exact ih1 _ _ _ _ _ _ _ _)
   | (with_reducible exact assartref08_Given.mono _ _ _)
   | (with_reducible exact LeO.refl _)
   | (with_reducible exact LeO.none _)
   | (with_reducible refine LeO.ite ?_ ?_)
   | (with_reducible refine LeO.bind ?_ (fun _ => ?_))
   | exact ih0 _ _ _ _ _ _ _
   | exact ih1 _ _ _ _ _ _ _ _
   | exact assartref08_Given.mono _ _ _
   | exact LeO.none _
   | refine LeO.ite ?_ ?_
   | refine LeO.bind ?_ (fun _ => ?_)
set_option maxHeartbeats 8000000 in
set_option maxRecDepth 100000 in
theorem assartref08_Tells.calls (k : Nat) (A0_0 : Option Addr) (c0_0 : Nat) (l0_0 : List (S38)) (a0_1 : Int) (A1 : Option Addr) (c1 : Nat) (l1 : List ByteArray) (a2 : Int) (a3 : Int) (r : Int) (w : World) (hr0_0 : Kd.C k38 w A0_0 l0_0.length l0_0) (hc0_0 : l0_0.length ≤ c0_0) (hr1 : Kd.C Kd.string w A1 l1.length l1) (hc1 : l1.length ≤ c1) (h : assartref08_Tells.f k l0_0 a0_1 l1 a2 a3 = some r) :
  Calls Try.prog 39 #[.agg #[.slice A0_0 l0_0.length c0_0, .int .i64 a0_1], .slice A1 l1.length c1, .int .i64 a2, .int .i64 a3] w fun e w' => e = .returned (.int .i64 r) ∧ Below w.heap.size w w' := by
 have hu24 := Try.underlying24
 have hu38 := Try.underlying38
 have HR0_0 := Aside0.mk hr0_0
 have HC0_0 := Aside0.mk hc0_0
 clear hr0_0 hc0_0
 have HR1 := Aside0.mk hr1
 have HC1 := Aside0.mk hc1
 clear hr1 hc1
 have HB := Aside0.mk (Below.refl w.heap.size w)
 have H : (if 0 ≤ a2 then (if a2 < (l0_0.length : Int) then ((assartref08_Given.f k l1 a2).bind fun t203 => (assartref08_Tells.l0 k a3 0 t203 ((rd_T38 l0_0 a2).f0) ((rd_T38 l0_0 a2).f1) ((rd_T38 l0_0 a2).f2.f0) ((rd_T38 l0_0 a2).f2.f1))) else (none)) else (none)) = some r := h
 clear h
 by_cases c5 : 0 ≤ a2
 ·rw [if_pos c5] at H
  have c5b0 : decide (0 ≤ a2) = true := decide_eq_true c5
  clear c5
  by_cases c6 : a2 < (l0_0.length : Int)
  ·rw [if_pos c6] at H
   have c6b0 : decide (a2 < (l0_0.length : Int)) = true := decide_eq_true c6
   clear c6
   replace H := Option.bind_eq_some_iff.mp H
   obtain ⟨t203, A70, H⟩ := H
   replace H : (assartref08_Tells.l0 k a3 0 t203 ((rd_T38 l0_0 a2).f0) ((rd_T38 l0_0 a2).f1) ((rd_T38 l0_0 a2).f2.f0) ((rd_T38 l0_0 a2).f2.f1)) = some r := H
   have A7 := Aside0.mk A70
   clear A70
   have H' := Aside0.mk H
   clear H
   go_enter Try.func39, Try.ntmps39
   go_wp2_with (first | ((with_reducible refine gate_dst (N := 4) rfl ?_); refine box_event ?hg (N := 4) ?hd (cs := #[.slice A0_0 l0_0.length c0_0, .int .i64 a0_1]) (t := 24) ?hr ?_; (case hd => rfl); (case hg => rfl); (case hr => first | (go_simp; done) | (go_simp; rfl)); intro gb200 hg w8 hbox hb; have n0_ := Aside0.mk (below_step (by repeat (first | (with_reducible first | exact HB.out | apply below_alloc | apply pw_below_drewN | apply below_drew1) | exact HB.out)) hb); have n1_ := Aside0.mk (hbox); have n2_ := Aside0.mk ((by rw [hg]; exact (below_size (by repeat (first | (with_reducible first | exact HB.out | apply below_alloc | apply pw_below_drewN | apply below_drew1) | exact HB.out))) : w.heap.size ≤ gb200)); have n3_ := Aside0.mk ((by rw [hg]; exact (below_size (by repeat (first | (with_reducible first | exact HB.out | apply below_alloc | apply pw_below_drewN | apply below_drew1) | exact HB.out))) : w.heap.size ≤ gb200)); clear HB; have HB := n0_; have BK200 := n1_; have GW200 := n2_; have GE200 := n3_; clear n0_ n1_ n2_ n3_; clear hb hbox hg; have hcz9_0 : w8.cell? ⟨gb200, 0, none⟩ = some (.slice A0_0 l0_0.length c0_0) := (blk_cell BK200.out 0).trans rfl; have hcz9_1 : w8.cell? ⟨gb200, 1, none⟩ = some (.int .i64 a0_1) := (blk_cell BK200.out 1).trans rfl; have hfz9_0 := blk_frozen BK200.out 0; have hfz9_1 := blk_frozen BK200.out 1; have p201 : 0 ≤ (a2 : Int) := of_decide_eq_true (by first | (with_reducible assumption) | assumption); have q201 : a2 < (l0_0.length : Int) := of_decide_eq_true (by first | (with_reducible assumption) | assumption); obtain ⟨ad201, A201_3, c201_3, e201, hx201_0, hx201_1, hx201_2, hx201_3, hl201_3, hi201_3⟩ := at_T38 HR0_0.out a2 p201 q201; cases e201; replace hx201_0 := (HB.out.cell (World.block_lt_of_cell? w _ hx201_0)).trans hx201_0; replace hx201_1 := (HB.out.cell (World.block_lt_of_cell? w _ hx201_1)).trans hx201_1; replace hx201_2 := (HB.out.cell (World.block_lt_of_cell? w _ hx201_2)).trans hx201_2; replace hx201_3 := (HB.out.cell (World.block_lt_of_cell? w _ hx201_3)).trans hx201_3; have HR201_3 := Aside0.mk hi201_3; have HC201_3 := Aside0.mk hl201_3; clear hi201_3 hl201_3; replace p201 := eq_true p201; replace q201 := eq_true q201) | ((with_reducible refine gate_dst (N := 9) rfl ?_); refine box_event ?hg (N := 9) ?hd (cs := #[.int .i64 0, .bool false, .bool false, .slice none 0 0]) (t := 38) ?hr ?_; (case hd => rfl); (case hg => rfl); (case hr => first | (go_simp; done) | (go_simp; rfl)); intro gb202 hg w10 hbox hb; have n0_ := Aside0.mk (blk_below (g := gb200) (o := .cells #[.slice (some ad201) l0_0.length c0_0, .int .i64 a0_1] 24 (0, 0)) (by (with_reducible repeat (first | refine blk_drewN ?_ _ | refine blk_drew ?_ | refine blk_alloc ?_ _)); exact BK200.out) hb); have n1_ := Aside0.mk (below_step (by repeat (first | (with_reducible first | exact HB.out | apply below_alloc | apply pw_below_drewN | apply below_drew1 | refine below_set ?_ GE200.out) | exact HB.out)) hb); have n2_ := Aside0.mk (hbox); have n3_ := Aside0.mk ((by rw [hg]; exact (below_size (by repeat (first | (with_reducible first | exact HB.out | apply below_alloc | apply pw_below_drewN | apply below_drew1 | refine below_set ?_ GE200.out) | exact HB.out))) : w.heap.size ≤ gb202)); have n4_ := Aside0.mk ((by rw [hg]; exact (below_size (by repeat (first | (with_reducible first | exact HB.out | apply below_alloc | apply pw_below_drewN | apply below_drew1 | refine below_set ?_ GE200.out) | exact HB.out))) : w.heap.size ≤ gb202)); have n5_ := Aside0.mk ((by rw [hg]; exact Nat.ne_of_lt (blk_lt (g := gb200) (o := .cells #[.slice (some ad201) l0_0.length c0_0, .int .i64 a0_1] 24 (0, 0)) (by (with_reducible repeat (first | refine blk_drewN ?_ _ | refine blk_drew ?_ | refine blk_alloc ?_ _)); exact BK200.out)) : gb200 ≠ gb202)); have n6_ := Aside0.mk ((by rw [hg]; exact Nat.ne_of_gt (blk_lt (g := gb200) (o := .cells #[.slice (some ad201) l0_0.length c0_0, .int .i64 a0_1] 24 (0, 0)) (by (with_reducible repeat (first | refine blk_drewN ?_ _ | refine blk_drew ?_ | refine blk_alloc ?_ _)); exact BK200.out)) : gb202 ≠ gb200)); clear BK200; clear HB; have BK200 := n0_; have HB := n1_; have BK202 := n2_; have GW202 := n3_; have GE202 := n4_; have NB200_202 := n5_; have NB202_200 := n6_; clear n0_ n1_ n2_ n3_ n4_ n5_ n6_; clear hb hbox hg; have hnb11 := NB202_200.out; have hnc11 := NB200_202.out; have hcz12_0 : w10.cell? ⟨gb202, 0, none⟩ = some (.int .i64 0) := (blk_cell BK202.out 0).trans rfl; have hcz12_1 : w10.cell? ⟨gb202, 1, none⟩ = some (.bool false) := (blk_cell BK202.out 1).trans rfl; have hcz12_2 : w10.cell? ⟨gb202, 2, none⟩ = some (.bool false) := (blk_cell BK202.out 2).trans rfl; have hcz12_3 : w10.cell? ⟨gb202, 3, none⟩ = some (.slice none 0 0) := (blk_cell BK202.out 3).trans rfl; have hfz12_0 := blk_frozen BK202.out 0; have hfz12_1 := blk_frozen BK202.out 1; have hfz12_2 := blk_frozen BK202.out 2; have hfz12_3 := blk_frozen BK202.out 3) | ((with_reducible refine gate_callee (f := 37) rfl ?_); refine goesL_ (some 19) rfl rfl Try.func37 (by kernel_rfl) rfl #[.slice A1 l1.length c1, .int .i64 a2] rfl (by (try simp only [List.map_toArray, List.map_cons, List.map_nil]); first | done | rfl | (simp only [List.length_drop, List.length_take]; rfl)) ?_; (with_reducible refine (assartref08_Given.calls k _ _ l1 a2 t203 _ ?side1 ?side2 A7.out).mono ?_); (case side1 => exact Kd.C_below HR1.out (by repeat (first | (with_reducible first | exact HB.out | apply below_alloc | apply pw_below_drewN | apply below_drew1 | refine below_set ?_ GE200.out | refine below_set ?_ GE202.out) | exact HB.out))); (case side2 => exact HC1.out); rintro e w13 ⟨rfl, hb⟩; refine ⟨_, rfl, ?_⟩; have n0_ := Aside0.mk (blk_below (g := gb200) (o := .cells #[.slice (some ad201) l0_0.length c0_0, .int .i64 a0_1] 24 (0, 0)) (by (with_reducible repeat (first | refine blk_drewN ?_ _ | refine blk_drew ?_ | refine blk_alloc ?_ _)); refine blk_far ?_ NB200_202.out _; (with_reducible repeat (first | refine blk_drewN ?_ _ | refine blk_drew ?_ | refine blk_alloc ?_ _)); refine blk_far ?_ NB200_202.out _; (with_reducible repeat (first | refine blk_drewN ?_ _ | refine blk_drew ?_ | refine blk_alloc ?_ _)); refine blk_far ?_ NB200_202.out _; (with_reducible repeat (first | refine blk_drewN ?_ _ | refine blk_drew ?_ | refine blk_alloc ?_ _)); refine blk_far ?_ NB200_202.out _; (with_reducible repeat (first | refine blk_drewN ?_ _ | refine blk_drew ?_ | refine blk_alloc ?_ _)); exact BK200.out) hb); have n1_ := Aside0.mk (blk_below (g := gb202) (o := .cells #[.int .i64 ((rd_T38 l0_0 a2).f0), .bool ((rd_T38 l0_0 a2).f1), .bool ((rd_T38 l0_0 a2).f2.f0), .slice A201_3 ((rd_T38 l0_0 a2).f2.f1).length c201_3] 38 (0, 0)) (by (with_reducible repeat (first | refine blk_drewN ?_ _ | refine blk_drew ?_ | refine blk_alloc ?_ _)); refine blk_put (cs := #[.int .i64 ((rd_T38 l0_0 a2).f0), .bool ((rd_T38 l0_0 a2).f1), .bool ((rd_T38 l0_0 a2).f2.f0), .slice none 0 0]) ?_ 3 _ rfl; (with_reducible repeat (first | refine blk_drewN ?_ _ | refine blk_drew ?_ | refine blk_alloc ?_ _)); refine blk_put (cs := #[.int .i64 ((rd_T38 l0_0 a2).f0), .bool ((rd_T38 l0_0 a2).f1), .bool false, .slice none 0 0]) ?_ 2 _ rfl; (with_reducible repeat (first | refine blk_drewN ?_ _ | refine blk_drew ?_ | refine blk_alloc ?_ _)); refine blk_put (cs := #[.int .i64 ((rd_T38 l0_0 a2).f0), .bool false, .bool false, .slice none 0 0]) ?_ 1 _ rfl; (with_reducible repeat (first | refine blk_drewN ?_ _ | refine blk_drew ?_ | refine blk_alloc ?_ _)); refine blk_put (cs := #[.int .i64 0, .bool false, .bool false, .slice none 0 0]) ?_ 0 _ rfl; (with_reducible repeat (first | refine blk_drewN ?_ _ | refine blk_drew ?_ | refine blk_alloc ?_ _)); exact BK202.out) hb); have n2_ := Aside0.mk (below_step (by repeat (first | (with_reducible first | exact HB.out | apply below_alloc | apply pw_below_drewN | apply below_drew1 | refine below_set ?_ GE200.out | refine below_set ?_ GE202.out) | exact HB.out)) hb); clear BK200; clear BK202; clear HB; have BK200 := n0_; have BK202 := n1_; have HB := n2_; clear n0_ n1_ n2_; (try clear hb); (try clear hb2); (try clear hk); (try clear hi)))
   go_loopg [10, 11] k (fun kq v10 v11 w' => ∃ (x10_1 : Int) (x11_1 : Int), v10 = .int .i64 x10_1 ∧ v11 = .int .i64 x11_1 ∧ Aside0 (assartref08_Tells.l0 kq a3 x10_1 x11_1 ((rd_T38 l0_0 a2).f0) ((rd_T38 l0_0 a2).f1) ((rd_T38 l0_0 a2).f2.f0) ((rd_T38 l0_0 a2).f2.f1) = some r) ∧ Aside0 (kq ≤ k) ∧ Aside0 (w'.heap[gb200]? = some (.cells #[(.slice (some ad201) l0_0.length c0_0), .int .i64 a0_1] 24 (0, 0))) ∧ Aside0 (w'.heap[gb202]? = some (.cells #[.int .i64 ((rd_T38 l0_0 a2).f0), .bool ((rd_T38 l0_0 a2).f1), .bool ((rd_T38 l0_0 a2).f2.f0), (.slice A201_3 ((rd_T38 l0_0 a2).f2.f1).length c201_3)] 38 (0, 0))) ∧ Aside0 (Below w.heap.size w w'))
   case atStart => exact ⟨(0), (t203), (by first | rfl | (simp; done) | (simp [*]; done)), (by first | rfl | (simp; done) | (simp [*]; done)), H', ⟨Nat.le_refl _⟩, ⟨by (with_reducible repeat (first | refine blk_drewN ?_ _ | refine blk_drew ?_ | refine blk_alloc ?_ _)); exact BK200.out⟩, ⟨by (with_reducible repeat (first | refine blk_drewN ?_ _ | refine blk_drew ?_ | refine blk_alloc ?_ _)); exact BK202.out⟩, ⟨by repeat (first | (with_reducible first | exact HB.out | apply below_alloc | apply pw_below_drewN | apply below_drew1 | refine below_set ?_ GE200.out | refine below_set ?_ GE202.out) | exact HB.out)⟩⟩
   case round =>
    clear H'
    try clear c1
    try clear c2
    try clear p2
    try clear q2
    try clear hx2
    try clear c3
    try clear c5
    try clear c5b0
    try clear c6
    try clear c6b0
    try clear c11
    try clear hcz12_0
    try clear hcz12_1
    try clear hcz12_2
    try clear hcz12_3
    try clear hcz9_0
    try clear hcz9_1
    try clear hfz12_0
    try clear hfz12_1
    try clear hfz12_2
    try clear hfz12_3
    try clear hfz9_0
    try clear hfz9_1
    try clear hx201_0
    try clear hx201_1
    try clear hx201_2
    try clear hx201_3
    try clear p201
    try clear q201
    obtain ⟨x10_1, x11_1, rfl, rfl, HA, HK1, BK200, BK202, HB⟩ := hrel
    cases gk with
    | zero => exact absurd HA.out (by simp [assartref08_Tells.l0])
    | succ k1 =>
     have H := HA.out
     clear HA
     simp only [assartref08_Tells.l0] at H
     have HC14 := Aside0.mk H
     clear H
     go_upto_region 4 with (fail)
     go_cut [36] (fun v36 wc => ∃ (kq : Nat) (x36_13 : Bool), v36 = .bool x36_13 ∧ Aside0 (assartref08_Tells.j1 kq a3 x10_1 x11_1 x36_13 ((rd_T38 l0_0 a2).f0) ((rd_T38 l0_0 a2).f1) ((rd_T38 l0_0 a2).f2.f0) ((rd_T38 l0_0 a2).f2.f1) = some r) ∧ Aside0 (kq ≤ k1) ∧ Aside0 (wc.heap[gb200]? = some (.cells #[(.slice (some ad201) l0_0.length c0_0), .int .i64 a0_1] 24 (0, 0))) ∧ Aside0 (wc.heap[gb202]? = some (.cells #[.int .i64 ((rd_T38 l0_0 a2).f0), .bool ((rd_T38 l0_0 a2).f1), .bool ((rd_T38 l0_0 a2).f2.f0), (.slice A201_3 ((rd_T38 l0_0 a2).f2.f1).length c201_3)] 38 (0, 0))) ∧ Aside0 (Below w.heap.size w wc))
     case first =>
      have H := HC14.out
      clear HC14
      by_cases c15 : x11_1 < (((rd_T38 l0_0 a2).f2.f1).length : Int)
      ·rw [if_pos c15] at H
       have c15b0 : decide (x11_1 < (((rd_T38 l0_0 a2).f2.f1).length : Int)) = true := decide_eq_true c15
       clear c15
       (first | rw [c15b0] | (simp only [i64_w, i32_w]; rw [c15b0]) | skip)
       by_cases c16 : ((rd_T38 l0_0 a2).f0) > 0
       ·rw [if_pos c16] at H
        have c16b0 : decide (0 < ((rd_T38 l0_0 a2).f0)) = true := decide_eq_true c16
        clear c16
        have H' := Aside0.mk H
        clear H
        have hnb17 := NB202_200.out
        have hnc17 := NB200_202.out
        have hcz18_0 : wr.cell? ⟨gb202, 0, none⟩ = some (.int .i64 ((rd_T38 l0_0 a2).f0)) := (blk_cell BK202.out 0).trans rfl
        have hcz18_1 : wr.cell? ⟨gb202, 1, none⟩ = some (.bool ((rd_T38 l0_0 a2).f1)) := (blk_cell BK202.out 1).trans rfl
        have hcz18_2 : wr.cell? ⟨gb202, 2, none⟩ = some (.bool ((rd_T38 l0_0 a2).f2.f0)) := (blk_cell BK202.out 2).trans rfl
        have hcz18_3 : wr.cell? ⟨gb202, 3, none⟩ = some (.slice A201_3 ((rd_T38 l0_0 a2).f2.f1).length c201_3) := (blk_cell BK202.out 3).trans rfl
        have hfz18_0 := blk_frozen BK202.out 0
        have hfz18_1 := blk_frozen BK202.out 1
        have hfz18_2 := blk_frozen BK202.out 2
        have hfz18_3 := blk_frozen BK202.out 3
        go_wp2
        go_meet
        case rel => exact ⟨_, (!((rd_T38 l0_0 a2).f2.f0)), (by first | rfl | (simp; done) | (simp [*]; done)), H', ⟨by have := HK1.out; first | omega | exact Nat.le_refl _⟩, ⟨by (with_reducible repeat (first | refine blk_drewN ?_ _ | refine blk_drew ?_ | refine blk_alloc ?_ _)); exact BK200.out⟩, ⟨by (with_reducible repeat (first | refine blk_drewN ?_ _ | refine blk_drew ?_ | refine blk_alloc ?_ _)); exact BK202.out⟩, ⟨by repeat (first | (with_reducible first | exact HB.out | apply below_alloc | apply pw_below_drewN | apply below_drew1 | refine below_set ?_ GE200.out | refine below_set ?_ GE202.out) | exact HB.out)⟩⟩
       ·rw [if_neg c16] at H
        have c16b0 : decide (0 < ((rd_T38 l0_0 a2).f0)) = false := decide_eq_false c16
        clear c16
        have H' := Aside0.mk H
        clear H
        have hnb19 := NB202_200.out
        have hnc19 := NB200_202.out
        have hcz20_0 : wr.cell? ⟨gb202, 0, none⟩ = some (.int .i64 ((rd_T38 l0_0 a2).f0)) := (blk_cell BK202.out 0).trans rfl
        have hcz20_1 : wr.cell? ⟨gb202, 1, none⟩ = some (.bool ((rd_T38 l0_0 a2).f1)) := (blk_cell BK202.out 1).trans rfl
        have hcz20_2 : wr.cell? ⟨gb202, 2, none⟩ = some (.bool ((rd_T38 l0_0 a2).f2.f0)) := (blk_cell BK202.out 2).trans rfl
        have hcz20_3 : wr.cell? ⟨gb202, 3, none⟩ = some (.slice A201_3 ((rd_T38 l0_0 a2).f2.f1).length c201_3) := (blk_cell BK202.out 3).trans rfl
        have hfz20_0 := blk_frozen BK202.out 0
        have hfz20_1 := blk_frozen BK202.out 1
        have hfz20_2 := blk_frozen BK202.out 2
        have hfz20_3 := blk_frozen BK202.out 3
        go_wp2
        go_meet
        case rel => exact ⟨_, (false), (by first | rfl | (simp; done) | (simp [*]; done)), H', ⟨by have := HK1.out; first | omega | exact Nat.le_refl _⟩, ⟨by (with_reducible repeat (first | refine blk_drewN ?_ _ | refine blk_drew ?_ | refine blk_alloc ?_ _)); exact BK200.out⟩, ⟨by (with_reducible repeat (first | refine blk_drewN ?_ _ | refine blk_drew ?_ | refine blk_alloc ?_ _)); exact BK202.out⟩, ⟨by repeat (first | (with_reducible first | exact HB.out | apply below_alloc | apply pw_below_drewN | apply below_drew1 | refine below_set ?_ GE200.out | refine below_set ?_ GE202.out) | exact HB.out)⟩⟩
      ·rw [if_neg c15] at H
       have c15b0 : decide (x11_1 < (((rd_T38 l0_0 a2).f2.f1).length : Int)) = false := decide_eq_false c15
       clear c15
       (first | rw [c15b0] | (simp only [i64_w, i32_w]; rw [c15b0]) | skip)
       have H' := Aside0.mk H
       clear H
       have hnb21 := NB202_200.out
       have hnc21 := NB200_202.out
       have hcz22_0 : wr.cell? ⟨gb202, 0, none⟩ = some (.int .i64 ((rd_T38 l0_0 a2).f0)) := (blk_cell BK202.out 0).trans rfl
       have hcz22_1 : wr.cell? ⟨gb202, 1, none⟩ = some (.bool ((rd_T38 l0_0 a2).f1)) := (blk_cell BK202.out 1).trans rfl
       have hcz22_2 : wr.cell? ⟨gb202, 2, none⟩ = some (.bool ((rd_T38 l0_0 a2).f2.f0)) := (blk_cell BK202.out 2).trans rfl
       have hcz22_3 : wr.cell? ⟨gb202, 3, none⟩ = some (.slice A201_3 ((rd_T38 l0_0 a2).f2.f1).length c201_3) := (blk_cell BK202.out 3).trans rfl
       have hfz22_0 := blk_frozen BK202.out 0
       have hfz22_1 := blk_frozen BK202.out 1
       have hfz22_2 := blk_frozen BK202.out 2
       have hfz22_3 := blk_frozen BK202.out 3
       go_wp2
       go_meet
       case rel => exact ⟨_, (false), (by first | rfl | (simp; done) | (simp [*]; done)), H', ⟨by have := HK1.out; first | omega | exact Nat.le_refl _⟩, ⟨by (with_reducible repeat (first | refine blk_drewN ?_ _ | refine blk_drew ?_ | refine blk_alloc ?_ _)); exact BK200.out⟩, ⟨by (with_reducible repeat (first | refine blk_drewN ?_ _ | refine blk_drew ?_ | refine blk_alloc ?_ _)); exact BK202.out⟩, ⟨by repeat (first | (with_reducible first | exact HB.out | apply below_alloc | apply pw_below_drewN | apply below_drew1 | refine below_set ?_ GE200.out | refine below_set ?_ GE202.out) | exact HB.out)⟩⟩
     case rest =>
      clear HC14
      try clear c1
      try clear c2
      try clear p2
      try clear q2
      try clear hx2
      try clear c3
      try clear c5
      try clear c5b0
      try clear c6
      try clear c6b0
      try clear c11
      try clear c15
      try clear c15b0
      try clear c16
      try clear c16b0
      try clear c17
      try clear c19
      try clear c20
      try clear p20
      try clear q20
      try clear hx20
      try clear c21
      try clear hcz12_0
      try clear hcz12_1
      try clear hcz12_2
      try clear hcz12_3
      try clear hcz18_0
      try clear hcz18_1
      try clear hcz18_2
      try clear hcz18_3
      try clear hcz20_0
      try clear hcz20_1
      try clear hcz20_2
      try clear hcz20_3
      try clear hcz22_0
      try clear hcz22_1
      try clear hcz22_2
      try clear hcz22_3
      try clear hcz9_0
      try clear hcz9_1
      try clear hfz12_0
      try clear hfz12_1
      try clear hfz12_2
      try clear hfz12_3
      try clear hfz18_0
      try clear hfz18_1
      try clear hfz18_2
      try clear hfz18_3
      try clear hfz20_0
      try clear hfz20_1
      try clear hfz20_2
      try clear hfz20_3
      try clear hfz22_0
      try clear hfz22_1
      try clear hfz22_2
      try clear hfz22_3
      try clear hfz9_0
      try clear hfz9_1
      try clear hx201_0
      try clear hx201_1
      try clear hx201_2
      try clear hx201_3
      try clear p2
      try clear p201
      try clear q2
      try clear q201
      obtain ⟨kq, x36_13, rfl, HA, HJ13, BK200, BK202, HB⟩ := hcut
      cases kq with
      | zero => exact absurd HA.out (by simp [assartref08_Tells.j1])
      | succ kj13 =>
       have H := HA.out
       clear HA
       simp only [assartref08_Tells.j1] at H
       by_cases c23 : x36_13 = true
       ·subst c23
        have H1 : (if 0 ≤ x11_1 then (if x11_1 < (((rd_T38 l0_0 a2).f2.f1).length : Int) then (if ((rd_T46 ((rd_T38 l0_0 a2).f2.f1) x11_1).f1) = a3 then (assartref08_Tells.l0 kj13 a3 (wrap64 (x10_1 + 1)) (wrap64 (x11_1 + 1)) ((rd_T38 l0_0 a2).f0) ((rd_T38 l0_0 a2).f1) ((rd_T38 l0_0 a2).f2.f0) ((rd_T38 l0_0 a2).f2.f1)) else (assartref08_Tells.l0 kj13 a3 x10_1 (wrap64 (x11_1 + 1)) ((rd_T38 l0_0 a2).f0) ((rd_T38 l0_0 a2).f1) ((rd_T38 l0_0 a2).f2.f0) ((rd_T38 l0_0 a2).f2.f1))) else (none)) else (none)) = some r := by rw [if_pos rfl] at H; exact H
        clear H
        have H := H1
        clear H1
        by_cases c24 : 0 ≤ x11_1
        ·rw [if_pos c24] at H
         have c24b0 : decide (0 ≤ x11_1) = true := decide_eq_true c24
         clear c24
         by_cases c25 : x11_1 < (((rd_T38 l0_0 a2).f2.f1).length : Int)
         ·rw [if_pos c25] at H
          have c25b0 : decide (x11_1 < (((rd_T38 l0_0 a2).f2.f1).length : Int)) = true := decide_eq_true c25
          clear c25
          by_cases c26 : ((rd_T46 ((rd_T38 l0_0 a2).f2.f1) x11_1).f1) = a3
          ·rw [if_pos c26] at H
           have c26b0 : (((rd_T46 ((rd_T38 l0_0 a2).f2.f1) x11_1).f1) == a3) = true := beq_iff_eq.mpr c26
           have c26b1 : (((rd_T46 ((rd_T38 l0_0 a2).f2.f1) x11_1).f1) != a3) = false := bne_eq_false_iff_eq.mpr c26
           clear c26
           have H' := Aside0.mk H
           clear H
           have hnb27 := NB202_200.out
           have hnc27 := NB200_202.out
           have hcz28_0 : wc.cell? ⟨gb202, 0, none⟩ = some (.int .i64 ((rd_T38 l0_0 a2).f0)) := (blk_cell BK202.out 0).trans rfl
           have hcz28_1 : wc.cell? ⟨gb202, 1, none⟩ = some (.bool ((rd_T38 l0_0 a2).f1)) := (blk_cell BK202.out 1).trans rfl
           have hcz28_2 : wc.cell? ⟨gb202, 2, none⟩ = some (.bool ((rd_T38 l0_0 a2).f2.f0)) := (blk_cell BK202.out 2).trans rfl
           have hcz28_3 : wc.cell? ⟨gb202, 3, none⟩ = some (.slice A201_3 ((rd_T38 l0_0 a2).f2.f1).length c201_3) := (blk_cell BK202.out 3).trans rfl
           have hfz28_0 := blk_frozen BK202.out 0
           have hfz28_1 := blk_frozen BK202.out 1
           have hfz28_2 := blk_frozen BK202.out 2
           have hfz28_3 := blk_frozen BK202.out 3
           have p204 : 0 ≤ (x11_1 : Int) := of_decide_eq_true (by first | (with_reducible assumption) | assumption)
           have q204 : x11_1 < (((rd_T38 l0_0 a2).f2.f1).length : Int) := of_decide_eq_true (by first | (with_reducible assumption) | assumption)
           obtain ⟨ad204, e204, hx204_0, hx204_1⟩ := at_T46 HR201_3.out x11_1 p204 q204
           cases e204
           replace hx204_0 := (HB.out.cell (World.block_lt_of_cell? w _ hx204_0)).trans hx204_0
           replace hx204_1 := (HB.out.cell (World.block_lt_of_cell? w _ hx204_1)).trans hx204_1
           replace p204 := eq_true p204
           replace q204 := eq_true q204
           go_wp2
           go_roundg kj13
           case measure => have := HK1.out; have := HJ13.out; omega
           case rel => exact ⟨(wrap64 (x10_1 + 1)), (wrap64 (x11_1 + 1)), (by first | rfl | (simp; done) | (simp [*]; done)), (by first | rfl | (simp; done) | (simp [*]; done)), H', ⟨by have := HK1.out; have := HJ13.out; omega⟩, ⟨by (with_reducible repeat (first | refine blk_drewN ?_ _ | refine blk_drew ?_ | refine blk_alloc ?_ _)); exact BK200.out⟩, ⟨by (with_reducible repeat (first | refine blk_drewN ?_ _ | refine blk_drew ?_ | refine blk_alloc ?_ _)); exact BK202.out⟩, ⟨by repeat (first | (with_reducible first | exact HB.out | apply below_alloc | apply pw_below_drewN | apply below_drew1 | refine below_set ?_ GE200.out | refine below_set ?_ GE202.out) | exact HB.out)⟩⟩
          ·rw [if_neg c26] at H
           have c26b0 : (((rd_T46 ((rd_T38 l0_0 a2).f2.f1) x11_1).f1) == a3) = false := beq_eq_false_iff_ne.mpr c26
           have c26b1 : (((rd_T46 ((rd_T38 l0_0 a2).f2.f1) x11_1).f1) != a3) = true := bne_iff_ne.mpr c26
           have H' := Aside0.mk H
           clear H
           have hnb29 := NB202_200.out
           have hnc29 := NB200_202.out
           have hcz30_0 : wc.cell? ⟨gb202, 0, none⟩ = some (.int .i64 ((rd_T38 l0_0 a2).f0)) := (blk_cell BK202.out 0).trans rfl
           have hcz30_1 : wc.cell? ⟨gb202, 1, none⟩ = some (.bool ((rd_T38 l0_0 a2).f1)) := (blk_cell BK202.out 1).trans rfl
           have hcz30_2 : wc.cell? ⟨gb202, 2, none⟩ = some (.bool ((rd_T38 l0_0 a2).f2.f0)) := (blk_cell BK202.out 2).trans rfl
           have hcz30_3 : wc.cell? ⟨gb202, 3, none⟩ = some (.slice A201_3 ((rd_T38 l0_0 a2).f2.f1).length c201_3) := (blk_cell BK202.out 3).trans rfl
           have hfz30_0 := blk_frozen BK202.out 0
           have hfz30_1 := blk_frozen BK202.out 1
           have hfz30_2 := blk_frozen BK202.out 2
           have hfz30_3 := blk_frozen BK202.out 3
           have p204 : 0 ≤ (x11_1 : Int) := of_decide_eq_true (by first | (with_reducible assumption) | assumption)
           have q204 : x11_1 < (((rd_T38 l0_0 a2).f2.f1).length : Int) := of_decide_eq_true (by first | (with_reducible assumption) | assumption)
           obtain ⟨ad204, e204, hx204_0, hx204_1⟩ := at_T46 HR201_3.out x11_1 p204 q204
           cases e204
           replace hx204_0 := (HB.out.cell (World.block_lt_of_cell? w _ hx204_0)).trans hx204_0
           replace hx204_1 := (HB.out.cell (World.block_lt_of_cell? w _ hx204_1)).trans hx204_1
           replace p204 := eq_true p204
           replace q204 := eq_true q204
           go_wp2
           go_roundg kj13
           case measure => have := HK1.out; have := HJ13.out; omega
           case rel => exact ⟨(x10_1), (wrap64 (x11_1 + 1)), (by first | rfl | (simp; done) | (simp [*]; done)), (by first | rfl | (simp; done) | (simp [*]; done)), H', ⟨by have := HK1.out; have := HJ13.out; omega⟩, ⟨by (with_reducible repeat (first | refine blk_drewN ?_ _ | refine blk_drew ?_ | refine blk_alloc ?_ _)); exact BK200.out⟩, ⟨by (with_reducible repeat (first | refine blk_drewN ?_ _ | refine blk_drew ?_ | refine blk_alloc ?_ _)); exact BK202.out⟩, ⟨by repeat (first | (with_reducible first | exact HB.out | apply below_alloc | apply pw_below_drewN | apply below_drew1 | refine below_set ?_ GE200.out | refine below_set ?_ GE202.out) | exact HB.out)⟩⟩
         ·rw [if_neg c25] at H
          exact absurd H (by simp)
        ·rw [if_neg c24] at H
         exact absurd H (by simp)
       ·replace c23 := Bool.eq_false_iff.mpr c23
        subst c23
        have H1 : (some x10_1) = some r := by rw [if_neg (show ¬ (false = true) by decide)] at H; exact H
        clear H
        have H := H1
        clear H1
        obtain rfl := Option.some.inj H
        go_wp2
        go_ret
        exact ⟨by first | rfl | (simp [errW_none, errW_some] <;> rfl) | (simp [*, errW_none, errW_some] <;> rfl), by repeat (first | (with_reducible first | exact HB.out | apply below_alloc | apply pw_below_drewN | apply below_drew1 | refine below_set ?_ GE200.out | refine below_set ?_ GE202.out) | exact HB.out)⟩
  ·rw [if_neg c6] at H
   exact absurd H (by simp)
 ·rw [if_neg c5] at H
  exact absurd H (by simp)
end Go.Proofs.Ytflndiikeoflfaa.P
end
section
namespace Go.Proofs.Ytflndiikeoflfaa.P
open Go.RowKit Go.Proofs.YtflndiikeoflfaaW.PrintWords Go.Proofs.YtflndiikeoflfaaW.PrintLast Go.Proofs.YtflndiikeoflfaaW.PrintMore
attribute [local go_sem] max2_int min2_int max_two min_two max_three min_three max_four min_four
set_option linter.unusedVariables false
set_option linter.unusedSimpArgs false
mutual
def assartref08_Refs.l0 : Nat → List Int → List ByteArray → List Int → Int → List (S38) → Int → Option (List Int)
 | 0, _, _, _, _, _, _ => none
 | k + 1, x1, x2, x7, x8, x206000, x206001 => if x8 < (x206000.length : Int) then ((assartref08_outside.f k x1 x2 x8).bind fun t206 => (assartref08_Refs.l1 k x1 x2 x7 x8 t206 0 x206000 x206001)) else (some x7)
def assartref08_Refs.l1 : Nat → List Int → List ByteArray → List Int → Int → Int → Int → List (S38) → Int → Option (List Int)
 | 0, _, _, _, _, _, _, _, _ => none
 | k + 1, x1, x2, x7, x8, x9, x10, x206000, x206001 => if x10 < (x206000.length : Int) then ((assartref08_Tells.f k x206000 x206001 x2 x10 x8).bind fun t207 => (assartref08_Refs.l1 k x1 x2 x7 x8 (wrap64 (x9 + t207)) (wrap64 (x10 + 1)) x206000 x206001)) else (if x7.length < 17592186044416 then (assartref08_Refs.l0 k x1 x2 (x7 ++ [x9]) (wrap64 (x8 + 1)) x206000 x206001) else (none))
end
def assartref08_Refs.f (k : Nat) (l0_0 : List (S38)) (a0_1 : Int) (l1 : List Int) (l2 : List ByteArray) : Option (List Int) := assartref08_Refs.l0 k l1 l2 ([] : List Int) 0 l0_0 a0_1
theorem assartref08_Refs.mono_l : ∀ k, (∀ y0 y1 y2 y3 y4 y5, LeO (assartref08_Refs.l0 k y0 y1 y2 y3 y4 y5) (assartref08_Refs.l0 (k + 1) y0 y1 y2 y3 y4 y5)) ∧ (∀ y0 y1 y2 y3 y4 y5 y6 y7, LeO (assartref08_Refs.l1 k y0 y1 y2 y3 y4 y5 y6 y7) (assartref08_Refs.l1 (k + 1) y0 y1 y2 y3 y4 y5 y6 y7))
 | 0 => ⟨fun _ _ _ _ _ _ r h => by simp [assartref08_Refs.l0] at h, fun _ _ _ _ _ _ _ _ r h => by simp [assartref08_Refs.l1] at h⟩
 | k + 1 => by
  obtain ⟨ih0, ih1⟩ := assartref08_Refs.mono_l k
  refine ⟨?_, ?_⟩
  ·intro y0 y1 y2 y3 y4 y5
   unfold assartref08_Refs.l0
   repeat' first
   | (with_reducible exact ih0 _ _ _ _ _ _)
   | (with_reducible exact ih1 _ _ _ _ _ _ _ _)
   | (with_reducible exact assartref08_Tells.mono _ _ _ _ _ _)
   | (with_reducible exact assartref08_outside.mono _ _ _ _)
   | (with_reducible exact LeO.refl _)
   | (with_reducible exact LeO.none _)
   | (with_reducible refine LeO.ite ?_ ?_)
   | (with_reducible refine LeO.bind ?_ (fun _ => ?_))
   | exact ih0 _ _ _ _ _ _
   | exact ih1 _ _ _ _ _ _ _ _
   | exact assartref08_Tells.mono _ _ _ _ _ _
   | exact assartref08_outside.mono _ _ _ _
   | exact LeO.none _
   | refine LeO.ite ?_ ?_
   | refine LeO.bind ?_ (fun _ => ?_)
  ·intro y0 y1 y2 y3 y4 y5 y6 y7
   unfold assartref08_Refs.l1
   repeat' first
   | (with_reducible exact ih0 _ _ _ _ _ _)
   | (with_reducible exact ih1 _ _ _ _ _ _ _ _)
   | (with_reducible exact assartref08_Tells.mono _ _ _ _ _ _)
   | (with_reducible exact assartref08_outside.mono _ _ _ _)
   | (with_reducible exact LeO.refl _)
   | (with_reducible exact LeO.none _)
   | (with_reducible refine LeO.ite ?_ ?_)
   | (with_reducible refine LeO.bind ?_ (fun _ => ?_))
   | exact ih0 _ _ _ _ _ _
   | exact ih1 _ _ _ _ _ _ _ _
   | exact assartref08_Tells.mono _ _ _ _ _ _
   | exact assartref08_outside.mono _ _ _ _
   | exact LeO.none _
   | refine LeO.ite ?_ ?_
   | refine LeO.bind ?_ (fun _ => ?_)
set_option maxHeartbeats 8000000 in
set_option maxRecDepth 100000 in
theorem assartref08_Refs.calls (k : Nat) (A0_0 : Option Addr) (c0_0 : Nat) (l0_0 : List (S38)) (a0_1 : Int) (A1 : Option Addr) (c1 : Nat) (l1 : List Int) (A2 : Option Addr) (c2 : Nat) (l2 : List ByteArray) (r : List Int) (w : World) (hr0_0 : Kd.C k38 w A0_0 l0_0.length l0_0) (hc0_0 : l0_0.length ≤ c0_0) (hr1 : Kd.C (Kd.int .i64) w A1 l1.length l1) (hc1 : l1.length ≤ c1) (hr2 : Kd.C Kd.string w A2 l2.length l2) (hc2 : l2.length ≤ c2) (h : assartref08_Refs.f k l0_0 a0_1 l1 l2 = some r) :
  Calls Try.prog 25 #[.agg #[.slice A0_0 l0_0.length c0_0, .int .i64 a0_1], .slice A1 l1.length c1, .slice A2 l2.length c2] w fun e w' => ∃ v0_ : Value, e = .returned (v0_) ∧ Kd.R (Kd.int .i64) 3 w' w.heap.size (fun _ => True) v0_ r ∧ Below w.heap.size w w' := by
 have hu24 := Try.underlying24
 have HR0_0 := Aside0.mk hr0_0
 have HC0_0 := Aside0.mk hc0_0
 clear hr0_0 hc0_0
 have HR1 := Aside0.mk hr1
 have HC1 := Aside0.mk hc1
 clear hr1 hc1
 have HR2 := Aside0.mk hr2
 have HC2 := Aside0.mk hc2
 clear hr2 hc2
 have HB := Aside0.mk (Below.refl w.heap.size w)
 have H : (assartref08_Refs.l0 k l1 l2 ([] : List Int) 0 l0_0 a0_1) = some r := h
 clear h
 have H' := Aside0.mk H
 clear H
 go_enter Try.func25, Try.ntmps25
 go_wp2_with (first | ((with_reducible refine gate_dst (N := 3) rfl ?_); refine box_event ?hg (N := 3) ?hd (cs := #[.slice A0_0 l0_0.length c0_0, .int .i64 a0_1]) (t := 24) ?hr ?_; (case hd => rfl); (case hg => rfl); (case hr => first | (go_simp; done) | (go_simp; rfl)); intro gb205 hg w4 hbox hb; have n0_ := Aside0.mk (below_step (by repeat (first | (with_reducible first | exact HB.out | apply below_alloc | apply pw_below_drewN | apply below_drew1) | exact HB.out)) hb); have n1_ := Aside0.mk (hbox); have n2_ := Aside0.mk ((by rw [hg]; exact (below_size (by repeat (first | (with_reducible first | exact HB.out | apply below_alloc | apply pw_below_drewN | apply below_drew1) | exact HB.out))) : w.heap.size ≤ gb205)); have n3_ := Aside0.mk ((by rw [hg]; exact (below_size (by repeat (first | (with_reducible first | exact HB.out | apply below_alloc | apply pw_below_drewN | apply below_drew1) | exact HB.out))) : w.heap.size ≤ gb205)); clear HB; have HB := n0_; have BK205 := n1_; have GW205 := n2_; have GE205 := n3_; clear n0_ n1_ n2_ n3_; clear hb hbox hg))
 go_loopg [7, 8] k (fun kq v7 v8 w' => ∃ (x7_1 : List Int) (x8_1 : Int), v8 = .int .i64 x8_1 ∧ Aside0 (assartref08_Refs.l0 kq l1 l2 x7_1 x8_1 l0_0 a0_1 = some r) ∧ Aside0 (kq ≤ k) ∧ Aside0 (Kd.R (Kd.int .i64) 3 w' w.heap.size (fun _ => True) v7 x7_1) ∧ Aside0 (w'.heap[gb205]? = some (.cells #[(.slice A0_0 l0_0.length c0_0), .int .i64 a0_1] 24 (0, 0))) ∧ Aside0 (Below w.heap.size w w'))
 case atStart => exact ⟨(([] : List Int)), (0), (by first | rfl | (simp; done) | (simp [*]; done)), H', ⟨Nat.le_refl _⟩, ⟨by first | exact Kd.R_nil _ _ _ _ _ | exact Kd.N_nil _ _ _ _ _ | exact Kd.V_nil _ _ _ _ _ | exact Kd.Q_nil _ _ _ _ _ | exact Kd.S_nil _ _ _ _ _⟩, ⟨by (with_reducible repeat (first | refine blk_drewN ?_ _ | refine blk_drew ?_ | refine blk_alloc ?_ _)); exact BK205.out⟩, ⟨by repeat (first | (with_reducible first | exact HB.out | apply below_alloc | apply pw_below_drewN | apply below_drew1 | refine below_set ?_ GE205.out) | exact HB.out)⟩⟩
 case round =>
  clear H'
  try clear c1
  try clear c2
  try clear p2
  obtain ⟨x7_1, x8_1, rfl, HA, HK1, HO_7, BK205, HB⟩ := hrel
  cases gk with
  | zero => exact absurd HA.out (by simp [assartref08_Refs.l0])
  | succ k1 =>
   have H := HA.out
   clear HA
   simp only [assartref08_Refs.l0] at H
   by_cases c5 : x8_1 < (l0_0.length : Int)
   ·rw [if_pos c5] at H
    have c5b0 : decide (x8_1 < (l0_0.length : Int)) = true := decide_eq_true c5
    clear c5
    replace H := Option.bind_eq_some_iff.mp H
    obtain ⟨t206, A60, H⟩ := H
    replace H : (assartref08_Refs.l1 k1 l1 l2 x7_1 x8_1 t206 0 l0_0 a0_1) = some r := H
    have A6 := Aside0.mk A60
    clear A60
    have H' := Aside0.mk H
    clear H
    have hcz7_0 : wr.cell? ⟨gb205, 0, none⟩ = some (.slice A0_0 l0_0.length c0_0) := (blk_cell BK205.out 0).trans rfl
    have hcz7_1 : wr.cell? ⟨gb205, 1, none⟩ = some (.int .i64 a0_1) := (blk_cell BK205.out 1).trans rfl
    have hfz7_0 := blk_frozen BK205.out 0
    have hfz7_1 := blk_frozen BK205.out 1
    go_wp2_with (first | ((with_reducible refine gate_callee (f := 38) rfl ?_); refine goesL_ (some 21) rfl rfl Try.func38 (by kernel_rfl) rfl #[.slice A1 l1.length c1, .slice A2 l2.length c2, .int .i64 x8_1] rfl (by (try simp only [List.map_toArray, List.map_cons, List.map_nil]); first | done | rfl | (simp only [List.length_drop, List.length_take]; rfl)) ?_; (with_reducible refine (assartref08_outside.calls k1 _ _ l1 _ _ l2 x8_1 t206 _ ?side1 ?side2 ?side3 ?side4 A6.out).mono ?_); (case side1 => repeat (first | exact (Kd.C_below HR1.out HB.out) | (with_reducible refine Kd.C_alloc ?_ _) | (with_reducible refine Kd.C_drewN ?_ _) | (with_reducible refine Kd.C_drew ?_))); (case side2 => exact HC1.out); (case side3 => repeat (first | exact (Kd.C_below HR2.out HB.out) | (with_reducible refine Kd.C_alloc ?_ _) | (with_reducible refine Kd.C_drewN ?_ _) | (with_reducible refine Kd.C_drew ?_))); (case side4 => exact HC2.out); rintro e w8 ⟨rfl, hb⟩; refine ⟨_, rfl, ?_⟩; have n0_ := Aside0.mk (Kd.R_below (by (with_reducible repeat (first | apply Kd.R_alloc | apply Kd.R_drewN | apply Kd.R_drew)); exact HO_7.out) hb); have n1_ := Aside0.mk (blk_below (g := gb205) (o := .cells #[.slice A0_0 l0_0.length c0_0, .int .i64 a0_1] 24 (0, 0)) (by (with_reducible repeat (first | refine blk_drewN ?_ _ | refine blk_drew ?_ | refine blk_alloc ?_ _)); exact BK205.out) hb); have n2_ := Aside0.mk (below_step (by repeat (first | (with_reducible first | exact HB.out | apply below_alloc | apply pw_below_drewN | apply below_drew1 | refine below_set ?_ GE205.out) | exact HB.out)) hb); clear HO_7; clear BK205; clear HB; have HO_7 := n0_; have BK205 := n1_; have HB := n2_; clear n0_ n1_ n2_; (try clear hb); (try clear hb2); (try clear hk); (try clear hi)))
    go_loopg [9, 10] k1 (fun kq v9 v10 w' => ∃ (x9_2 : Int) (x10_2 : Int), v9 = .int .i64 x9_2 ∧ v10 = .int .i64 x10_2 ∧ Aside0 (assartref08_Refs.l1 kq l1 l2 x7_1 x8_1 x9_2 x10_2 l0_0 a0_1 = some r) ∧ Aside0 (kq ≤ k1) ∧ Aside0 (Kd.R (Kd.int .i64) 3 w' w.heap.size (fun _ => True) u7 x7_1) ∧ Aside0 (w'.heap[gb205]? = some (.cells #[(.slice A0_0 l0_0.length c0_0), .int .i64 a0_1] 24 (0, 0))) ∧ Aside0 (Below w.heap.size w w'))
    case atStart => exact ⟨(t206), (0), (by first | rfl | (simp; done) | (simp [*]; done)), (by first | rfl | (simp; done) | (simp [*]; done)), H', ⟨Nat.le_refl _⟩, ⟨by (with_reducible repeat (first | apply Kd.R_alloc | apply Kd.R_drewN | apply Kd.R_drew)); exact HO_7.out⟩, ⟨by (with_reducible repeat (first | refine blk_drewN ?_ _ | refine blk_drew ?_ | refine blk_alloc ?_ _)); exact BK205.out⟩, ⟨by repeat (first | (with_reducible first | exact HB.out | apply below_alloc | apply pw_below_drewN | apply below_drew1 | refine below_set ?_ GE205.out) | exact HB.out)⟩⟩
    case round =>
     clear H'
     try clear c1
     try clear c2
     try clear p2
     try clear c3
     try clear c5
     try clear c5b0
     try clear hcz7_0
     try clear hcz7_1
     try clear hfz7_0
     try clear hfz7_1
     try clear p2
     obtain ⟨x9_2, x10_2, rfl, rfl, HA, HK2, HO_7, BK205, HB⟩ := hrel
     cases gk with
     | zero => exact absurd HA.out (by simp [assartref08_Refs.l1])
     | succ k2 =>
      have H := HA.out
      clear HA
      simp only [assartref08_Refs.l1] at H
      by_cases c9 : x10_2 < (l0_0.length : Int)
      ·rw [if_pos c9] at H
       have c9b0 : decide (x10_2 < (l0_0.length : Int)) = true := decide_eq_true c9
       clear c9
       replace H := Option.bind_eq_some_iff.mp H
       obtain ⟨t207, A100, H⟩ := H
       replace H : (assartref08_Refs.l1 k2 l1 l2 x7_1 x8_1 (wrap64 (x9_2 + t207)) (wrap64 (x10_2 + 1)) l0_0 a0_1) = some r := H
       have A10 := Aside0.mk A100
       clear A100
       have H' := Aside0.mk H
       clear H
       have hcz11_0 : wr.cell? ⟨gb205, 0, none⟩ = some (.slice A0_0 l0_0.length c0_0) := (blk_cell BK205.out 0).trans rfl
       have hcz11_1 : wr.cell? ⟨gb205, 1, none⟩ = some (.int .i64 a0_1) := (blk_cell BK205.out 1).trans rfl
       have hfz11_0 := blk_frozen BK205.out 0
       have hfz11_1 := blk_frozen BK205.out 1
       go_wp2_with (first | ((with_reducible refine gate_callee (f := 39) rfl ?_); refine goesL_ (some 34) rfl rfl Try.func39 (by kernel_rfl) rfl #[.agg #[.slice A0_0 l0_0.length c0_0, .int .i64 a0_1], .slice A2 l2.length c2, .int .i64 x10_2, .int .i64 x8_1] rfl (by (try simp only [List.map_toArray, List.map_cons, List.map_nil]); first | done | rfl | (simp only [List.length_drop, List.length_take]; rfl)) ?_; (with_reducible refine (assartref08_Tells.calls k2 _ _ l0_0 a0_1 _ _ l2 x10_2 x8_1 t207 _ ?side1 ?side2 ?side3 ?side4 A10.out).mono ?_); (case side1 => repeat (first | exact (Kd.C_below HR0_0.out HB.out) | (with_reducible refine Kd.C_alloc ?_ _) | (with_reducible refine Kd.C_drewN ?_ _) | (with_reducible refine Kd.C_drew ?_))); (case side2 => exact HC0_0.out); (case side3 => repeat (first | exact (Kd.C_below HR2.out HB.out) | (with_reducible refine Kd.C_alloc ?_ _) | (with_reducible refine Kd.C_drewN ?_ _) | (with_reducible refine Kd.C_drew ?_))); (case side4 => exact HC2.out); rintro e w12 ⟨rfl, hb⟩; refine ⟨_, rfl, ?_⟩; have n0_ := Aside0.mk (Kd.R_below (by (with_reducible repeat (first | apply Kd.R_alloc | apply Kd.R_drewN | apply Kd.R_drew)); exact HO_7.out) hb); have n1_ := Aside0.mk (blk_below (g := gb205) (o := .cells #[.slice A0_0 l0_0.length c0_0, .int .i64 a0_1] 24 (0, 0)) (by (with_reducible repeat (first | refine blk_drewN ?_ _ | refine blk_drew ?_ | refine blk_alloc ?_ _)); exact BK205.out) hb); have n2_ := Aside0.mk (below_step (by repeat (first | (with_reducible first | exact HB.out | apply below_alloc | apply pw_below_drewN | apply below_drew1 | refine below_set ?_ GE205.out) | exact HB.out)) hb); clear HO_7; clear BK205; clear HB; have HO_7 := n0_; have BK205 := n1_; have HB := n2_; clear n0_ n1_ n2_; (try clear hb); (try clear hb2); (try clear hk); (try clear hi)))
       go_roundg k2
       case measure => have := HK1.out; have := HK2.out; omega
       case rel => exact ⟨(wrap64 (x9_2 + t207)), (wrap64 (x10_2 + 1)), (by first | rfl | (simp; done) | (simp [*]; done)), (by first | rfl | (simp; done) | (simp [*]; done)), H', ⟨by have := HK1.out; have := HK2.out; omega⟩, ⟨by (with_reducible repeat (first | apply Kd.R_alloc | apply Kd.R_drewN | apply Kd.R_drew)); exact HO_7.out⟩, ⟨by (with_reducible repeat (first | refine blk_drewN ?_ _ | refine blk_drew ?_ | refine blk_alloc ?_ _)); exact BK205.out⟩, ⟨by repeat (first | (with_reducible first | exact HB.out | apply below_alloc | apply pw_below_drewN | apply below_drew1 | refine below_set ?_ GE205.out) | exact HB.out)⟩⟩
      ·rw [if_neg c9] at H
       have c9b0 : decide (x10_2 < (l0_0.length : Int)) = false := decide_eq_false c9
       clear c9
       by_cases c13 : x7_1.length < 17592186044416
       ·rw [if_pos c13] at H
        have LMc13 := Aside0.mk c13
        clear c13
        obtain ⟨y208, hy208⟩ : ∃ y_ : List Int, y_ = (x7_1 ++ [x9_2]) := ⟨_, rfl⟩
        replace H : (assartref08_Refs.l0 k2 l1 l2 y208 (wrap64 (x8_1 + 1)) l0_0 a0_1) = some r := by first | (rw [hy208]; with_reducible exact H) | (have H2_ := (Option.bind_some _ _).symm.trans H; rw [hy208]; with_reducible exact H2_) | (have H2_ := (Option.bind_some _ _).symm.trans H; with_reducible exact H2_) | with_reducible exact H | (rw [hy208]; exact H) | exact H
        have Ny208 := Aside0.mk hy208
        clear hy208
        have H' := Aside0.mk H
        clear H
        have hcz14_0 : wr.cell? ⟨gb205, 0, none⟩ = some (.slice A0_0 l0_0.length c0_0) := (blk_cell BK205.out 0).trans rfl
        have hcz14_1 : wr.cell? ⟨gb205, 1, none⟩ = some (.int .i64 a0_1) := (blk_cell BK205.out 1).trans rfl
        have hfz14_0 := blk_frozen BK205.out 0
        have hfz14_1 := blk_frozen BK205.out 1
        go_wp2_with (first | ((with_reducible refine gate_builtin (b := .append) (xs := #[.tmp 36, .tmp 38]) rfl ?_); at_builtin; refine Kd.R_append (Kd.int .i64) (w0 := w) w.heap.size rfl (.tmp 36) (.tmp 38) 25 3 (.int .i64 0) 8 rfl Try.underlying25 info3 rfl (by decide) (by omega) u7 x7_1 x9_2 [.int .i64 x9_2] (fun _ => True) (fun _ => False) rfl rfl ?aP (fun _ hk => hk.elim) ?aF ?aO ?aB ?aS ?aL ?_; (case aP => exact rfl); (case aB => exact (by repeat (first | (with_reducible first | exact HB.out | apply below_alloc | apply pw_below_drewN | apply below_drew1 | refine below_set ?_ GE205.out) | exact HB.out))); (case aF => exact (fun _ _ => trivial)); (case aO => exact (by (with_reducible repeat (first | apply Kd.R_alloc | apply Kd.R_drewN | apply Kd.R_drew)); exact HO_7.out)); (case aS => exact (below_size (by repeat (first | (with_reducible first | exact HB.out | apply below_alloc | apply pw_below_drewN | apply below_drew1 | refine below_set ?_ GE205.out) | exact HB.out)))); (case aL => have := LMc13.out; omega); intro v209 w15 ho hb hg hat; rw [← Ny208.out] at ho; have n0_ := Aside0.mk (blk_grown (g := gb205) (o := .cells #[.slice A0_0 l0_0.length c0_0, .int .i64 a0_1] 24 (0, 0)) (by (with_reducible repeat (first | refine blk_drewN ?_ _ | refine blk_drew ?_ | refine blk_alloc ?_ _)); exact BK205.out) hg (Kd.R_ne HO_7.out BK205.out (by decide))); have n1_ := Aside0.mk (hb); have n2_ := Aside0.mk (ho); clear BK205; clear HB; clear HO_7; have BK205 := n0_; have HB := n1_; have HO210 := n2_; clear n0_ n1_ n2_; clear ho hb hg hat))
        go_roundg k2
        case measure => have := HK1.out; have := HK2.out; omega
        case rel => exact ⟨(y208), (wrap64 (x8_1 + 1)), (by first | rfl | (simp; done) | (simp [*]; done)), H', ⟨by have := HK1.out; have := HK2.out; omega⟩, ⟨by (with_reducible repeat (first | apply Kd.R_alloc | apply Kd.R_drewN | apply Kd.R_drew)); exact HO210.out⟩, ⟨by (with_reducible repeat (first | refine blk_drewN ?_ _ | refine blk_drew ?_ | refine blk_alloc ?_ _)); exact BK205.out⟩, ⟨by repeat (first | (with_reducible first | exact HB.out | apply below_alloc | apply pw_below_drewN | apply below_drew1 | refine below_set ?_ GE205.out) | exact HB.out)⟩⟩
       ·rw [if_neg c13] at H
        exact absurd H (by simp)
   ·rw [if_neg c5] at H
    have c5b0 : decide (x8_1 < (l0_0.length : Int)) = false := decide_eq_false c5
    clear c5
    obtain rfl := Option.some.inj H
    have hcz16_0 : wr.cell? ⟨gb205, 0, none⟩ = some (.slice A0_0 l0_0.length c0_0) := (blk_cell BK205.out 0).trans rfl
    have hcz16_1 : wr.cell? ⟨gb205, 1, none⟩ = some (.int .i64 a0_1) := (blk_cell BK205.out 1).trans rfl
    have hfz16_0 := blk_frozen BK205.out 0
    have hfz16_1 := blk_frozen BK205.out 1
    go_wp2
    go_ret
    exact ⟨_, by first | rfl | (simp [errW_none, errW_some] <;> rfl) | (simp [*, errW_none, errW_some] <;> rfl), by (with_reducible repeat (first | apply Kd.R_alloc | apply Kd.R_drewN | apply Kd.R_drew)); exact HO_7.out, by repeat (first | (with_reducible first | exact HB.out | apply below_alloc | apply pw_below_drewN | apply below_drew1 | refine below_set ?_ GE205.out) | exact HB.out)⟩
end Go.Proofs.Ytflndiikeoflfaa.P
end
section
namespace Go.Proofs.Ytflndiikeoflfaa.P
open Go.RowKit Go.Proofs.YtflndiikeoflfaaW.PrintWords Go.Proofs.YtflndiikeoflfaaW.PrintLast Go.Proofs.YtflndiikeoflfaaW.PrintMore
attribute [local go_sem] max2_int min2_int max_two min_two max_three min_three max_four min_four
set_option linter.unusedVariables false
set_option linter.unusedSimpArgs false
mutual
def assartref08_Held.l0 : Nat → List Int → List ByteArray → List Bool → Int → List (S38) → Int → Option (List Bool)
 | 0, _, _, _, _, _, _ => none
 | k + 1, x1, x2, x7, x8, x212000, x212001 => if x8 < (x212000.length : Int) then ((assartref08_outside.f k x1 x2 x8).bind fun t215 => (if 0 ≤ x8 then (if x8 < (x7.length : Int) then (assartref08_Held.l0 k x1 x2 (x7.set (x8 : Int).toNat (decide (t215 > 0))) (wrap64 (x8 + 1)) x212000 x212001) else (none)) else (none))) else (assartref08_Held.l1 k x2 x7 0 x212000 x212001)
def assartref08_Held.l1 : Nat → List ByteArray → List Bool → Int → List (S38) → Int → Option (List Bool)
 | 0, _, _, _, _, _ => none
 | k + 1, x2, x7, x9, x212000, x212001 => if x9 < 25 then ((some (([] : List Bool) : List Bool)).bind fun y217 => (if y217.length + x7.length < 140737488355328 then (assartref08_Held.l2 k x2 x7 x9 (y217 ++ x7) 0 x212000 x212001) else (none))) else (some x7)
def assartref08_Held.l2 : Nat → List ByteArray → List Bool → Int → List Bool → Int → List (S38) → Int → Option (List Bool)
 | 0, _, _, _, _, _, _, _ => none
 | k + 1, x2, x7, x9, x10, x11, x212000, x212001 => if x11 < (x212000.length : Int) then (assartref08_Held.l3 k x2 x7 x9 x10 x11 0 x212000 x212001) else (assartref08_Held.l1 k x2 x10 (wrap64 (x9 + 1)) x212000 x212001)
def assartref08_Held.l3 : Nat → List ByteArray → List Bool → Int → List Bool → Int → Int → List (S38) → Int → Option (List Bool)
 | 0, _, _, _, _, _, _, _, _ => none
 | k + 1, x2, x7, x9, x10, x11, x12, x212000, x212001 => if x12 < (x212000.length : Int) then (if 0 ≤ x11 then (if x11 < (x7.length : Int) then (assartref08_Held.j4 k x2 x7 x9 x10 x11 x12 (rdOf false x7 x11) x212000 x212001) else (none)) else (none)) else (assartref08_Held.j4 k x2 x7 x9 x10 x11 x12 false x212000 x212001)
def assartref08_Held.j4 : Nat → List ByteArray → List Bool → Int → List Bool → Int → Int → Bool → List (S38) → Int → Option (List Bool)
 | 0, _, _, _, _, _, _, _, _, _ => none
 | k + 1, x2, x7, x9, x10, x11, x12, x56, x212000, x212001 => if x56 = true then ((assartref08_Tells.f k x212000 x212001 x2 x11 x12).bind fun t224 => (if t224 > 0 then (if 0 ≤ x12 then (if x12 < (x10.length : Int) then (assartref08_Held.l3 k x2 x7 x9 (x10.set (x12 : Int).toNat true) x11 (wrap64 (x12 + 1)) x212000 x212001) else (none)) else (none)) else (assartref08_Held.l3 k x2 x7 x9 x10 x11 (wrap64 (x12 + 1)) x212000 x212001))) else (assartref08_Held.l2 k x2 x7 x9 x10 (wrap64 (x11 + 1)) x212000 x212001)
end
def assartref08_Held.f (k : Nat) (l0_0 : List (S38)) (a0_1 : Int) (l1 : List Int) (l2 : List ByteArray) : Option (List Bool) := if 0 ≤ (l0_0.length : Int) then (if ((l0_0.length : Int) : Int).toNat ≤ 281474976710656 then (assartref08_Held.l0 k l1 l2 (List.replicate ((l0_0.length : Int) : Int).toNat false) 0 l0_0 a0_1) else (none)) else (none)
set_option maxHeartbeats 8000000 in
set_option maxRecDepth 100000 in
theorem assartref08_Held.calls (k : Nat) (A0_0 : Option Addr) (c0_0 : Nat) (l0_0 : List (S38)) (a0_1 : Int) (A1 : Option Addr) (c1 : Nat) (l1 : List Int) (A2 : Option Addr) (c2 : Nat) (l2 : List ByteArray) (r : List Bool) (w : World) (hr0_0 : Kd.C k38 w A0_0 l0_0.length l0_0) (hc0_0 : l0_0.length ≤ c0_0) (hr1 : Kd.C (Kd.int .i64) w A1 l1.length l1) (hc1 : l1.length ≤ c1) (hr2 : Kd.C Kd.string w A2 l2.length l2) (hc2 : l2.length ≤ c2) (h : assartref08_Held.f k l0_0 a0_1 l1 l2 = some r) :
  Calls Try.prog 26 #[.agg #[.slice A0_0 l0_0.length c0_0, .int .i64 a0_1], .slice A1 l1.length c1, .slice A2 l2.length c2] w fun e w' => ∃ v0_ : Value, e = .returned (v0_) ∧ Kd.R Kd.bool 4 w' w.heap.size (fun _ => True) v0_ r ∧ Below w.heap.size w w' := by
 have hu24 := Try.underlying24
 have HR0_0 := Aside0.mk hr0_0
 have HC0_0 := Aside0.mk hc0_0
 clear hr0_0 hc0_0
 have HR1 := Aside0.mk hr1
 have HC1 := Aside0.mk hc1
 clear hr1 hc1
 have HR2 := Aside0.mk hr2
 have HC2 := Aside0.mk hc2
 clear hr2 hc2
 have HB := Aside0.mk (Below.refl w.heap.size w)
 have H : (if 0 ≤ (l0_0.length : Int) then (if ((l0_0.length : Int) : Int).toNat ≤ 281474976710656 then (assartref08_Held.l0 k l1 l2 (List.replicate ((l0_0.length : Int) : Int).toNat false) 0 l0_0 a0_1) else (none)) else (none)) = some r := h
 clear h
 by_cases c4 : 0 ≤ (l0_0.length : Int)
 ·rw [if_pos c4] at H
  have c4b0 := eq_true c4
  have c4b1 : decide (0 ≤ (l0_0.length : Int)) = true := decide_eq_true c4
  clear c4
  by_cases c5 : ((l0_0.length : Int) : Int).toNat ≤ 281474976710656
  ·rw [if_pos c5] at H
   have c5b0 := eq_true c5
   have c5b1 : decide (((l0_0.length : Int) : Int).toNat ≤ 281474976710656) = true := decide_eq_true c5
   clear c5
   obtain ⟨y212, hy212⟩ : ∃ y_ : List Bool, y_ = (List.replicate ((l0_0.length : Int) : Int).toNat false) := ⟨_, rfl⟩
   replace H : (assartref08_Held.l0 k l1 l2 y212 0 l0_0 a0_1) = some r := by first | (rw [hy212]; with_reducible exact H) | (have H2_ := (Option.bind_some _ _).symm.trans H; rw [hy212]; with_reducible exact H2_) | (have H2_ := (Option.bind_some _ _).symm.trans H; with_reducible exact H2_) | with_reducible exact H | (rw [hy212]; exact H) | exact H
   have Ny212 := Aside0.mk hy212
   clear hy212
   have H' := Aside0.mk H
   clear H
   go_enter Try.func26, Try.ntmps26
   go_wp2_with (first | ((with_reducible refine gate_dst (N := 3) rfl ?_); refine box_event ?hg (N := 3) ?hd (cs := #[.slice A0_0 l0_0.length c0_0, .int .i64 a0_1]) (t := 24) ?hr ?_; (case hd => rfl); (case hg => rfl); (case hr => first | (go_simp; done) | (go_simp; rfl)); intro gb211 hg w6 hbox hb; have n0_ := Aside0.mk (below_step (by repeat (first | (with_reducible first | exact HB.out | apply below_alloc | apply pw_below_drewN | apply below_drew1) | exact HB.out)) hb); have n1_ := Aside0.mk (hbox); have n2_ := Aside0.mk ((by rw [hg]; exact (below_size (by repeat (first | (with_reducible first | exact HB.out | apply below_alloc | apply pw_below_drewN | apply below_drew1) | exact HB.out))) : w.heap.size ≤ gb211)); have n3_ := Aside0.mk ((by rw [hg]; exact (below_size (by repeat (first | (with_reducible first | exact HB.out | apply below_alloc | apply pw_below_drewN | apply below_drew1) | exact HB.out))) : w.heap.size ≤ gb211)); clear HB; have HB := n0_; have BK211 := n1_; have GW211 := n2_; have GE211 := n3_; clear n0_ n1_ n2_ n3_; clear hb hbox hg; have hcz7_0 : w6.cell? ⟨gb211, 0, none⟩ = some (.slice A0_0 l0_0.length c0_0) := (blk_cell BK211.out 0).trans rfl; have hcz7_1 : w6.cell? ⟨gb211, 1, none⟩ = some (.int .i64 a0_1) := (blk_cell BK211.out 1).trans rfl; have hfz7_0 := blk_frozen BK211.out 0; have hfz7_1 := blk_frozen BK211.out 1) | ((with_reducible refine gate_dst (N := 16) rfl ?_); refine Kd.R_make Kd.bool _ 4 rfl (N := 16) rfl 63 _ _ rfl (l0_0.length : Int) rfl rfl Try.underlying63 (.bool false) 1 info4 rfl (by decide) (by omega) false (ok := fun _ => True) (okp := fun _ => True) rfl (fun _ hk => hk) trivial (of_decide_eq_true (by first | (with_reducible assumption) | assumption)) (Nat.le_trans (Nat.mul_le_mul_right _ (of_decide_eq_true (by first | (with_reducible assumption) | assumption) : (l0_0.length : Int).toNat ≤ 281474976710656)) (by omega)) (Below.refl _ _) (Nat.le_refl _) ?_; intro v213 w8 ho9 hb hg_ hnew_; clear hg_ hnew_; (first | rw [← Ny212.out] at ho9 | (simp only [Int.reduceToNat] at ho9; rw [← Ny212.out] at ho9)); have n0_ := Aside0.mk (Kd.R_lower ho9 (below_size (by repeat (first | (with_reducible first | exact HB.out | apply below_alloc | apply pw_below_drewN | apply below_drew1 | refine below_set ?_ GE211.out) | exact HB.out)))); have n1_ := Aside0.mk (blk_below (g := gb211) (o := .cells #[.slice A0_0 l0_0.length c0_0, .int .i64 a0_1] 24 (0, 0)) (by (with_reducible repeat (first | refine blk_drewN ?_ _ | refine blk_drew ?_ | refine blk_alloc ?_ _)); exact BK211.out) hb); have n2_ := Aside0.mk (below_step (by repeat (first | (with_reducible first | exact HB.out | apply below_alloc | apply pw_below_drewN | apply below_drew1 | refine below_set ?_ GE211.out) | exact HB.out)) hb); clear BK211; clear HB; have HO214 := n0_; have BK211 := n1_; have HB := n2_; clear n0_ n1_ n2_; clear hb ho9))
   go_loopg [8] k (fun kq v8 w' => ∃ (x7_1 : List Bool) (x8_1 : Int), v8 = .int .i64 x8_1 ∧ Aside0 (assartref08_Held.l0 kq l1 l2 x7_1 x8_1 l0_0 a0_1 = some r) ∧ Aside0 (kq ≤ k) ∧ Aside0 (Kd.R Kd.bool 4 w' w.heap.size (fun _ => True) v213 x7_1) ∧ Aside0 (w'.heap[gb211]? = some (.cells #[(.slice A0_0 l0_0.length c0_0), .int .i64 a0_1] 24 (0, 0))) ∧ Aside0 (Below w.heap.size w w'))
   case atStart => exact ⟨(y212), (0), (by first | rfl | (simp; done) | (simp [*]; done)), H', ⟨Nat.le_refl _⟩, ⟨by (with_reducible repeat (first | apply Kd.R_alloc | apply Kd.R_drewN | apply Kd.R_drew)); exact HO214.out⟩, ⟨by (with_reducible repeat (first | refine blk_drewN ?_ _ | refine blk_drew ?_ | refine blk_alloc ?_ _)); exact BK211.out⟩, ⟨by repeat (first | (with_reducible first | exact HB.out | apply below_alloc | apply pw_below_drewN | apply below_drew1 | refine below_set ?_ GE211.out) | exact HB.out)⟩⟩
   case round =>
    clear H'
    try clear c1
    try clear c2
    try clear p2
    try clear c4
    try clear c4b0
    try clear c4b1
    try clear c5
    try clear c5b0
    try clear c5b1
    try clear hcz7_0
    try clear hcz7_1
    try clear hfz7_0
    try clear hfz7_1
    obtain ⟨x7_1, x8_1, rfl, HA, HK1, HO_7, BK211, HB⟩ := hrel
    cases gk with
    | zero => exact absurd HA.out (by simp [assartref08_Held.l0])
    | succ k1 =>
     have H := HA.out
     clear HA
     simp only [assartref08_Held.l0] at H
     by_cases c10 : x8_1 < (l0_0.length : Int)
     ·rw [if_pos c10] at H
      have c10b0 : decide (x8_1 < (l0_0.length : Int)) = true := decide_eq_true c10
      clear c10
      replace H := Option.bind_eq_some_iff.mp H
      obtain ⟨t215, A110, H⟩ := H
      replace H : (if 0 ≤ x8_1 then (if x8_1 < (x7_1.length : Int) then (assartref08_Held.l0 k1 l1 l2 (x7_1.set (x8_1 : Int).toNat (decide (t215 > 0))) (wrap64 (x8_1 + 1)) l0_0 a0_1) else (none)) else (none)) = some r := H
      have A11 := Aside0.mk A110
      clear A110
      by_cases c12 : 0 ≤ x8_1
      ·rw [if_pos c12] at H
       have c12b0 : decide (0 ≤ x8_1) = true := decide_eq_true c12
       clear c12
       by_cases c13 : x8_1 < (x7_1.length : Int)
       ·rw [if_pos c13] at H
        have c13b0 : decide (x8_1 < (x7_1.length : Int)) = true := decide_eq_true c13
        clear c13
        obtain ⟨y216, hy216⟩ : ∃ y_ : List Bool, y_ = (x7_1.set (x8_1 : Int).toNat (decide (t215 > 0))) := ⟨_, rfl⟩
        replace H : (assartref08_Held.l0 k1 l1 l2 y216 (wrap64 (x8_1 + 1)) l0_0 a0_1) = some r := by first | (rw [hy216]; with_reducible exact H) | (have H2_ := (Option.bind_some _ _).symm.trans H; rw [hy216]; with_reducible exact H2_) | (have H2_ := (Option.bind_some _ _).symm.trans H; with_reducible exact H2_) | with_reducible exact H | (rw [hy216]; exact H) | exact H
        have Ny216 := Aside0.mk hy216
        clear hy216
        have H' := Aside0.mk H
        clear H
        have hcz15_0 : wr.cell? ⟨gb211, 0, none⟩ = some (.slice A0_0 l0_0.length c0_0) := (blk_cell BK211.out 0).trans rfl
        have hcz15_1 : wr.cell? ⟨gb211, 1, none⟩ = some (.int .i64 a0_1) := (blk_cell BK211.out 1).trans rfl
        have hfz15_0 := blk_frozen BK211.out 0
        have hfz15_1 := blk_frozen BK211.out 1
        go_wp2_with (first | ((with_reducible refine gate_callee (f := 38) rfl ?_); refine goesL_ (some 29) rfl rfl Try.func38 (by kernel_rfl) rfl #[.slice A1 l1.length c1, .slice A2 l2.length c2, .int .i64 x8_1] rfl (by (try simp only [List.map_toArray, List.map_cons, List.map_nil]); first | done | rfl | (simp only [List.length_drop, List.length_take]; rfl)) ?_; (with_reducible refine (assartref08_outside.calls k1 _ _ l1 _ _ l2 x8_1 t215 _ ?side1 ?side2 ?side3 ?side4 A11.out).mono ?_); (case side1 => repeat (first | exact (Kd.C_below HR1.out HB.out) | (with_reducible refine Kd.C_alloc ?_ _) | (with_reducible refine Kd.C_drewN ?_ _) | (with_reducible refine Kd.C_drew ?_))); (case side2 => exact HC1.out); (case side3 => repeat (first | exact (Kd.C_below HR2.out HB.out) | (with_reducible refine Kd.C_alloc ?_ _) | (with_reducible refine Kd.C_drewN ?_ _) | (with_reducible refine Kd.C_drew ?_))); (case side4 => exact HC2.out); rintro e w16 ⟨rfl, hb⟩; refine ⟨_, rfl, ?_⟩; have n0_ := Aside0.mk (Kd.R_below (by (with_reducible repeat (first | apply Kd.R_alloc | apply Kd.R_drewN | apply Kd.R_drew)); exact HO_7.out) hb); have n1_ := Aside0.mk (blk_below (g := gb211) (o := .cells #[.slice A0_0 l0_0.length c0_0, .int .i64 a0_1] 24 (0, 0)) (by (with_reducible repeat (first | refine blk_drewN ?_ _ | refine blk_drew ?_ | refine blk_alloc ?_ _)); exact BK211.out) hb); have n2_ := Aside0.mk (below_step (by repeat (first | (with_reducible first | exact HB.out | apply below_alloc | apply pw_below_drewN | apply below_drew1 | refine below_set ?_ GE211.out) | exact HB.out)) hb); clear HO_7; clear BK211; clear HB; have HO_7 := n0_; have BK211 := n1_; have HB := n2_; clear n0_ n1_ n2_; (try clear hb); (try clear hb2); (try clear hk); (try clear hi); have p14 : 0 ≤ (x8_1 : Int) := of_decide_eq_true (by first | (with_reducible assumption) | assumption); have q14 : (x8_1 : Int) < ((x7_1.length : Int) : Int) := of_decide_eq_true (by first | (with_reducible assumption) | assumption); obtain ⟨go14, co14, eo14, gb14, gl14, cl14, HG14⟩ := Kd.R_form HO_7.out (by omega); (first | cases eo14 | (injection eo14 with ea_ en_ ec_; (first | subst ea_ | (injection ea_ with ea_; subst ea_)); subst ec_; clear en_)); have GB14 := Aside0.mk gb14; have GG14 := Aside0.mk HG14; clear gb14 gl14 HG14; obtain ⟨hx14_0, hf14_0⟩ := Kd.R_celln false HO_7.out (x8_1 : Int) p14 q14; replace p14 := eq_true p14; replace q14 := eq_true q14; obtain ⟨hy17_, hz17_⟩ := Kd.R_celln false HO_7.out (x8_1 : Int) (of_decide_eq_true (by first | (with_reducible assumption) | assumption)) (of_decide_eq_true (by first | (with_reducible assumption) | assumption)); have HP17 := Kd.R_putg HO_7.out (x8_1 : Int) (decide (t215 > 0))) | ((with_reducible refine gate_store (t := 4) (p := 31) rfl ?_); refine store_event (t := 4) (p := 31) (v := ?vo_w18) (w1 := (w16.setCell ⟨go14, (x8_1 : Int).toNat, none⟩ (.bool (decide (t215 > 0))))) ?hg ?ho ?hn ?hr ?_; (case ho => rfl); (case hg => rfl); (case hn => rfl); (case hr => first | (go_simp; done) | (go_simp; rfl)); intro w18 hw; have hg : w16.grownBy w18 (some go14) := (by rw [hw]; exact HP17.2); have hp_ : Kd.R Kd.bool 4 w18 w.heap.size (fun _ => True) (.slice (some ⟨go14, 0, none⟩) x7_1.length co14) y216 := (by rw [hw, Ny216.out]; exact HP17.1); clear HP17; have n0_ := Aside0.mk (hp_); have n1_ := Aside0.mk (blk_grown (g := gb211) (o := .cells #[.slice A0_0 l0_0.length c0_0, .int .i64 a0_1] 24 (0, 0)) (by (with_reducible repeat (first | refine blk_drewN ?_ _ | refine blk_drew ?_ | refine blk_alloc ?_ _)); exact BK211.out) hg (Kd.R_ne HO_7.out BK211.out (by decide))); have n2_ := Aside0.mk ((by rw [hw]; exact below_set (HB.out) GB14.out : Below w.heap.size w w18)); clear HO_7; clear BK211; clear HB; have HO_7 := n0_; have BK211 := n1_; have HB := n2_; clear n0_ n1_ n2_; clear hg hw hp_))
        go_roundg k1
        case measure => have := HK1.out; omega
        case rel => exact ⟨(y216), (wrap64 (x8_1 + 1)), (by first | rfl | (simp; done) | (simp [*]; done)), H', ⟨by have := HK1.out; omega⟩, ⟨by (with_reducible repeat (first | apply Kd.R_alloc | apply Kd.R_drewN | apply Kd.R_drew)); exact HO_7.out⟩, ⟨by (with_reducible repeat (first | refine blk_drewN ?_ _ | refine blk_drew ?_ | refine blk_alloc ?_ _)); exact BK211.out⟩, ⟨by repeat (first | (with_reducible first | exact HB.out | apply below_alloc | apply pw_below_drewN | apply below_drew1 | refine below_set ?_ GE211.out) | exact HB.out)⟩⟩
       ·rw [if_neg c13] at H
        exact absurd H (by simp)
      ·rw [if_neg c12] at H
       exact absurd H (by simp)
     ·rw [if_neg c10] at H
      have c10b0 : decide (x8_1 < (l0_0.length : Int)) = false := decide_eq_false c10
      clear c10
      have H' := Aside0.mk H
      clear H
      have hcz19_0 : wr.cell? ⟨gb211, 0, none⟩ = some (.slice A0_0 l0_0.length c0_0) := (blk_cell BK211.out 0).trans rfl
      have hcz19_1 : wr.cell? ⟨gb211, 1, none⟩ = some (.int .i64 a0_1) := (blk_cell BK211.out 1).trans rfl
      have hfz19_0 := blk_frozen BK211.out 0
      have hfz19_1 := blk_frozen BK211.out 1
      go_wp2
      go_loopg [7, 9] k1 (fun kq v7 v9 w' => ∃ (x7_2 : List Bool) (x9_2 : Int), v9 = .int .i64 x9_2 ∧ Aside0 (assartref08_Held.l1 kq l2 x7_2 x9_2 l0_0 a0_1 = some r) ∧ Aside0 (kq ≤ k1) ∧ Aside0 (Kd.R Kd.bool 4 w' w.heap.size (fun _ => True) v7 x7_2) ∧ Aside0 (w'.heap[gb211]? = some (.cells #[(.slice A0_0 l0_0.length c0_0), .int .i64 a0_1] 24 (0, 0))) ∧ Aside0 (Below w.heap.size w w'))
      case atStart => exact ⟨(x7_1), (0), (by first | rfl | (simp; done) | (simp [*]; done)), H', ⟨Nat.le_refl _⟩, ⟨by (with_reducible repeat (first | apply Kd.R_alloc | apply Kd.R_drewN | apply Kd.R_drew)); exact HO_7.out⟩, ⟨by (with_reducible repeat (first | refine blk_drewN ?_ _ | refine blk_drew ?_ | refine blk_alloc ?_ _)); exact BK211.out⟩, ⟨by repeat (first | (with_reducible first | exact HB.out | apply below_alloc | apply pw_below_drewN | apply below_drew1 | refine below_set ?_ GE211.out) | exact HB.out)⟩⟩
      case round =>
       clear H'
       try clear c1
       try clear p1
       try clear q1
       try clear hx1
       try clear c2
       try clear p2
       try clear c3
       try clear c4
       try clear c4b0
       try clear c4b1
       try clear c5
       try clear c5b0
       try clear c5b1
       try clear p6
       try clear c10
       try clear c10b0
       try clear c12
       try clear c12b0
       try clear c13
       try clear c13b0
       try clear p14
       try clear q14
       try clear hx14
       try clear hf14
       try clear hcz15_0
       try clear hcz15_1
       try clear hcz19_0
       try clear hcz19_1
       try clear hcz7_0
       try clear hcz7_1
       try clear hfz15_0
       try clear hfz15_1
       try clear hfz19_0
       try clear hfz19_1
       try clear hfz7_0
       try clear hfz7_1
       try clear hx14_0
       try clear p14
       try clear p2
       try clear q14
       obtain ⟨x7_2, x9_2, rfl, HA, HK2, HO_7, BK211, HB⟩ := hrel
       cases gk with
       | zero => exact absurd HA.out (by simp [assartref08_Held.l1])
       | succ k2 =>
        have H := HA.out
        clear HA
        simp only [assartref08_Held.l1] at H
        by_cases c20 : x9_2 < 25
        ·rw [if_pos c20] at H
         have c20b0 : decide (x9_2 < 25) = true := decide_eq_true c20
         clear c20
         obtain ⟨y217, hy217⟩ : ∃ y_ : List Bool, y_ = (([] : List Bool)) := ⟨_, rfl⟩
         replace H : (if y217.length + x7_2.length < 140737488355328 then (assartref08_Held.l2 k2 l2 x7_2 x9_2 (y217 ++ x7_2) 0 l0_0 a0_1) else (none)) = some r := by first | (rw [hy217]; with_reducible exact H) | (have H2_ := (Option.bind_some _ _).symm.trans H; rw [hy217]; with_reducible exact H2_) | (have H2_ := (Option.bind_some _ _).symm.trans H; with_reducible exact H2_) | with_reducible exact H | (rw [hy217]; exact H) | exact H
         have Ny217 := Aside0.mk hy217
         clear hy217
         by_cases c21 : y217.length + x7_2.length < 140737488355328
         ·rw [if_pos c21] at H
          have LMc21 := Aside0.mk c21
          clear c21
          obtain ⟨y220, hy220⟩ : ∃ y_ : List Bool, y_ = (y217 ++ x7_2) := ⟨_, rfl⟩
          replace H : (assartref08_Held.l2 k2 l2 x7_2 x9_2 y220 0 l0_0 a0_1) = some r := by first | (rw [hy220]; with_reducible exact H) | (have H2_ := (Option.bind_some _ _).symm.trans H; rw [hy220]; with_reducible exact H2_) | (have H2_ := (Option.bind_some _ _).symm.trans H; with_reducible exact H2_) | with_reducible exact H | (rw [hy220]; exact H) | exact H
          have Ny220 := Aside0.mk hy220
          clear hy220
          have H' := Aside0.mk H
          clear H
          go_wp2_with (first | ((with_reducible refine gate_dst (N := 36) rfl ?_); refine Kd.R_lit Kd.bool _ 4 ?hg (N := 36) ?hd (xs := ([] : List Bool)) (inner := []) (ok := fun _ => True) (okp := fun _ => True) ?hr ?hp (fun _ hk => hk) trivial (Below.refl _ _) (Nat.le_refl _) (by simp) ?_; (case hd => rfl); (case hg => rfl); (case hr => first | (go_simp; done) | (go_simp; rfl)); (case hp => exact (Reps.none _ _)); intro v218 w22 ho23 hb hg_ hnew_; clear hg_ hnew_; (first | rw [← Ny217.out] at ho23 | (simp only [Int.reduceToNat] at ho23; rw [← Ny217.out] at ho23)); have n0_ := Aside0.mk (Kd.R_elder' (by (with_reducible repeat (first | apply Kd.R_alloc | apply Kd.R_drewN | apply Kd.R_drew)); exact HO_7.out) (Kd.R_base ho23) hb); have n1_ := Aside0.mk (Kd.R_lower (Kd.R_new' ho23 (Kd.R_lt (by (with_reducible repeat (first | apply Kd.R_alloc | apply Kd.R_drewN | apply Kd.R_drew)); exact HO_7.out))) (below_size (by repeat (first | (with_reducible first | exact HB.out | apply below_alloc | apply pw_below_drewN | apply below_drew1 | refine below_set ?_ GE211.out) | exact HB.out)))); have n2_ := Aside0.mk (blk_below (g := gb211) (o := .cells #[.slice A0_0 l0_0.length c0_0, .int .i64 a0_1] 24 (0, 0)) (by (with_reducible repeat (first | refine blk_drewN ?_ _ | refine blk_drew ?_ | refine blk_alloc ?_ _)); exact BK211.out) hb); have n3_ := Aside0.mk (below_step (by repeat (first | (with_reducible first | exact HB.out | apply below_alloc | apply pw_below_drewN | apply below_drew1 | refine below_set ?_ GE211.out) | exact HB.out)) hb); clear HO_7; clear BK211; clear HB; have HO_7 := n0_; have HO219 := n1_; have BK211 := n2_; have HB := n3_; clear n0_ n1_ n2_ n3_; clear hb ho23; obtain ⟨Ao25, co25, eo25⟩ := Kd.R_slice HO_7.out; subst eo25) | ((with_reducible refine gate_builtin (b := .append) (xs := #[.tmp 36, .tmp 37]) rfl ?_); at_builtin; refine Kd.R_append_rows Kd.bool (w0 := w) w.heap.size rfl (.tmp 36) (.tmp 37) 63 4 (.bool false) 1 rfl Try.underlying63 info4 rfl (by decide) (by omega) v218 y217 x7_2 _ _ _ (fun k_ => some k_ ≠ (.slice Ao25 x7_2.length co25 : Value).ownBlock) (fun _ => False) rfl rfl ?aO ?aR (fun _ _ h => h) (fun _ h => h.elim) ?aF ?aB ?aS ?aL ?_; (case aR => repeat (first | exact (Kd.R_reads' HO_7.out).2.2 | (with_reducible refine Kd.C_alloc ?_ _) | (with_reducible refine Kd.C_drewN ?_ _) | (with_reducible refine Kd.C_drew ?_))); (case aB => exact (by repeat (first | (with_reducible first | exact HB.out | apply below_alloc | apply pw_below_drewN | apply below_drew1 | refine below_set ?_ GE211.out) | exact HB.out))); (case aF => exact (fun k_ hk => Kd.fresh' (Kd.R_lt (by (with_reducible repeat (first | apply Kd.R_alloc | apply Kd.R_drewN | apply Kd.R_drew)); exact HO_7.out)) k_ hk)); (case aO => exact (by (with_reducible repeat (first | apply Kd.R_alloc | apply Kd.R_drewN | apply Kd.R_drew)); exact Kd.R_mono HO219.out (fun _ hk => hk.2))); (case aS => exact (below_size (by repeat (first | (with_reducible first | exact HB.out | apply below_alloc | apply pw_below_drewN | apply below_drew1 | refine below_set ?_ GE211.out) | exact HB.out)))); (case aL => have := LMc21.out; omega); intro v221 w24 ho hb hg hat; rw [← Ny220.out] at ho; have n0_ := Aside0.mk (Kd.R_after (ok := (fun _ => True)) (by (with_reducible repeat (first | apply Kd.R_alloc | apply Kd.R_drewN | apply Kd.R_drew)); exact HO_7.out) hg hat); have n1_ := Aside0.mk (blk_grown (g := gb211) (o := .cells #[.slice A0_0 l0_0.length c0_0, .int .i64 a0_1] 24 (0, 0)) (by (with_reducible repeat (first | refine blk_drewN ?_ _ | refine blk_drew ?_ | refine blk_alloc ?_ _)); exact BK211.out) hg (Kd.R_ne HO219.out BK211.out (by decide))); have n2_ := Aside0.mk (hb); have n3_ := Aside0.mk (ho); clear HO_7; clear BK211; clear HB; clear HO219; have HO_7 := n0_; have BK211 := n1_; have HB := n2_; have HO222 := n3_; clear n0_ n1_ n2_ n3_; clear ho hb hg hat))
          go_loopg [11] k2 (fun kq v11 w' => ∃ (x10_3 : List Bool) (x11_3 : Int), v11 = .int .i64 x11_3 ∧ Aside0 (assartref08_Held.l2 kq l2 x7_2 x9_2 x10_3 x11_3 l0_0 a0_1 = some r) ∧ Aside0 (kq ≤ k2) ∧ Aside0 (Kd.R Kd.bool 4 w' w.heap.size (fun k_ => some k_ ≠ (v221 : Value).ownBlock) (.slice Ao25 x7_2.length co25) x7_2) ∧ Aside0 (Kd.R Kd.bool 4 w' w.heap.size (fun k_ => some k_ ≠ ((.slice Ao25 x7_2.length co25) : Value).ownBlock) v221 x10_3) ∧ Aside0 (w'.heap[gb211]? = some (.cells #[(.slice A0_0 l0_0.length c0_0), .int .i64 a0_1] 24 (0, 0))) ∧ Aside0 (Below w.heap.size w w'))
          case atStart => exact ⟨(y220), (0), (by first | rfl | (simp; done) | (simp [*]; done)), H', ⟨Nat.le_refl _⟩, ⟨by (with_reducible repeat (first | apply Kd.R_alloc | apply Kd.R_drewN | apply Kd.R_drew)); exact Kd.R_mono HO_7.out (fun _ hk => hk.2)⟩, ⟨by (with_reducible repeat (first | apply Kd.R_alloc | apply Kd.R_drewN | apply Kd.R_drew)); exact HO222.out⟩, ⟨by (with_reducible repeat (first | refine blk_drewN ?_ _ | refine blk_drew ?_ | refine blk_alloc ?_ _)); exact BK211.out⟩, ⟨by repeat (first | (with_reducible first | exact HB.out | apply below_alloc | apply pw_below_drewN | apply below_drew1 | refine below_set ?_ GE211.out) | exact HB.out)⟩⟩
          case round =>
           clear H'
           try clear c1
           try clear p1
           try clear q1
           try clear hx1
           try clear c2
           try clear p2
           try clear c3
           try clear c4
           try clear c4b0
           try clear c4b1
           try clear c5
           try clear c5b0
           try clear c5b1
           try clear p6
           try clear c10
           try clear c10b0
           try clear c12
           try clear c12b0
           try clear c13
           try clear c13b0
           try clear p14
           try clear q14
           try clear hx14
           try clear hf14
           try clear c20
           try clear c20b0
           try clear c21
           try clear hcz15_0
           try clear hcz15_1
           try clear hcz19_0
           try clear hcz19_1
           try clear hcz7_0
           try clear hcz7_1
           try clear hfz15_0
           try clear hfz15_1
           try clear hfz19_0
           try clear hfz19_1
           try clear hfz7_0
           try clear hfz7_1
           try clear hx14_0
           try clear p1
           try clear p14
           try clear p2
           try clear p6
           try clear q1
           try clear q14
           obtain ⟨x10_3, x11_3, rfl, HA, HK3, HO_7, HO_10, BK211, HB⟩ := hrel
           cases gk with
           | zero => exact absurd HA.out (by simp [assartref08_Held.l2])
           | succ k3 =>
            have H := HA.out
            clear HA
            simp only [assartref08_Held.l2] at H
            by_cases c26 : x11_3 < (l0_0.length : Int)
            ·rw [if_pos c26] at H
             have c26b0 : decide (x11_3 < (l0_0.length : Int)) = true := decide_eq_true c26
             clear c26
             have H' := Aside0.mk H
             clear H
             have hcz27_0 : wr.cell? ⟨gb211, 0, none⟩ = some (.slice A0_0 l0_0.length c0_0) := (blk_cell BK211.out 0).trans rfl
             have hcz27_1 : wr.cell? ⟨gb211, 1, none⟩ = some (.int .i64 a0_1) := (blk_cell BK211.out 1).trans rfl
             have hfz27_0 := blk_frozen BK211.out 0
             have hfz27_1 := blk_frozen BK211.out 1
             go_wp2
             go_loopg [12] k3 (fun kq v12 w' => ∃ (x10_4 : List Bool) (x12_4 : Int), v12 = .int .i64 x12_4 ∧ Aside0 (assartref08_Held.l3 kq l2 x7_2 x9_2 x10_4 x11_3 x12_4 l0_0 a0_1 = some r) ∧ Aside0 (kq ≤ k3) ∧ Aside0 (Kd.R Kd.bool 4 w' w.heap.size (fun k_ => some k_ ≠ (v221 : Value).ownBlock) (.slice Ao25 x7_2.length co25) x7_2) ∧ Aside0 (Kd.R Kd.bool 4 w' w.heap.size (fun k_ => some k_ ≠ ((.slice Ao25 x7_2.length co25) : Value).ownBlock) v221 x10_4) ∧ Aside0 (w'.heap[gb211]? = some (.cells #[(.slice A0_0 l0_0.length c0_0), .int .i64 a0_1] 24 (0, 0))) ∧ Aside0 (Below w.heap.size w w'))
             case atStart => exact ⟨(x10_3), (0), (by first | rfl | (simp; done) | (simp [*]; done)), H', ⟨Nat.le_refl _⟩, ⟨by (with_reducible repeat (first | apply Kd.R_alloc | apply Kd.R_drewN | apply Kd.R_drew)); exact HO_7.out⟩, ⟨by (with_reducible repeat (first | apply Kd.R_alloc | apply Kd.R_drewN | apply Kd.R_drew)); exact HO_10.out⟩, ⟨by (with_reducible repeat (first | refine blk_drewN ?_ _ | refine blk_drew ?_ | refine blk_alloc ?_ _)); exact BK211.out⟩, ⟨by repeat (first | (with_reducible first | exact HB.out | apply below_alloc | apply pw_below_drewN | apply below_drew1 | refine below_set ?_ GE211.out) | exact HB.out)⟩⟩
             case round =>
              clear H'
              try clear c1
              try clear p1
              try clear q1
              try clear hx1
              try clear c2
              try clear p2
              try clear c3
              try clear c4
              try clear c4b0
              try clear c4b1
              try clear c5
              try clear c5b0
              try clear c5b1
              try clear p6
              try clear c10
              try clear c10b0
              try clear c12
              try clear c12b0
              try clear c13
              try clear c13b0
              try clear p14
              try clear q14
              try clear hx14
              try clear hf14
              try clear c20
              try clear c20b0
              try clear c21
              try clear c26
              try clear c26b0
              try clear hcz15_0
              try clear hcz15_1
              try clear hcz19_0
              try clear hcz19_1
              try clear hcz27_0
              try clear hcz27_1
              try clear hcz7_0
              try clear hcz7_1
              try clear hfz15_0
              try clear hfz15_1
              try clear hfz19_0
              try clear hfz19_1
              try clear hfz27_0
              try clear hfz27_1
              try clear hfz7_0
              try clear hfz7_1
              try clear hx14_0
              try clear p1
              try clear p14
              try clear p2
              try clear p6
              try clear q1
              try clear q14
              obtain ⟨x10_4, x12_4, rfl, HA, HK4, HO_7, HO_10, BK211, HB⟩ := hrel
              cases gk with
              | zero => exact absurd HA.out (by simp [assartref08_Held.l3])
              | succ k4 =>
               have H := HA.out
               clear HA
               simp only [assartref08_Held.l3] at H
               have HC28 := Aside0.mk H
               clear H
               go_upto_region 14 with (fail)
               go_cut [56] (fun v56 wc => ∃ (kq : Nat) (x56_27 : Bool), v56 = .bool x56_27 ∧ Aside0 (assartref08_Held.j4 kq l2 x7_2 x9_2 x10_4 x11_3 x12_4 x56_27 l0_0 a0_1 = some r) ∧ Aside0 (kq ≤ k4) ∧ Aside0 (Kd.R Kd.bool 4 wc w.heap.size (fun k_ => some k_ ≠ (v221 : Value).ownBlock) (.slice Ao25 x7_2.length co25) x7_2) ∧ Aside0 (Kd.R Kd.bool 4 wc w.heap.size (fun k_ => some k_ ≠ ((.slice Ao25 x7_2.length co25) : Value).ownBlock) v221 x10_4) ∧ Aside0 (wc.heap[gb211]? = some (.cells #[(.slice A0_0 l0_0.length c0_0), .int .i64 a0_1] 24 (0, 0))) ∧ Aside0 (Below w.heap.size w wc))
               case first =>
                have H := HC28.out
                clear HC28
                by_cases c29 : x12_4 < (l0_0.length : Int)
                ·rw [if_pos c29] at H
                 have c29b0 : decide (x12_4 < (l0_0.length : Int)) = true := decide_eq_true c29
                 clear c29
                 (first | rw [c29b0] | (simp only [i64_w, i32_w]; rw [c29b0]) | skip)
                 by_cases c30 : 0 ≤ x11_3
                 ·rw [if_pos c30] at H
                  have c30b0 : decide (0 ≤ x11_3) = true := decide_eq_true c30
                  clear c30
                  by_cases c31 : x11_3 < (x7_2.length : Int)
                  ·rw [if_pos c31] at H
                   have c31b0 : decide (x11_3 < (x7_2.length : Int)) = true := decide_eq_true c31
                   clear c31
                   have H' := Aside0.mk H
                   clear H
                   have hcz32_0 : wr.cell? ⟨gb211, 0, none⟩ = some (.slice A0_0 l0_0.length c0_0) := (blk_cell BK211.out 0).trans rfl
                   have hcz32_1 : wr.cell? ⟨gb211, 1, none⟩ = some (.int .i64 a0_1) := (blk_cell BK211.out 1).trans rfl
                   have hfz32_0 := blk_frozen BK211.out 0
                   have hfz32_1 := blk_frozen BK211.out 1
                   have p223 : 0 ≤ (x11_3 : Int) := of_decide_eq_true (by first | (with_reducible assumption) | assumption)
                   have q223 : x11_3 < (x7_2.length : Int) := of_decide_eq_true (by first | (with_reducible assumption) | assumption)
                   obtain ⟨ad223, e223, hx223_0⟩ := Kd.at_bool (Kd.R_reads' HO_7.out).2.2 x11_3 p223 q223
                   cases e223
                   replace p223 := eq_true p223
                   replace q223 := eq_true q223
                   go_wp2
                   go_meet
                   case rel => exact ⟨_, (rdOf false x7_2 x11_3), (by first | rfl | (simp; done) | (simp [*]; done)), H', ⟨by have := HK1.out; have := HK2.out; have := HK3.out; have := HK4.out; first | omega | exact Nat.le_refl _⟩, ⟨by (with_reducible repeat (first | apply Kd.R_alloc | apply Kd.R_drewN | apply Kd.R_drew)); exact HO_7.out⟩, ⟨by (with_reducible repeat (first | apply Kd.R_alloc | apply Kd.R_drewN | apply Kd.R_drew)); exact HO_10.out⟩, ⟨by (with_reducible repeat (first | refine blk_drewN ?_ _ | refine blk_drew ?_ | refine blk_alloc ?_ _)); exact BK211.out⟩, ⟨by repeat (first | (with_reducible first | exact HB.out | apply below_alloc | apply pw_below_drewN | apply below_drew1 | refine below_set ?_ GE211.out) | exact HB.out)⟩⟩
                  ·rw [if_neg c31] at H
                   exact absurd H (by simp)
                 ·rw [if_neg c30] at H
                  exact absurd H (by simp)
                ·rw [if_neg c29] at H
                 have c29b0 : decide (x12_4 < (l0_0.length : Int)) = false := decide_eq_false c29
                 clear c29
                 (first | rw [c29b0] | (simp only [i64_w, i32_w]; rw [c29b0]) | skip)
                 have H' := Aside0.mk H
                 clear H
                 have hcz33_0 : wr.cell? ⟨gb211, 0, none⟩ = some (.slice A0_0 l0_0.length c0_0) := (blk_cell BK211.out 0).trans rfl
                 have hcz33_1 : wr.cell? ⟨gb211, 1, none⟩ = some (.int .i64 a0_1) := (blk_cell BK211.out 1).trans rfl
                 have hfz33_0 := blk_frozen BK211.out 0
                 have hfz33_1 := blk_frozen BK211.out 1
                 go_wp2
                 go_meet
                 case rel => exact ⟨_, (false), (by first | rfl | (simp; done) | (simp [*]; done)), H', ⟨by have := HK1.out; have := HK2.out; have := HK3.out; have := HK4.out; first | omega | exact Nat.le_refl _⟩, ⟨by (with_reducible repeat (first | apply Kd.R_alloc | apply Kd.R_drewN | apply Kd.R_drew)); exact HO_7.out⟩, ⟨by (with_reducible repeat (first | apply Kd.R_alloc | apply Kd.R_drewN | apply Kd.R_drew)); exact HO_10.out⟩, ⟨by (with_reducible repeat (first | refine blk_drewN ?_ _ | refine blk_drew ?_ | refine blk_alloc ?_ _)); exact BK211.out⟩, ⟨by repeat (first | (with_reducible first | exact HB.out | apply below_alloc | apply pw_below_drewN | apply below_drew1 | refine below_set ?_ GE211.out) | exact HB.out)⟩⟩
               case rest =>
                clear HC28
                try clear c1
                try clear p1
                try clear q1
                try clear hx1
                try clear c2
                try clear p2
                try clear q2
                try clear hx2
                try clear c3
                try clear c4
                try clear c4b0
                try clear c4b1
                try clear c5
                try clear c5b0
                try clear c5b1
                try clear p6
                try clear c10
                try clear c10b0
                try clear c12
                try clear c12b0
                try clear c13
                try clear c13b0
                try clear p14
                try clear q14
                try clear hx14
                try clear hf14
                try clear c20
                try clear c20b0
                try clear c21
                try clear p22
                try clear q22
                try clear hx22
                try clear c26
                try clear c26b0
                try clear c29
                try clear c29b0
                try clear c30
                try clear c30b0
                try clear c31
                try clear c31b0
                try clear hcz15_0
                try clear hcz15_1
                try clear hcz19_0
                try clear hcz19_1
                try clear hcz27_0
                try clear hcz27_1
                try clear hcz32_0
                try clear hcz32_1
                try clear hcz33_0
                try clear hcz33_1
                try clear hcz7_0
                try clear hcz7_1
                try clear hfz15_0
                try clear hfz15_1
                try clear hfz19_0
                try clear hfz19_1
                try clear hfz27_0
                try clear hfz27_1
                try clear hfz32_0
                try clear hfz32_1
                try clear hfz33_0
                try clear hfz33_1
                try clear hfz7_0
                try clear hfz7_1
                try clear hx14_0
                try clear hx223_0
                try clear p1
                try clear p14
                try clear p2
                try clear p223
                try clear p6
                try clear q1
                try clear q14
                try clear q223
                obtain ⟨kq, x56_27, rfl, HA, HJ27, HO_7, HO_10, BK211, HB⟩ := hcut
                cases kq with
                | zero => exact absurd HA.out (by simp [assartref08_Held.j4])
                | succ kj27 =>
                 have H := HA.out
                 clear HA
                 simp only [assartref08_Held.j4] at H
                 by_cases c34 : x56_27 = true
                 ·subst c34
                  have H1 : ((assartref08_Tells.f kj27 l0_0 a0_1 l2 x11_3 x12_4).bind fun t224 => (if t224 > 0 then (if 0 ≤ x12_4 then (if x12_4 < (x10_4.length : Int) then (assartref08_Held.l3 kj27 l2 x7_2 x9_2 (x10_4.set (x12_4 : Int).toNat true) x11_3 (wrap64 (x12_4 + 1)) l0_0 a0_1) else (none)) else (none)) else (assartref08_Held.l3 kj27 l2 x7_2 x9_2 x10_4 x11_3 (wrap64 (x12_4 + 1)) l0_0 a0_1))) = some r := by rw [if_pos rfl] at H; exact H
                  clear H
                  have H := H1
                  clear H1
                  replace H := Option.bind_eq_some_iff.mp H
                  obtain ⟨t224, A350, H⟩ := H
                  replace H : (if t224 > 0 then (if 0 ≤ x12_4 then (if x12_4 < (x10_4.length : Int) then (assartref08_Held.l3 kj27 l2 x7_2 x9_2 (x10_4.set (x12_4 : Int).toNat true) x11_3 (wrap64 (x12_4 + 1)) l0_0 a0_1) else (none)) else (none)) else (assartref08_Held.l3 kj27 l2 x7_2 x9_2 x10_4 x11_3 (wrap64 (x12_4 + 1)) l0_0 a0_1)) = some r := H
                  have A35 := Aside0.mk A350
                  clear A350
                  by_cases c36 : t224 > 0
                  ·rw [if_pos c36] at H
                   have c36b0 : decide (0 < t224) = true := decide_eq_true c36
                   clear c36
                   by_cases c37 : 0 ≤ x12_4
                   ·rw [if_pos c37] at H
                    have c37b0 : decide (0 ≤ x12_4) = true := decide_eq_true c37
                    clear c37
                    by_cases c38 : x12_4 < (x10_4.length : Int)
                    ·rw [if_pos c38] at H
                     have c38b0 : decide (x12_4 < (x10_4.length : Int)) = true := decide_eq_true c38
                     clear c38
                     obtain ⟨y225, hy225⟩ : ∃ y_ : List Bool, y_ = (x10_4.set (x12_4 : Int).toNat true) := ⟨_, rfl⟩
                     replace H : (assartref08_Held.l3 kj27 l2 x7_2 x9_2 y225 x11_3 (wrap64 (x12_4 + 1)) l0_0 a0_1) = some r := by first | (rw [hy225]; with_reducible exact H) | (have H2_ := (Option.bind_some _ _).symm.trans H; rw [hy225]; with_reducible exact H2_) | (have H2_ := (Option.bind_some _ _).symm.trans H; with_reducible exact H2_) | with_reducible exact H | (rw [hy225]; exact H) | exact H
                     have Ny225 := Aside0.mk hy225
                     clear hy225
                     have H' := Aside0.mk H
                     clear H
                     have hcz40_0 : wc.cell? ⟨gb211, 0, none⟩ = some (.slice A0_0 l0_0.length c0_0) := (blk_cell BK211.out 0).trans rfl
                     have hcz40_1 : wc.cell? ⟨gb211, 1, none⟩ = some (.int .i64 a0_1) := (blk_cell BK211.out 1).trans rfl
                     have hfz40_0 := blk_frozen BK211.out 0
                     have hfz40_1 := blk_frozen BK211.out 1
                     go_wp2_with (first | ((with_reducible refine gate_callee (f := 39) rfl ?_); refine goesL_ (some 63) rfl rfl Try.func39 (by kernel_rfl) rfl #[.agg #[.slice A0_0 l0_0.length c0_0, .int .i64 a0_1], .slice A2 l2.length c2, .int .i64 x11_3, .int .i64 x12_4] rfl (by (try simp only [List.map_toArray, List.map_cons, List.map_nil]); first | done | rfl | (simp only [List.length_drop, List.length_take]; rfl)) ?_; (with_reducible refine (assartref08_Tells.calls kj27 _ _ l0_0 a0_1 _ _ l2 x11_3 x12_4 t224 _ ?side1 ?side2 ?side3 ?side4 A35.out).mono ?_); (case side1 => repeat (first | exact (Kd.C_below HR0_0.out HB.out) | (with_reducible refine Kd.C_alloc ?_ _) | (with_reducible refine Kd.C_drewN ?_ _) | (with_reducible refine Kd.C_drew ?_))); (case side2 => exact HC0_0.out); (case side3 => repeat (first | exact (Kd.C_below HR2.out HB.out) | (with_reducible refine Kd.C_alloc ?_ _) | (with_reducible refine Kd.C_drewN ?_ _) | (with_reducible refine Kd.C_drew ?_))); (case side4 => exact HC2.out); rintro e w41 ⟨rfl, hb⟩; refine ⟨_, rfl, ?_⟩; have n0_ := Aside0.mk (Kd.R_below (by (with_reducible repeat (first | apply Kd.R_alloc | apply Kd.R_drewN | apply Kd.R_drew)); exact HO_7.out) hb); have n1_ := Aside0.mk (Kd.R_below (by (with_reducible repeat (first | apply Kd.R_alloc | apply Kd.R_drewN | apply Kd.R_drew)); exact HO_10.out) hb); have n2_ := Aside0.mk (blk_below (g := gb211) (o := .cells #[.slice A0_0 l0_0.length c0_0, .int .i64 a0_1] 24 (0, 0)) (by (with_reducible repeat (first | refine blk_drewN ?_ _ | refine blk_drew ?_ | refine blk_alloc ?_ _)); exact BK211.out) hb); have n3_ := Aside0.mk (below_step (by repeat (first | (with_reducible first | exact HB.out | apply below_alloc | apply pw_below_drewN | apply below_drew1 | refine below_set ?_ GE211.out) | exact HB.out)) hb); clear HO_7; clear HO_10; clear BK211; clear HB; have HO_7 := n0_; have HO_10 := n1_; have BK211 := n2_; have HB := n3_; clear n0_ n1_ n2_ n3_; (try clear hb); (try clear hb2); (try clear hk); (try clear hi); have p39 : 0 ≤ (x12_4 : Int) := of_decide_eq_true (by first | (with_reducible assumption) | assumption); have q39 : (x12_4 : Int) < ((x10_4.length : Int) : Int) := of_decide_eq_true (by first | (with_reducible assumption) | assumption); obtain ⟨go39, co39, eo39, gb39, gl39, cl39, HG39⟩ := Kd.R_form HO_10.out (by omega); (first | cases eo39 | (injection eo39 with ea_ en_ ec_; (first | subst ea_ | (injection ea_ with ea_; subst ea_)); subst ec_; clear en_)); have GB39 := Aside0.mk gb39; have GG39 := Aside0.mk HG39; clear gb39 gl39 HG39; obtain ⟨hx39_0, hf39_0⟩ := Kd.R_celln false HO_10.out (x12_4 : Int) p39 q39; replace p39 := eq_true p39; replace q39 := eq_true q39; obtain ⟨hy42_, hz42_⟩ := Kd.R_celln false HO_10.out (x12_4 : Int) (of_decide_eq_true (by first | (with_reducible assumption) | assumption)) (of_decide_eq_true (by first | (with_reducible assumption) | assumption)); have HP42 := Kd.R_putg HO_10.out (x12_4 : Int) true) | ((with_reducible refine gate_store (t := 4) (p := 67) rfl ?_); refine store_event (t := 4) (p := 67) (v := ?vo_w43) (w1 := (w41.setCell ⟨go39, (x12_4 : Int).toNat, none⟩ (.bool true))) ?hg ?ho ?hn ?hr ?_; (case ho => rfl); (case hg => rfl); (case hn => rfl); (case hr => first | (go_simp; done) | (go_simp; rfl)); intro w43 hw; have hg : w41.grownBy w43 (some go39) := (by rw [hw]; exact HP42.2); have hp_ : Kd.R Kd.bool 4 w43 w.heap.size (fun k_ => some k_ ≠ (.slice Ao25 x7_2.length co25 : Value).ownBlock) (.slice (some ⟨go39, 0, none⟩) x10_4.length co39) y225 := (by rw [hw, Ny225.out]; exact HP42.1); clear HP42; have n0_ := Aside0.mk (Kd.R_after (v := (.slice (some ⟨go39, 0, none⟩) x10_4.length co39)) (v1 := (.slice (some ⟨go39, 0, none⟩) x10_4.length co39)) (ok := (fun _ => True)) (by (with_reducible repeat (first | apply Kd.R_alloc | apply Kd.R_drewN | apply Kd.R_drew)); exact Kd.R_mono HO_7.out (fun _ hk => ⟨trivial, hk⟩)) hg (.inl rfl)); have n1_ := Aside0.mk (hp_); have n2_ := Aside0.mk (blk_grown (g := gb211) (o := .cells #[.slice A0_0 l0_0.length c0_0, .int .i64 a0_1] 24 (0, 0)) (by (with_reducible repeat (first | refine blk_drewN ?_ _ | refine blk_drew ?_ | refine blk_alloc ?_ _)); exact BK211.out) hg (Kd.R_ne HO_10.out BK211.out (by decide))); have n3_ := Aside0.mk ((by rw [hw]; exact below_set (HB.out) GB39.out : Below w.heap.size w w43)); clear HO_7; clear HO_10; clear BK211; clear HB; have HO_7 := n0_; have HO_10 := n1_; have BK211 := n2_; have HB := n3_; clear n0_ n1_ n2_ n3_; clear hg hw hp_))
                     go_roundg kj27
                     case measure => have := HK1.out; have := HK2.out; have := HK3.out; have := HK4.out; have := HJ27.out; omega
                     case rel => exact ⟨(y225), (wrap64 (x12_4 + 1)), (by first | rfl | (simp; done) | (simp [*]; done)), H', ⟨by have := HK1.out; have := HK2.out; have := HK3.out; have := HK4.out; have := HJ27.out; omega⟩, ⟨by (with_reducible repeat (first | apply Kd.R_alloc | apply Kd.R_drewN | apply Kd.R_drew)); exact Kd.R_mono HO_7.out (fun _ hk => hk.2)⟩, ⟨by (with_reducible repeat (first | apply Kd.R_alloc | apply Kd.R_drewN | apply Kd.R_drew)); exact HO_10.out⟩, ⟨by (with_reducible repeat (first | refine blk_drewN ?_ _ | refine blk_drew ?_ | refine blk_alloc ?_ _)); exact BK211.out⟩, ⟨by repeat (first | (with_reducible first | exact HB.out | apply below_alloc | apply pw_below_drewN | apply below_drew1 | refine below_set ?_ GE211.out) | exact HB.out)⟩⟩
                    ·rw [if_neg c38] at H
                     exact absurd H (by simp)
                   ·rw [if_neg c37] at H
                    exact absurd H (by simp)
                  ·rw [if_neg c36] at H
                   have c36b0 : decide (0 < t224) = false := decide_eq_false c36
                   clear c36
                   have H' := Aside0.mk H
                   clear H
                   have hcz44_0 : wc.cell? ⟨gb211, 0, none⟩ = some (.slice A0_0 l0_0.length c0_0) := (blk_cell BK211.out 0).trans rfl
                   have hcz44_1 : wc.cell? ⟨gb211, 1, none⟩ = some (.int .i64 a0_1) := (blk_cell BK211.out 1).trans rfl
                   have hfz44_0 := blk_frozen BK211.out 0
                   have hfz44_1 := blk_frozen BK211.out 1
                   go_wp2_with (first | ((with_reducible refine gate_callee (f := 39) rfl ?_); refine goesL_ (some 63) rfl rfl Try.func39 (by kernel_rfl) rfl #[.agg #[.slice A0_0 l0_0.length c0_0, .int .i64 a0_1], .slice A2 l2.length c2, .int .i64 x11_3, .int .i64 x12_4] rfl (by (try simp only [List.map_toArray, List.map_cons, List.map_nil]); first | done | rfl | (simp only [List.length_drop, List.length_take]; rfl)) ?_; (with_reducible refine (assartref08_Tells.calls kj27 _ _ l0_0 a0_1 _ _ l2 x11_3 x12_4 t224 _ ?side1 ?side2 ?side3 ?side4 A35.out).mono ?_); (case side1 => repeat (first | exact (Kd.C_below HR0_0.out HB.out) | (with_reducible refine Kd.C_alloc ?_ _) | (with_reducible refine Kd.C_drewN ?_ _) | (with_reducible refine Kd.C_drew ?_))); (case side2 => exact HC0_0.out); (case side3 => repeat (first | exact (Kd.C_below HR2.out HB.out) | (with_reducible refine Kd.C_alloc ?_ _) | (with_reducible refine Kd.C_drewN ?_ _) | (with_reducible refine Kd.C_drew ?_))); (case side4 => exact HC2.out); rintro e w45 ⟨rfl, hb⟩; refine ⟨_, rfl, ?_⟩; have n0_ := Aside0.mk (Kd.R_below (by (with_reducible repeat (first | apply Kd.R_alloc | apply Kd.R_drewN | apply Kd.R_drew)); exact HO_7.out) hb); have n1_ := Aside0.mk (Kd.R_below (by (with_reducible repeat (first | apply Kd.R_alloc | apply Kd.R_drewN | apply Kd.R_drew)); exact HO_10.out) hb); have n2_ := Aside0.mk (blk_below (g := gb211) (o := .cells #[.slice A0_0 l0_0.length c0_0, .int .i64 a0_1] 24 (0, 0)) (by (with_reducible repeat (first | refine blk_drewN ?_ _ | refine blk_drew ?_ | refine blk_alloc ?_ _)); exact BK211.out) hb); have n3_ := Aside0.mk (below_step (by repeat (first | (with_reducible first | exact HB.out | apply below_alloc | apply pw_below_drewN | apply below_drew1 | refine below_set ?_ GE211.out) | exact HB.out)) hb); clear HO_7; clear HO_10; clear BK211; clear HB; have HO_7 := n0_; have HO_10 := n1_; have BK211 := n2_; have HB := n3_; clear n0_ n1_ n2_ n3_; (try clear hb); (try clear hb2); (try clear hk); (try clear hi)))
                   go_roundg kj27
                   case measure => have := HK1.out; have := HK2.out; have := HK3.out; have := HK4.out; have := HJ27.out; omega
                   case rel => exact ⟨(x10_4), (wrap64 (x12_4 + 1)), (by first | rfl | (simp; done) | (simp [*]; done)), H', ⟨by have := HK1.out; have := HK2.out; have := HK3.out; have := HK4.out; have := HJ27.out; omega⟩, ⟨by (with_reducible repeat (first | apply Kd.R_alloc | apply Kd.R_drewN | apply Kd.R_drew)); exact HO_7.out⟩, ⟨by (with_reducible repeat (first | apply Kd.R_alloc | apply Kd.R_drewN | apply Kd.R_drew)); exact HO_10.out⟩, ⟨by (with_reducible repeat (first | refine blk_drewN ?_ _ | refine blk_drew ?_ | refine blk_alloc ?_ _)); exact BK211.out⟩, ⟨by repeat (first | (with_reducible first | exact HB.out | apply below_alloc | apply pw_below_drewN | apply below_drew1 | refine below_set ?_ GE211.out) | exact HB.out)⟩⟩
                 ·replace c34 := Bool.eq_false_iff.mpr c34
                  subst c34
                  have H1 : (assartref08_Held.l2 kj27 l2 x7_2 x9_2 x10_4 (wrap64 (x11_3 + 1)) l0_0 a0_1) = some r := by rw [if_neg (show ¬ (false = true) by decide)] at H; exact H
                  clear H
                  have H := H1
                  clear H1
                  have H' := Aside0.mk H
                  clear H
                  go_wp2
                  go_roundg kj27
                  case measure => have := HK1.out; have := HK2.out; have := HK3.out; have := HK4.out; have := HJ27.out; omega
                  case rel => exact ⟨(x10_4), (wrap64 (x11_3 + 1)), (by first | rfl | (simp; done) | (simp [*]; done)), H', ⟨by have := HK1.out; have := HK2.out; have := HK3.out; have := HK4.out; have := HJ27.out; omega⟩, ⟨by (with_reducible repeat (first | apply Kd.R_alloc | apply Kd.R_drewN | apply Kd.R_drew)); exact HO_7.out⟩, ⟨by (with_reducible repeat (first | apply Kd.R_alloc | apply Kd.R_drewN | apply Kd.R_drew)); exact HO_10.out⟩, ⟨by (with_reducible repeat (first | refine blk_drewN ?_ _ | refine blk_drew ?_ | refine blk_alloc ?_ _)); exact BK211.out⟩, ⟨by repeat (first | (with_reducible first | exact HB.out | apply below_alloc | apply pw_below_drewN | apply below_drew1 | refine below_set ?_ GE211.out) | exact HB.out)⟩⟩
            ·rw [if_neg c26] at H
             have c26b0 : decide (x11_3 < (l0_0.length : Int)) = false := decide_eq_false c26
             clear c26
             have H' := Aside0.mk H
             clear H
             have hcz46_0 : wr.cell? ⟨gb211, 0, none⟩ = some (.slice A0_0 l0_0.length c0_0) := (blk_cell BK211.out 0).trans rfl
             have hcz46_1 : wr.cell? ⟨gb211, 1, none⟩ = some (.int .i64 a0_1) := (blk_cell BK211.out 1).trans rfl
             have hfz46_0 := blk_frozen BK211.out 0
             have hfz46_1 := blk_frozen BK211.out 1
             go_wp2
             go_roundg k3
             case measure => have := HK1.out; have := HK2.out; have := HK3.out; omega
             case rel => exact ⟨(x10_3), (wrap64 (x9_2 + 1)), (by first | rfl | (simp; done) | (simp [*]; done)), H', ⟨by have := HK1.out; have := HK2.out; have := HK3.out; omega⟩, ⟨by (with_reducible repeat (first | apply Kd.R_alloc | apply Kd.R_drewN | apply Kd.R_drew)); exact Kd.R_mono HO_10.out (fun _ hk => trivial)⟩, ⟨by (with_reducible repeat (first | refine blk_drewN ?_ _ | refine blk_drew ?_ | refine blk_alloc ?_ _)); exact BK211.out⟩, ⟨by repeat (first | (with_reducible first | exact HB.out | apply below_alloc | apply pw_below_drewN | apply below_drew1 | refine below_set ?_ GE211.out) | exact HB.out)⟩⟩
         ·rw [if_neg c21] at H
          exact absurd H (by simp)
        ·rw [if_neg c20] at H
         have c20b0 : decide (x9_2 < 25) = false := decide_eq_false c20
         clear c20
         obtain rfl := Option.some.inj H
         go_wp2
         go_ret
         exact ⟨_, by first | rfl | (simp [errW_none, errW_some] <;> rfl) | (simp [*, errW_none, errW_some] <;> rfl), by (with_reducible repeat (first | apply Kd.R_alloc | apply Kd.R_drewN | apply Kd.R_drew)); exact HO_7.out, by repeat (first | (with_reducible first | exact HB.out | apply below_alloc | apply pw_below_drewN | apply below_drew1 | refine below_set ?_ GE211.out) | exact HB.out)⟩
  ·rw [if_neg c5] at H
   exact absurd H (by simp)
 ·rw [if_neg c4] at H
  exact absurd H (by simp)
end Go.Proofs.Ytflndiikeoflfaa.P
end
section
namespace Go.Proofs.Ytflndiikeoflfaa.P
open Go.RowKit Go.Proofs.YtflndiikeoflfaaW.PrintWords Go.Proofs.YtflndiikeoflfaaW.PrintLast Go.Proofs.YtflndiikeoflfaaW.PrintMore
attribute [local go_sem] max2_int min2_int max_two min_two max_three min_three max_four min_four
set_option linter.unusedVariables false
set_option linter.unusedSimpArgs false
def assartref08_Sound.l0 : Nat → List Int → List Bool → Int → List (S38) → Int → Option (Bool)
 | 0, _, _, _, _, _ => none
 | k + 1, x7, x8, x9, x227000, x227001 => if x9 < (x227000.length : Int) then (if 0 ≤ x9 then (if x9 < (x7.length : Int) then (if ((rd_T38 x227000 x9).f0) = (rd x7 x9) then (if x9 < (x8.length : Int) then (if ((rdOf false x8 x9) != (decide (((rd_T38 x227000 x9).f0) > 0))) = true then (some false) else (assartref08_Sound.l0 k x7 x8 (wrap64 (x9 + 1)) x227000 x227001)) else (none)) else (some false)) else (none)) else (none)) else (some true)
def assartref08_Sound.f (k : Nat) (l0_0 : List (S38)) (a0_1 : Int) (l1 : List Int) (l2 : List ByteArray) : Option (Bool) := (assartref08_Refs.f k l0_0 a0_1 l1 l2).bind fun t227 => ((assartref08_Held.f k l0_0 a0_1 l1 l2).bind fun t230 => (assartref08_Sound.l0 k t227 t230 0 l0_0 a0_1))
set_option maxHeartbeats 8000000 in
set_option maxRecDepth 100000 in
theorem assartref08_Sound.calls (k : Nat) (A0_0 : Option Addr) (c0_0 : Nat) (l0_0 : List (S38)) (a0_1 : Int) (A1 : Option Addr) (c1 : Nat) (l1 : List Int) (A2 : Option Addr) (c2 : Nat) (l2 : List ByteArray) (r : Bool) (w : World) (hr0_0 : Kd.C k38 w A0_0 l0_0.length l0_0) (hc0_0 : l0_0.length ≤ c0_0) (hr1 : Kd.C (Kd.int .i64) w A1 l1.length l1) (hc1 : l1.length ≤ c1) (hr2 : Kd.C Kd.string w A2 l2.length l2) (hc2 : l2.length ≤ c2) (h : assartref08_Sound.f k l0_0 a0_1 l1 l2 = some r) :
  Calls Try.prog 15 #[.agg #[.slice A0_0 l0_0.length c0_0, .int .i64 a0_1], .slice A1 l1.length c1, .slice A2 l2.length c2] w fun e w' => e = .returned (.bool r) ∧ Below w.heap.size w w' := by
 have hu24 := Try.underlying24
 have HR0_0 := Aside0.mk hr0_0
 have HC0_0 := Aside0.mk hc0_0
 clear hr0_0 hc0_0
 have HR1 := Aside0.mk hr1
 have HC1 := Aside0.mk hc1
 clear hr1 hc1
 have HR2 := Aside0.mk hr2
 have HC2 := Aside0.mk hc2
 clear hr2 hc2
 have HB := Aside0.mk (Below.refl w.heap.size w)
 have H : ((assartref08_Refs.f k l0_0 a0_1 l1 l2).bind fun t227 => ((assartref08_Held.f k l0_0 a0_1 l1 l2).bind fun t230 => (assartref08_Sound.l0 k t227 t230 0 l0_0 a0_1))) = some r := h
 clear h
 replace H := Option.bind_eq_some_iff.mp H
 obtain ⟨t227, A40, H⟩ := H
 replace H : ((assartref08_Held.f k l0_0 a0_1 l1 l2).bind fun t230 => (assartref08_Sound.l0 k t227 t230 0 l0_0 a0_1)) = some r := H
 have A4 := Aside0.mk A40
 clear A40
 replace H := Option.bind_eq_some_iff.mp H
 obtain ⟨t230, A50, H⟩ := H
 replace H : (assartref08_Sound.l0 k t227 t230 0 l0_0 a0_1) = some r := H
 have A5 := Aside0.mk A50
 clear A50
 have H' := Aside0.mk H
 clear H
 go_enter Try.func15, Try.ntmps15
 go_wp2_with (first | ((with_reducible refine gate_dst (N := 3) rfl ?_); refine box_event ?hg (N := 3) ?hd (cs := #[.slice A0_0 l0_0.length c0_0, .int .i64 a0_1]) (t := 24) ?hr ?_; (case hd => rfl); (case hg => rfl); (case hr => first | (go_simp; done) | (go_simp; rfl)); intro gb226 hg w6 hbox hb; have n0_ := Aside0.mk (below_step (by repeat (first | (with_reducible first | exact HB.out | apply below_alloc | apply pw_below_drewN | apply below_drew1) | exact HB.out)) hb); have n1_ := Aside0.mk (hbox); have n2_ := Aside0.mk ((by rw [hg]; exact (below_size (by repeat (first | (with_reducible first | exact HB.out | apply below_alloc | apply pw_below_drewN | apply below_drew1) | exact HB.out))) : w.heap.size ≤ gb226)); have n3_ := Aside0.mk ((by rw [hg]; exact (below_size (by repeat (first | (with_reducible first | exact HB.out | apply below_alloc | apply pw_below_drewN | apply below_drew1) | exact HB.out))) : w.heap.size ≤ gb226)); clear HB; have HB := n0_; have BK226 := n1_; have GW226 := n2_; have GE226 := n3_; clear n0_ n1_ n2_ n3_; clear hb hbox hg; have hcz7_0 : w6.cell? ⟨gb226, 0, none⟩ = some (.slice A0_0 l0_0.length c0_0) := (blk_cell BK226.out 0).trans rfl; have hcz7_1 : w6.cell? ⟨gb226, 1, none⟩ = some (.int .i64 a0_1) := (blk_cell BK226.out 1).trans rfl; have hfz7_0 := blk_frozen BK226.out 0; have hfz7_1 := blk_frozen BK226.out 1) | (go_at_call 25; (with_reducible refine (assartref08_Refs.calls k _ _ l0_0 a0_1 _ _ l1 _ _ l2 t227 _ ?side1 ?side2 ?side3 ?side4 ?side5 ?side6 A4.out).mono ?_); (case side1 => repeat (first | exact (Kd.C_below HR0_0.out HB.out) | (with_reducible refine Kd.C_alloc ?_ _) | (with_reducible refine Kd.C_drewN ?_ _) | (with_reducible refine Kd.C_drew ?_))); (case side2 => exact HC0_0.out); (case side3 => repeat (first | exact (Kd.C_below HR1.out HB.out) | (with_reducible refine Kd.C_alloc ?_ _) | (with_reducible refine Kd.C_drewN ?_ _) | (with_reducible refine Kd.C_drew ?_))); (case side4 => exact HC1.out); (case side5 => repeat (first | exact (Kd.C_below HR2.out HB.out) | (with_reducible refine Kd.C_alloc ?_ _) | (with_reducible refine Kd.C_drewN ?_ _) | (with_reducible refine Kd.C_drew ?_))); (case side6 => exact HC2.out); rintro e w8 ⟨v228, rfl, ho0, hb⟩; have n0_ := Aside0.mk (Kd.R_lower ho0 (below_size (by repeat (first | (with_reducible first | exact HB.out | apply below_alloc | apply pw_below_drewN | apply below_drew1 | refine below_set ?_ GE226.out) | exact HB.out)))); have n1_ := Aside0.mk (blk_below (g := gb226) (o := .cells #[.slice A0_0 l0_0.length c0_0, .int .i64 a0_1] 24 (0, 0)) (by (with_reducible repeat (first | refine blk_drewN ?_ _ | refine blk_drew ?_ | refine blk_alloc ?_ _)); exact BK226.out) hb); have n2_ := Aside0.mk (below_step (by repeat (first | (with_reducible first | exact HB.out | apply below_alloc | apply pw_below_drewN | apply below_drew1 | refine below_set ?_ GE226.out) | exact HB.out)) hb); clear BK226; clear HB; have HO229 := n0_; have BK226 := n1_; have HB := n2_; clear n0_ n1_ n2_; (try clear hb); (try clear hb2); (try clear hk); (try clear hi); (try clear ho0); have hcz9_0 : w8.cell? ⟨gb226, 0, none⟩ = some (.slice A0_0 l0_0.length c0_0) := (blk_cell BK226.out 0).trans rfl; have hcz9_1 : w8.cell? ⟨gb226, 1, none⟩ = some (.int .i64 a0_1) := (blk_cell BK226.out 1).trans rfl; have hfz9_0 := blk_frozen BK226.out 0; have hfz9_1 := blk_frozen BK226.out 1) | (go_at_call 26; (with_reducible refine (assartref08_Held.calls k _ _ l0_0 a0_1 _ _ l1 _ _ l2 t230 _ ?side1 ?side2 ?side3 ?side4 ?side5 ?side6 A5.out).mono ?_); (case side1 => repeat (first | exact (Kd.C_below HR0_0.out HB.out) | (with_reducible refine Kd.C_alloc ?_ _) | (with_reducible refine Kd.C_drewN ?_ _) | (with_reducible refine Kd.C_drew ?_))); (case side2 => exact HC0_0.out); (case side3 => repeat (first | exact (Kd.C_below HR1.out HB.out) | (with_reducible refine Kd.C_alloc ?_ _) | (with_reducible refine Kd.C_drewN ?_ _) | (with_reducible refine Kd.C_drew ?_))); (case side4 => exact HC1.out); (case side5 => repeat (first | exact (Kd.C_below HR2.out HB.out) | (with_reducible refine Kd.C_alloc ?_ _) | (with_reducible refine Kd.C_drewN ?_ _) | (with_reducible refine Kd.C_drew ?_))); (case side6 => exact HC2.out); rintro e w10 ⟨v231, rfl, ho0, hb⟩; have n0_ := Aside0.mk (Kd.R_below (by (with_reducible repeat (first | apply Kd.R_alloc | apply Kd.R_drewN | apply Kd.R_drew)); exact HO229.out) hb); have n1_ := Aside0.mk (Kd.R_lower ho0 (below_size (by repeat (first | (with_reducible first | exact HB.out | apply below_alloc | apply pw_below_drewN | apply below_drew1 | refine below_set ?_ GE226.out) | exact HB.out)))); have n2_ := Aside0.mk (blk_below (g := gb226) (o := .cells #[.slice A0_0 l0_0.length c0_0, .int .i64 a0_1] 24 (0, 0)) (by (with_reducible repeat (first | refine blk_drewN ?_ _ | refine blk_drew ?_ | refine blk_alloc ?_ _)); exact BK226.out) hb); have n3_ := Aside0.mk (below_step (by repeat (first | (with_reducible first | exact HB.out | apply below_alloc | apply pw_below_drewN | apply below_drew1 | refine below_set ?_ GE226.out) | exact HB.out)) hb); clear HO229; clear BK226; clear HB; have HO229 := n0_; have HO232 := n1_; have BK226 := n2_; have HB := n3_; clear n0_ n1_ n2_ n3_; (try clear hb); (try clear hb2); (try clear hk); (try clear hi); (try clear ho0)))
 repeat (go_quiet (first | ((with_reducible refine gate_dst (N := 3) rfl ?_); refine box_event ?hg (N := 3) ?hd (cs := #[.slice A0_0 l0_0.length c0_0, .int .i64 a0_1]) (t := 24) ?hr ?_; (case hd => rfl); (case hg => rfl); (case hr => first | (go_simp; done) | (go_simp; rfl)); intro gb226 hg w6 hbox hb; have n0_ := Aside0.mk (below_step (by repeat (first | (with_reducible first | exact HB.out | apply below_alloc | apply pw_below_drewN | apply below_drew1) | exact HB.out)) hb); have n1_ := Aside0.mk (hbox); have n2_ := Aside0.mk ((by rw [hg]; exact (below_size (by repeat (first | (with_reducible first | exact HB.out | apply below_alloc | apply pw_below_drewN | apply below_drew1) | exact HB.out))) : w.heap.size ≤ gb226)); have n3_ := Aside0.mk ((by rw [hg]; exact (below_size (by repeat (first | (with_reducible first | exact HB.out | apply below_alloc | apply pw_below_drewN | apply below_drew1) | exact HB.out))) : w.heap.size ≤ gb226)); clear HB; have HB := n0_; have BK226 := n1_; have GW226 := n2_; have GE226 := n3_; clear n0_ n1_ n2_ n3_; clear hb hbox hg; have hcz7_0 : w6.cell? ⟨gb226, 0, none⟩ = some (.slice A0_0 l0_0.length c0_0) := (blk_cell BK226.out 0).trans rfl; have hcz7_1 : w6.cell? ⟨gb226, 1, none⟩ = some (.int .i64 a0_1) := (blk_cell BK226.out 1).trans rfl; have hfz7_0 := blk_frozen BK226.out 0; have hfz7_1 := blk_frozen BK226.out 1) | (go_at_call 25; (with_reducible refine (assartref08_Refs.calls k _ _ l0_0 a0_1 _ _ l1 _ _ l2 t227 _ ?side1 ?side2 ?side3 ?side4 ?side5 ?side6 A4.out).mono ?_); (case side1 => repeat (first | exact (Kd.C_below HR0_0.out HB.out) | (with_reducible refine Kd.C_alloc ?_ _) | (with_reducible refine Kd.C_drewN ?_ _) | (with_reducible refine Kd.C_drew ?_))); (case side2 => exact HC0_0.out); (case side3 => repeat (first | exact (Kd.C_below HR1.out HB.out) | (with_reducible refine Kd.C_alloc ?_ _) | (with_reducible refine Kd.C_drewN ?_ _) | (with_reducible refine Kd.C_drew ?_))); (case side4 => exact HC1.out); (case side5 => repeat (first | exact (Kd.C_below HR2.out HB.out) | (with_reducible refine Kd.C_alloc ?_ _) | (with_reducible refine Kd.C_drewN ?_ _) | (with_reducible refine Kd.C_drew ?_))); (case side6 => exact HC2.out); rintro e w8 ⟨v228, rfl, ho0, hb⟩; have n0_ := Aside0.mk (Kd.R_lower ho0 (below_size (by repeat (first | (with_reducible first | exact HB.out | apply below_alloc | apply pw_below_drewN | apply below_drew1 | refine below_set ?_ GE226.out) | exact HB.out)))); have n1_ := Aside0.mk (blk_below (g := gb226) (o := .cells #[.slice A0_0 l0_0.length c0_0, .int .i64 a0_1] 24 (0, 0)) (by (with_reducible repeat (first | refine blk_drewN ?_ _ | refine blk_drew ?_ | refine blk_alloc ?_ _)); exact BK226.out) hb); have n2_ := Aside0.mk (below_step (by repeat (first | (with_reducible first | exact HB.out | apply below_alloc | apply pw_below_drewN | apply below_drew1 | refine below_set ?_ GE226.out) | exact HB.out)) hb); clear BK226; clear HB; have HO229 := n0_; have BK226 := n1_; have HB := n2_; clear n0_ n1_ n2_; (try clear hb); (try clear hb2); (try clear hk); (try clear hi); (try clear ho0); have hcz9_0 : w8.cell? ⟨gb226, 0, none⟩ = some (.slice A0_0 l0_0.length c0_0) := (blk_cell BK226.out 0).trans rfl; have hcz9_1 : w8.cell? ⟨gb226, 1, none⟩ = some (.int .i64 a0_1) := (blk_cell BK226.out 1).trans rfl; have hfz9_0 := blk_frozen BK226.out 0; have hfz9_1 := blk_frozen BK226.out 1) | (go_at_call 26; (with_reducible refine (assartref08_Held.calls k _ _ l0_0 a0_1 _ _ l1 _ _ l2 t230 _ ?side1 ?side2 ?side3 ?side4 ?side5 ?side6 A5.out).mono ?_); (case side1 => repeat (first | exact (Kd.C_below HR0_0.out HB.out) | (with_reducible refine Kd.C_alloc ?_ _) | (with_reducible refine Kd.C_drewN ?_ _) | (with_reducible refine Kd.C_drew ?_))); (case side2 => exact HC0_0.out); (case side3 => repeat (first | exact (Kd.C_below HR1.out HB.out) | (with_reducible refine Kd.C_alloc ?_ _) | (with_reducible refine Kd.C_drewN ?_ _) | (with_reducible refine Kd.C_drew ?_))); (case side4 => exact HC1.out); (case side5 => repeat (first | exact (Kd.C_below HR2.out HB.out) | (with_reducible refine Kd.C_alloc ?_ _) | (with_reducible refine Kd.C_drewN ?_ _) | (with_reducible refine Kd.C_drew ?_))); (case side6 => exact HC2.out); rintro e w10 ⟨v231, rfl, ho0, hb⟩; have n0_ := Aside0.mk (Kd.R_below (by (with_reducible repeat (first | apply Kd.R_alloc | apply Kd.R_drewN | apply Kd.R_drew)); exact HO229.out) hb); have n1_ := Aside0.mk (Kd.R_lower ho0 (below_size (by repeat (first | (with_reducible first | exact HB.out | apply below_alloc | apply pw_below_drewN | apply below_drew1 | refine below_set ?_ GE226.out) | exact HB.out)))); have n2_ := Aside0.mk (blk_below (g := gb226) (o := .cells #[.slice A0_0 l0_0.length c0_0, .int .i64 a0_1] 24 (0, 0)) (by (with_reducible repeat (first | refine blk_drewN ?_ _ | refine blk_drew ?_ | refine blk_alloc ?_ _)); exact BK226.out) hb); have n3_ := Aside0.mk (below_step (by repeat (first | (with_reducible first | exact HB.out | apply below_alloc | apply pw_below_drewN | apply below_drew1 | refine below_set ?_ GE226.out) | exact HB.out)) hb); clear HO229; clear BK226; clear HB; have HO229 := n0_; have HO232 := n1_; have BK226 := n2_; have HB := n3_; clear n0_ n1_ n2_ n3_; (try clear hb); (try clear hb2); (try clear hk); (try clear hi); (try clear ho0))); try go_wp2_with (first | ((with_reducible refine gate_dst (N := 3) rfl ?_); refine box_event ?hg (N := 3) ?hd (cs := #[.slice A0_0 l0_0.length c0_0, .int .i64 a0_1]) (t := 24) ?hr ?_; (case hd => rfl); (case hg => rfl); (case hr => first | (go_simp; done) | (go_simp; rfl)); intro gb226 hg w6 hbox hb; have n0_ := Aside0.mk (below_step (by repeat (first | (with_reducible first | exact HB.out | apply below_alloc | apply pw_below_drewN | apply below_drew1) | exact HB.out)) hb); have n1_ := Aside0.mk (hbox); have n2_ := Aside0.mk ((by rw [hg]; exact (below_size (by repeat (first | (with_reducible first | exact HB.out | apply below_alloc | apply pw_below_drewN | apply below_drew1) | exact HB.out))) : w.heap.size ≤ gb226)); have n3_ := Aside0.mk ((by rw [hg]; exact (below_size (by repeat (first | (with_reducible first | exact HB.out | apply below_alloc | apply pw_below_drewN | apply below_drew1) | exact HB.out))) : w.heap.size ≤ gb226)); clear HB; have HB := n0_; have BK226 := n1_; have GW226 := n2_; have GE226 := n3_; clear n0_ n1_ n2_ n3_; clear hb hbox hg; have hcz7_0 : w6.cell? ⟨gb226, 0, none⟩ = some (.slice A0_0 l0_0.length c0_0) := (blk_cell BK226.out 0).trans rfl; have hcz7_1 : w6.cell? ⟨gb226, 1, none⟩ = some (.int .i64 a0_1) := (blk_cell BK226.out 1).trans rfl; have hfz7_0 := blk_frozen BK226.out 0; have hfz7_1 := blk_frozen BK226.out 1) | (go_at_call 25; (with_reducible refine (assartref08_Refs.calls k _ _ l0_0 a0_1 _ _ l1 _ _ l2 t227 _ ?side1 ?side2 ?side3 ?side4 ?side5 ?side6 A4.out).mono ?_); (case side1 => repeat (first | exact (Kd.C_below HR0_0.out HB.out) | (with_reducible refine Kd.C_alloc ?_ _) | (with_reducible refine Kd.C_drewN ?_ _) | (with_reducible refine Kd.C_drew ?_))); (case side2 => exact HC0_0.out); (case side3 => repeat (first | exact (Kd.C_below HR1.out HB.out) | (with_reducible refine Kd.C_alloc ?_ _) | (with_reducible refine Kd.C_drewN ?_ _) | (with_reducible refine Kd.C_drew ?_))); (case side4 => exact HC1.out); (case side5 => repeat (first | exact (Kd.C_below HR2.out HB.out) | (with_reducible refine Kd.C_alloc ?_ _) | (with_reducible refine Kd.C_drewN ?_ _) | (with_reducible refine Kd.C_drew ?_))); (case side6 => exact HC2.out); rintro e w8 ⟨v228, rfl, ho0, hb⟩; have n0_ := Aside0.mk (Kd.R_lower ho0 (below_size (by repeat (first | (with_reducible first | exact HB.out | apply below_alloc | apply pw_below_drewN | apply below_drew1 | refine below_set ?_ GE226.out) | exact HB.out)))); have n1_ := Aside0.mk (blk_below (g := gb226) (o := .cells #[.slice A0_0 l0_0.length c0_0, .int .i64 a0_1] 24 (0, 0)) (by (with_reducible repeat (first | refine blk_drewN ?_ _ | refine blk_drew ?_ | refine blk_alloc ?_ _)); exact BK226.out) hb); have n2_ := Aside0.mk (below_step (by repeat (first | (with_reducible first | exact HB.out | apply below_alloc | apply pw_below_drewN | apply below_drew1 | refine below_set ?_ GE226.out) | exact HB.out)) hb); clear BK226; clear HB; have HO229 := n0_; have BK226 := n1_; have HB := n2_; clear n0_ n1_ n2_; (try clear hb); (try clear hb2); (try clear hk); (try clear hi); (try clear ho0); have hcz9_0 : w8.cell? ⟨gb226, 0, none⟩ = some (.slice A0_0 l0_0.length c0_0) := (blk_cell BK226.out 0).trans rfl; have hcz9_1 : w8.cell? ⟨gb226, 1, none⟩ = some (.int .i64 a0_1) := (blk_cell BK226.out 1).trans rfl; have hfz9_0 := blk_frozen BK226.out 0; have hfz9_1 := blk_frozen BK226.out 1) | (go_at_call 26; (with_reducible refine (assartref08_Held.calls k _ _ l0_0 a0_1 _ _ l1 _ _ l2 t230 _ ?side1 ?side2 ?side3 ?side4 ?side5 ?side6 A5.out).mono ?_); (case side1 => repeat (first | exact (Kd.C_below HR0_0.out HB.out) | (with_reducible refine Kd.C_alloc ?_ _) | (with_reducible refine Kd.C_drewN ?_ _) | (with_reducible refine Kd.C_drew ?_))); (case side2 => exact HC0_0.out); (case side3 => repeat (first | exact (Kd.C_below HR1.out HB.out) | (with_reducible refine Kd.C_alloc ?_ _) | (with_reducible refine Kd.C_drewN ?_ _) | (with_reducible refine Kd.C_drew ?_))); (case side4 => exact HC1.out); (case side5 => repeat (first | exact (Kd.C_below HR2.out HB.out) | (with_reducible refine Kd.C_alloc ?_ _) | (with_reducible refine Kd.C_drewN ?_ _) | (with_reducible refine Kd.C_drew ?_))); (case side6 => exact HC2.out); rintro e w10 ⟨v231, rfl, ho0, hb⟩; have n0_ := Aside0.mk (Kd.R_below (by (with_reducible repeat (first | apply Kd.R_alloc | apply Kd.R_drewN | apply Kd.R_drew)); exact HO229.out) hb); have n1_ := Aside0.mk (Kd.R_lower ho0 (below_size (by repeat (first | (with_reducible first | exact HB.out | apply below_alloc | apply pw_below_drewN | apply below_drew1 | refine below_set ?_ GE226.out) | exact HB.out)))); have n2_ := Aside0.mk (blk_below (g := gb226) (o := .cells #[.slice A0_0 l0_0.length c0_0, .int .i64 a0_1] 24 (0, 0)) (by (with_reducible repeat (first | refine blk_drewN ?_ _ | refine blk_drew ?_ | refine blk_alloc ?_ _)); exact BK226.out) hb); have n3_ := Aside0.mk (below_step (by repeat (first | (with_reducible first | exact HB.out | apply below_alloc | apply pw_below_drewN | apply below_drew1 | refine below_set ?_ GE226.out) | exact HB.out)) hb); clear HO229; clear BK226; clear HB; have HO229 := n0_; have HO232 := n1_; have BK226 := n2_; have HB := n3_; clear n0_ n1_ n2_ n3_; (try clear hb); (try clear hb2); (try clear hk); (try clear hi); (try clear ho0))))
 go_loopg [9] k (fun kq v9 w' => ∃ (x9_1 : Int), v9 = .int .i64 x9_1 ∧ Aside0 (assartref08_Sound.l0 kq t227 t230 x9_1 l0_0 a0_1 = some r) ∧ Aside0 (kq ≤ k) ∧ Aside0 (Kd.R (Kd.int .i64) 3 w' w.heap.size (fun _ => True) v228 t227) ∧ Aside0 (Kd.R Kd.bool 4 w' w.heap.size (fun _ => True) v231 t230) ∧ Aside0 (w'.heap[gb226]? = some (.cells #[(.slice A0_0 l0_0.length c0_0), .int .i64 a0_1] 24 (0, 0))) ∧ Aside0 (Below w.heap.size w w'))
 case atStart => exact ⟨(0), (by first | rfl | (simp; done) | (simp [*]; done)), H', ⟨Nat.le_refl _⟩, ⟨by (with_reducible repeat (first | apply Kd.R_alloc | apply Kd.R_drewN | apply Kd.R_drew)); exact HO229.out⟩, ⟨by (with_reducible repeat (first | apply Kd.R_alloc | apply Kd.R_drewN | apply Kd.R_drew)); exact HO232.out⟩, ⟨by (with_reducible repeat (first | refine blk_drewN ?_ _ | refine blk_drew ?_ | refine blk_alloc ?_ _)); exact BK226.out⟩, ⟨by repeat (first | (with_reducible first | exact HB.out | apply below_alloc | apply pw_below_drewN | apply below_drew1 | refine below_set ?_ GE226.out) | exact HB.out)⟩⟩
 case round =>
  clear H'
  try clear c1
  try clear c2
  try clear p2
  try clear hcz7_0
  try clear hcz7_1
  try clear hcz9_0
  try clear hcz9_1
  try clear hfz7_0
  try clear hfz7_1
  try clear hfz9_0
  try clear hfz9_1
  obtain ⟨x9_1, rfl, HA, HK1, HO_7, HO_8, BK226, HB⟩ := hrel
  cases gk with
  | zero => exact absurd HA.out (by simp [assartref08_Sound.l0])
  | succ k1 =>
   have H := HA.out
   clear HA
   simp only [assartref08_Sound.l0] at H
   by_cases c11 : x9_1 < (l0_0.length : Int)
   ·rw [if_pos c11] at H
    have c11b0 : decide (x9_1 < (l0_0.length : Int)) = true := decide_eq_true c11
    clear c11
    by_cases c12 : 0 ≤ x9_1
    ·rw [if_pos c12] at H
     have c12b0 : decide (0 ≤ x9_1) = true := decide_eq_true c12
     clear c12
     by_cases c13 : x9_1 < (t227.length : Int)
     ·rw [if_pos c13] at H
      have c13b0 : decide (x9_1 < (t227.length : Int)) = true := decide_eq_true c13
      clear c13
      by_cases c14 : ((rd_T38 l0_0 x9_1).f0) = (rd t227 x9_1)
      ·rw [if_pos c14] at H
       have c14b0 : (((rd_T38 l0_0 x9_1).f0) == (rd t227 x9_1)) = true := beq_iff_eq.mpr c14
       have c14b1 : (((rd_T38 l0_0 x9_1).f0) != (rd t227 x9_1)) = false := bne_eq_false_iff_eq.mpr c14
       clear c14
       by_cases c15 : x9_1 < (t230.length : Int)
       ·rw [if_pos c15] at H
        have c15b0 : decide (x9_1 < (t230.length : Int)) = true := decide_eq_true c15
        clear c15
        by_cases c16 : ((rdOf false t230 x9_1) != (decide (((rd_T38 l0_0 x9_1).f0) > 0))) = true
        ·rw [if_pos c16] at H
         have c16b0 : ((rdOf false t230 x9_1) != (decide (((rd_T38 l0_0 x9_1).f0) > 0))) = true := c16
         (try (have c16b1 : decide ((rdOf false t230 x9_1) = (decide (((rd_T38 l0_0 x9_1).f0) > 0))) = false := by simpa using c16))
         (try (have c16b2 : ((rdOf false t230 x9_1) == (decide (((rd_T38 l0_0 x9_1).f0) > 0))) = false := by simpa using c16))
         (try (have c16b3 : ¬ ((rdOf false t230 x9_1) = (decide (((rd_T38 l0_0 x9_1).f0) > 0))) := by simpa using c16))
         clear c16
         obtain rfl := Option.some.inj H
         have hcz17_0 : wr.cell? ⟨gb226, 0, none⟩ = some (.slice A0_0 l0_0.length c0_0) := (blk_cell BK226.out 0).trans rfl
         have hcz17_1 : wr.cell? ⟨gb226, 1, none⟩ = some (.int .i64 a0_1) := (blk_cell BK226.out 1).trans rfl
         have hfz17_0 := blk_frozen BK226.out 0
         have hfz17_1 := blk_frozen BK226.out 1
         have p233 : 0 ≤ (x9_1 : Int) := of_decide_eq_true (by first | (with_reducible assumption) | assumption)
         have q233 : x9_1 < (l0_0.length : Int) := of_decide_eq_true (by first | (with_reducible assumption) | assumption)
         obtain ⟨ad233, A233_3, c233_3, e233, hx233_0, hx233_1, hx233_2, hx233_3, hl233_3, hi233_3⟩ := at_T38 HR0_0.out x9_1 p233 q233
         cases e233
         replace hx233_0 := (HB.out.cell (World.block_lt_of_cell? w _ hx233_0)).trans hx233_0
         replace hx233_1 := (HB.out.cell (World.block_lt_of_cell? w _ hx233_1)).trans hx233_1
         replace hx233_2 := (HB.out.cell (World.block_lt_of_cell? w _ hx233_2)).trans hx233_2
         replace hx233_3 := (HB.out.cell (World.block_lt_of_cell? w _ hx233_3)).trans hx233_3
         have HR233_3 := Aside0.mk hi233_3
         have HC233_3 := Aside0.mk hl233_3
         clear hi233_3 hl233_3
         replace p233 := eq_true p233
         replace q233 := eq_true q233
         obtain ⟨Ao18, co18, eo18⟩ := Kd.R_slice HO_7.out
         subst eo18
         have p234 : 0 ≤ (x9_1 : Int) := of_decide_eq_true (by first | (with_reducible assumption) | assumption)
         have q234 : x9_1 < (t227.length : Int) := of_decide_eq_true (by first | (with_reducible assumption) | assumption)
         obtain ⟨ad234, e234, hx234_0⟩ := Kd.at_int (Kd.R_reads' HO_7.out).2.2 x9_1 p234 q234
         cases e234
         replace p234 := eq_true p234
         replace q234 := eq_true q234
         obtain ⟨Ao19, co19, eo19⟩ := Kd.R_slice HO_8.out
         subst eo19
         have p235 : 0 ≤ (x9_1 : Int) := of_decide_eq_true (by first | (with_reducible assumption) | assumption)
         have q235 : x9_1 < (t230.length : Int) := of_decide_eq_true (by first | (with_reducible assumption) | assumption)
         obtain ⟨ad235, e235, hx235_0⟩ := Kd.at_bool (Kd.R_reads' HO_8.out).2.2 x9_1 p235 q235
         cases e235
         replace p235 := eq_true p235
         replace q235 := eq_true q235
         have p236 : 0 ≤ (x9_1 : Int) := of_decide_eq_true (by first | (with_reducible assumption) | assumption)
         have q236 : x9_1 < (l0_0.length : Int) := of_decide_eq_true (by first | (with_reducible assumption) | assumption)
         obtain ⟨ad236, A236_3, c236_3, e236, hx236_0, hx236_1, hx236_2, hx236_3, hl236_3, hi236_3⟩ := at_T38 HR0_0.out x9_1 p236 q236
         obtain rfl : ad233 = ad236 := (by injection e236)
         replace hx236_0 := (HB.out.cell (World.block_lt_of_cell? w _ hx236_0)).trans hx236_0
         replace hx236_1 := (HB.out.cell (World.block_lt_of_cell? w _ hx236_1)).trans hx236_1
         replace hx236_2 := (HB.out.cell (World.block_lt_of_cell? w _ hx236_2)).trans hx236_2
         replace hx236_3 := (HB.out.cell (World.block_lt_of_cell? w _ hx236_3)).trans hx236_3
         have HR236_3 := Aside0.mk hi236_3
         have HC236_3 := Aside0.mk hl236_3
         clear hi236_3 hl236_3
         replace p236 := eq_true p236
         replace q236 := eq_true q236
         have ea_ := Option.some.inj (hx233_3.symm.trans hx236_3)
         injection ea_ with ea_ en_ ec_
         subst ea_
         subst ec_
         clear en_
         go_wp2
         repeat (go_quiet (fail); try go_wp2)
         go_ret
         exact ⟨by first | rfl | (simp [errW_none, errW_some] <;> rfl) | (simp [*, errW_none, errW_some] <;> rfl), by repeat (first | (with_reducible first | exact HB.out | apply below_alloc | apply pw_below_drewN | apply below_drew1 | refine below_set ?_ GE226.out) | exact HB.out)⟩
        ·rw [if_neg c16] at H
         have c16b0 : ((rdOf false t230 x9_1) != (decide (((rd_T38 l0_0 x9_1).f0) > 0))) = false := by simpa using c16
         (try (have c16b1 : decide ((rdOf false t230 x9_1) = (decide (((rd_T38 l0_0 x9_1).f0) > 0))) = true := by simpa using c16))
         (try (have c16b2 : ((rdOf false t230 x9_1) == (decide (((rd_T38 l0_0 x9_1).f0) > 0))) = true := by simpa using c16))
         clear c16
         have H' := Aside0.mk H
         clear H
         have hcz20_0 : wr.cell? ⟨gb226, 0, none⟩ = some (.slice A0_0 l0_0.length c0_0) := (blk_cell BK226.out 0).trans rfl
         have hcz20_1 : wr.cell? ⟨gb226, 1, none⟩ = some (.int .i64 a0_1) := (blk_cell BK226.out 1).trans rfl
         have hfz20_0 := blk_frozen BK226.out 0
         have hfz20_1 := blk_frozen BK226.out 1
         have p233 : 0 ≤ (x9_1 : Int) := of_decide_eq_true (by first | (with_reducible assumption) | assumption)
         have q233 : x9_1 < (l0_0.length : Int) := of_decide_eq_true (by first | (with_reducible assumption) | assumption)
         obtain ⟨ad233, A233_3, c233_3, e233, hx233_0, hx233_1, hx233_2, hx233_3, hl233_3, hi233_3⟩ := at_T38 HR0_0.out x9_1 p233 q233
         cases e233
         replace hx233_0 := (HB.out.cell (World.block_lt_of_cell? w _ hx233_0)).trans hx233_0
         replace hx233_1 := (HB.out.cell (World.block_lt_of_cell? w _ hx233_1)).trans hx233_1
         replace hx233_2 := (HB.out.cell (World.block_lt_of_cell? w _ hx233_2)).trans hx233_2
         replace hx233_3 := (HB.out.cell (World.block_lt_of_cell? w _ hx233_3)).trans hx233_3
         have HR233_3 := Aside0.mk hi233_3
         have HC233_3 := Aside0.mk hl233_3
         clear hi233_3 hl233_3
         replace p233 := eq_true p233
         replace q233 := eq_true q233
         obtain ⟨Ao21, co21, eo21⟩ := Kd.R_slice HO_7.out
         subst eo21
         have p234 : 0 ≤ (x9_1 : Int) := of_decide_eq_true (by first | (with_reducible assumption) | assumption)
         have q234 : x9_1 < (t227.length : Int) := of_decide_eq_true (by first | (with_reducible assumption) | assumption)
         obtain ⟨ad234, e234, hx234_0⟩ := Kd.at_int (Kd.R_reads' HO_7.out).2.2 x9_1 p234 q234
         cases e234
         replace p234 := eq_true p234
         replace q234 := eq_true q234
         obtain ⟨Ao22, co22, eo22⟩ := Kd.R_slice HO_8.out
         subst eo22
         have p235 : 0 ≤ (x9_1 : Int) := of_decide_eq_true (by first | (with_reducible assumption) | assumption)
         have q235 : x9_1 < (t230.length : Int) := of_decide_eq_true (by first | (with_reducible assumption) | assumption)
         obtain ⟨ad235, e235, hx235_0⟩ := Kd.at_bool (Kd.R_reads' HO_8.out).2.2 x9_1 p235 q235
         cases e235
         replace p235 := eq_true p235
         replace q235 := eq_true q235
         have p236 : 0 ≤ (x9_1 : Int) := of_decide_eq_true (by first | (with_reducible assumption) | assumption)
         have q236 : x9_1 < (l0_0.length : Int) := of_decide_eq_true (by first | (with_reducible assumption) | assumption)
         obtain ⟨ad236, A236_3, c236_3, e236, hx236_0, hx236_1, hx236_2, hx236_3, hl236_3, hi236_3⟩ := at_T38 HR0_0.out x9_1 p236 q236
         obtain rfl : ad233 = ad236 := (by injection e236)
         replace hx236_0 := (HB.out.cell (World.block_lt_of_cell? w _ hx236_0)).trans hx236_0
         replace hx236_1 := (HB.out.cell (World.block_lt_of_cell? w _ hx236_1)).trans hx236_1
         replace hx236_2 := (HB.out.cell (World.block_lt_of_cell? w _ hx236_2)).trans hx236_2
         replace hx236_3 := (HB.out.cell (World.block_lt_of_cell? w _ hx236_3)).trans hx236_3
         have HR236_3 := Aside0.mk hi236_3
         have HC236_3 := Aside0.mk hl236_3
         clear hi236_3 hl236_3
         replace p236 := eq_true p236
         replace q236 := eq_true q236
         have ea_ := Option.some.inj (hx233_3.symm.trans hx236_3)
         injection ea_ with ea_ en_ ec_
         subst ea_
         subst ec_
         clear en_
         go_wp2
         repeat (go_quiet (fail); try go_wp2)
         go_roundg k1
         case measure => have := HK1.out; omega
         case rel => exact ⟨(wrap64 (x9_1 + 1)), (by first | rfl | (simp; done) | (simp [*]; done)), H', ⟨by have := HK1.out; omega⟩, ⟨by (with_reducible repeat (first | apply Kd.R_alloc | apply Kd.R_drewN | apply Kd.R_drew)); exact HO_7.out⟩, ⟨by (with_reducible repeat (first | apply Kd.R_alloc | apply Kd.R_drewN | apply Kd.R_drew)); exact HO_8.out⟩, ⟨by (with_reducible repeat (first | refine blk_drewN ?_ _ | refine blk_drew ?_ | refine blk_alloc ?_ _)); exact BK226.out⟩, ⟨by repeat (first | (with_reducible first | exact HB.out | apply below_alloc | apply pw_below_drewN | apply below_drew1 | refine below_set ?_ GE226.out) | exact HB.out)⟩⟩
       ·rw [if_neg c15] at H
        exact absurd H (by simp)
      ·rw [if_neg c14] at H
       have c14b0 : (((rd_T38 l0_0 x9_1).f0) == (rd t227 x9_1)) = false := beq_eq_false_iff_ne.mpr c14
       have c14b1 : (((rd_T38 l0_0 x9_1).f0) != (rd t227 x9_1)) = true := bne_iff_ne.mpr c14
       obtain rfl := Option.some.inj H
       have hcz23_0 : wr.cell? ⟨gb226, 0, none⟩ = some (.slice A0_0 l0_0.length c0_0) := (blk_cell BK226.out 0).trans rfl
       have hcz23_1 : wr.cell? ⟨gb226, 1, none⟩ = some (.int .i64 a0_1) := (blk_cell BK226.out 1).trans rfl
       have hfz23_0 := blk_frozen BK226.out 0
       have hfz23_1 := blk_frozen BK226.out 1
       have p233 : 0 ≤ (x9_1 : Int) := of_decide_eq_true (by first | (with_reducible assumption) | assumption)
       have q233 : x9_1 < (l0_0.length : Int) := of_decide_eq_true (by first | (with_reducible assumption) | assumption)
       obtain ⟨ad233, A233_3, c233_3, e233, hx233_0, hx233_1, hx233_2, hx233_3, hl233_3, hi233_3⟩ := at_T38 HR0_0.out x9_1 p233 q233
       cases e233
       replace hx233_0 := (HB.out.cell (World.block_lt_of_cell? w _ hx233_0)).trans hx233_0
       replace hx233_1 := (HB.out.cell (World.block_lt_of_cell? w _ hx233_1)).trans hx233_1
       replace hx233_2 := (HB.out.cell (World.block_lt_of_cell? w _ hx233_2)).trans hx233_2
       replace hx233_3 := (HB.out.cell (World.block_lt_of_cell? w _ hx233_3)).trans hx233_3
       have HR233_3 := Aside0.mk hi233_3
       have HC233_3 := Aside0.mk hl233_3
       clear hi233_3 hl233_3
       replace p233 := eq_true p233
       replace q233 := eq_true q233
       obtain ⟨Ao24, co24, eo24⟩ := Kd.R_slice HO_7.out
       subst eo24
       have p234 : 0 ≤ (x9_1 : Int) := of_decide_eq_true (by first | (with_reducible assumption) | assumption)
       have q234 : x9_1 < (t227.length : Int) := of_decide_eq_true (by first | (with_reducible assumption) | assumption)
       obtain ⟨ad234, e234, hx234_0⟩ := Kd.at_int (Kd.R_reads' HO_7.out).2.2 x9_1 p234 q234
       cases e234
       replace p234 := eq_true p234
       replace q234 := eq_true q234
       go_wp2
       repeat (go_quiet (fail); try go_wp2)
       go_ret
       exact ⟨by first | rfl | (simp [errW_none, errW_some] <;> rfl) | (simp [*, errW_none, errW_some] <;> rfl), by repeat (first | (with_reducible first | exact HB.out | apply below_alloc | apply pw_below_drewN | apply below_drew1 | refine below_set ?_ GE226.out) | exact HB.out)⟩
     ·rw [if_neg c13] at H
      exact absurd H (by simp)
    ·rw [if_neg c12] at H
     exact absurd H (by simp)
   ·rw [if_neg c11] at H
    have c11b0 : decide (x9_1 < (l0_0.length : Int)) = false := decide_eq_false c11
    clear c11
    obtain rfl := Option.some.inj H
    have hcz25_0 : wr.cell? ⟨gb226, 0, none⟩ = some (.slice A0_0 l0_0.length c0_0) := (blk_cell BK226.out 0).trans rfl
    have hcz25_1 : wr.cell? ⟨gb226, 1, none⟩ = some (.int .i64 a0_1) := (blk_cell BK226.out 1).trans rfl
    have hfz25_0 := blk_frozen BK226.out 0
    have hfz25_1 := blk_frozen BK226.out 1
    go_wp2
    repeat (go_quiet (fail); try go_wp2)
    go_ret
    exact ⟨by first | rfl | (simp [errW_none, errW_some] <;> rfl) | (simp [*, errW_none, errW_some] <;> rfl), by repeat (first | (with_reducible first | exact HB.out | apply below_alloc | apply pw_below_drewN | apply below_drew1 | refine below_set ?_ GE226.out) | exact HB.out)⟩
end Go.Proofs.Ytflndiikeoflfaa.P
end
section
namespace Go.Proofs.Ytflndiikeoflfaa.P
open Go.RowKit Go.Proofs.YtflndiikeoflfaaW.PrintWords Go.Proofs.YtflndiikeoflfaaW.PrintLast Go.Proofs.YtflndiikeoflfaaW.PrintMore
attribute [local go_sem] max2_int min2_int max_two min_two max_three min_three max_four min_four
set_option linter.unusedVariables false
set_option linter.unusedSimpArgs false
def assartref08_Fine.f (k : Nat) (l0_0 : List (S38)) (a0_1 : Int) (l1 : List Int) (l2 : List ByteArray) (a3 : Int) : Option (Bool) := (assartref08_May.f k l0_0 a0_1 l1 l2 a3).bind fun t238 => (if t238 = true then ((assartref08_Sound.f k l0_0 a0_1 l1 l2).bind fun t239 => (some t239)) else (some false))
set_option maxHeartbeats 8000000 in
set_option maxRecDepth 100000 in
theorem assartref08_Fine.calls (k : Nat) (A0_0 : Option Addr) (c0_0 : Nat) (l0_0 : List (S38)) (a0_1 : Int) (A1 : Option Addr) (c1 : Nat) (l1 : List Int) (A2 : Option Addr) (c2 : Nat) (l2 : List ByteArray) (a3 : Int) (r : Bool) (w : World) (hr0_0 : Kd.C k38 w A0_0 l0_0.length l0_0) (hc0_0 : l0_0.length ≤ c0_0) (hr1 : Kd.C (Kd.int .i64) w A1 l1.length l1) (hc1 : l1.length ≤ c1) (hr2 : Kd.C Kd.string w A2 l2.length l2) (hc2 : l2.length ≤ c2) (h : assartref08_Fine.f k l0_0 a0_1 l1 l2 a3 = some r) :
  Calls Try.prog 6 #[.agg #[.slice A0_0 l0_0.length c0_0, .int .i64 a0_1], .slice A1 l1.length c1, .slice A2 l2.length c2, .int .i64 a3] w fun e w' => e = .returned (.bool r) ∧ Below w.heap.size w w' := by
 have hu24 := Try.underlying24
 have HR0_0 := Aside0.mk hr0_0
 have HC0_0 := Aside0.mk hc0_0
 clear hr0_0 hc0_0
 have HR1 := Aside0.mk hr1
 have HC1 := Aside0.mk hc1
 clear hr1 hc1
 have HR2 := Aside0.mk hr2
 have HC2 := Aside0.mk hc2
 clear hr2 hc2
 have HB := Aside0.mk (Below.refl w.heap.size w)
 have H : ((assartref08_May.f k l0_0 a0_1 l1 l2 a3).bind fun t238 => (if t238 = true then ((assartref08_Sound.f k l0_0 a0_1 l1 l2).bind fun t239 => (some t239)) else (some false))) = some r := h
 clear h
 replace H := Option.bind_eq_some_iff.mp H
 obtain ⟨t238, A50, H⟩ := H
 replace H : (if t238 = true then ((assartref08_Sound.f k l0_0 a0_1 l1 l2).bind fun t239 => (some t239)) else (some false)) = some r := H
 have A5 := Aside0.mk A50
 clear A50
 by_cases c6 : t238 = true
 ·subst c6
  have H1 : ((assartref08_Sound.f k l0_0 a0_1 l1 l2).bind fun t239 => (some t239)) = some r := by rw [if_pos rfl] at H; exact H
  clear H
  have H := H1
  clear H1
  replace H := Option.bind_eq_some_iff.mp H
  obtain ⟨t239, A70, H⟩ := H
  replace H : (some t239) = some r := H
  have A7 := Aside0.mk A70
  clear A70
  obtain rfl := Option.some.inj H
  go_enter Try.func6, Try.ntmps6
  go_wp2_with (first | ((with_reducible refine gate_dst (N := 4) rfl ?_); refine box_event ?hg (N := 4) ?hd (cs := #[.slice A0_0 l0_0.length c0_0, .int .i64 a0_1]) (t := 24) ?hr ?_; (case hd => rfl); (case hg => rfl); (case hr => first | (go_simp; done) | (go_simp; rfl)); intro gb237 hg w8 hbox hb; have n0_ := Aside0.mk (below_step (by repeat (first | (with_reducible first | exact HB.out | apply below_alloc | apply pw_below_drewN | apply below_drew1) | exact HB.out)) hb); have n1_ := Aside0.mk (hbox); have n2_ := Aside0.mk ((by rw [hg]; exact (below_size (by repeat (first | (with_reducible first | exact HB.out | apply below_alloc | apply pw_below_drewN | apply below_drew1) | exact HB.out))) : w.heap.size ≤ gb237)); have n3_ := Aside0.mk ((by rw [hg]; exact (below_size (by repeat (first | (with_reducible first | exact HB.out | apply below_alloc | apply pw_below_drewN | apply below_drew1) | exact HB.out))) : w.heap.size ≤ gb237)); clear HB; have HB := n0_; have BK237 := n1_; have GW237 := n2_; have GE237 := n3_; clear n0_ n1_ n2_ n3_; clear hb hbox hg; have hcz9_0 : w8.cell? ⟨gb237, 0, none⟩ = some (.slice A0_0 l0_0.length c0_0) := (blk_cell BK237.out 0).trans rfl; have hcz9_1 : w8.cell? ⟨gb237, 1, none⟩ = some (.int .i64 a0_1) := (blk_cell BK237.out 1).trans rfl; have hfz9_0 := blk_frozen BK237.out 0; have hfz9_1 := blk_frozen BK237.out 1) | ((with_reducible refine gate_callee (f := 14) rfl ?_); refine goesL_ (some 14) rfl rfl Try.func14 (by kernel_rfl) rfl #[.agg #[.slice A0_0 l0_0.length c0_0, .int .i64 a0_1], .slice A1 l1.length c1, .slice A2 l2.length c2, .int .i64 a3] rfl (by (try simp only [List.map_toArray, List.map_cons, List.map_nil]); first | done | rfl | (simp only [List.length_drop, List.length_take]; rfl)) ?_; (with_reducible refine (assartref08_May.calls k _ _ l0_0 a0_1 _ _ l1 _ _ l2 a3 true _ ?side1 ?side2 ?side3 ?side4 ?side5 ?side6 A5.out).mono ?_); (case side1 => repeat (first | exact (Kd.C_below HR0_0.out HB.out) | (with_reducible refine Kd.C_alloc ?_ _) | (with_reducible refine Kd.C_drewN ?_ _) | (with_reducible refine Kd.C_drew ?_))); (case side2 => exact HC0_0.out); (case side3 => repeat (first | exact (Kd.C_below HR1.out HB.out) | (with_reducible refine Kd.C_alloc ?_ _) | (with_reducible refine Kd.C_drewN ?_ _) | (with_reducible refine Kd.C_drew ?_))); (case side4 => exact HC1.out); (case side5 => repeat (first | exact (Kd.C_below HR2.out HB.out) | (with_reducible refine Kd.C_alloc ?_ _) | (with_reducible refine Kd.C_drewN ?_ _) | (with_reducible refine Kd.C_drew ?_))); (case side6 => exact HC2.out); rintro e w10 ⟨rfl, hb⟩; refine ⟨_, rfl, ?_⟩; have n0_ := Aside0.mk (blk_below (g := gb237) (o := .cells #[.slice A0_0 l0_0.length c0_0, .int .i64 a0_1] 24 (0, 0)) (by (with_reducible repeat (first | refine blk_drewN ?_ _ | refine blk_drew ?_ | refine blk_alloc ?_ _)); exact BK237.out) hb); have n1_ := Aside0.mk (below_step (by repeat (first | (with_reducible first | exact HB.out | apply below_alloc | apply pw_below_drewN | apply below_drew1 | refine below_set ?_ GE237.out) | exact HB.out)) hb); clear BK237; clear HB; have BK237 := n0_; have HB := n1_; clear n0_ n1_; (try clear hb); (try clear hb2); (try clear hk); (try clear hi); have hcz11_0 : w10.cell? ⟨gb237, 0, none⟩ = some (.slice A0_0 l0_0.length c0_0) := (blk_cell BK237.out 0).trans rfl; have hcz11_1 : w10.cell? ⟨gb237, 1, none⟩ = some (.int .i64 a0_1) := (blk_cell BK237.out 1).trans rfl; have hfz11_0 := blk_frozen BK237.out 0; have hfz11_1 := blk_frozen BK237.out 1) | ((with_reducible refine gate_callee (f := 15) rfl ?_); refine goesL_ (some 20) rfl rfl Try.func15 (by kernel_rfl) rfl #[.agg #[.slice A0_0 l0_0.length c0_0, .int .i64 a0_1], .slice A1 l1.length c1, .slice A2 l2.length c2] rfl (by (try simp only [List.map_toArray, List.map_cons, List.map_nil]); first | done | rfl | (simp only [List.length_drop, List.length_take]; rfl)) ?_; (with_reducible refine (assartref08_Sound.calls k _ _ l0_0 a0_1 _ _ l1 _ _ l2 t239 _ ?side1 ?side2 ?side3 ?side4 ?side5 ?side6 A7.out).mono ?_); (case side1 => repeat (first | exact (Kd.C_below HR0_0.out HB.out) | (with_reducible refine Kd.C_alloc ?_ _) | (with_reducible refine Kd.C_drewN ?_ _) | (with_reducible refine Kd.C_drew ?_))); (case side2 => exact HC0_0.out); (case side3 => repeat (first | exact (Kd.C_below HR1.out HB.out) | (with_reducible refine Kd.C_alloc ?_ _) | (with_reducible refine Kd.C_drewN ?_ _) | (with_reducible refine Kd.C_drew ?_))); (case side4 => exact HC1.out); (case side5 => repeat (first | exact (Kd.C_below HR2.out HB.out) | (with_reducible refine Kd.C_alloc ?_ _) | (with_reducible refine Kd.C_drewN ?_ _) | (with_reducible refine Kd.C_drew ?_))); (case side6 => exact HC2.out); rintro e w12 ⟨rfl, hb⟩; refine ⟨_, rfl, ?_⟩; have n0_ := Aside0.mk (blk_below (g := gb237) (o := .cells #[.slice A0_0 l0_0.length c0_0, .int .i64 a0_1] 24 (0, 0)) (by (with_reducible repeat (first | refine blk_drewN ?_ _ | refine blk_drew ?_ | refine blk_alloc ?_ _)); exact BK237.out) hb); have n1_ := Aside0.mk (below_step (by repeat (first | (with_reducible first | exact HB.out | apply below_alloc | apply pw_below_drewN | apply below_drew1 | refine below_set ?_ GE237.out) | exact HB.out)) hb); clear BK237; clear HB; have BK237 := n0_; have HB := n1_; clear n0_ n1_; (try clear hb); (try clear hb2); (try clear hk); (try clear hi)))
  go_ret
  exact ⟨by first | rfl | (simp [errW_none, errW_some] <;> rfl) | (simp [*, errW_none, errW_some] <;> rfl), by repeat (first | (with_reducible first | exact HB.out | apply below_alloc | apply pw_below_drewN | apply below_drew1 | refine below_set ?_ GE237.out) | exact HB.out)⟩
 ·replace c6 := Bool.eq_false_iff.mpr c6
  subst c6
  have H1 : (some false) = some r := by rw [if_neg (show ¬ (false = true) by decide)] at H; exact H
  clear H
  have H := H1
  clear H1
  obtain rfl := Option.some.inj H
  go_enter Try.func6, Try.ntmps6
  go_wp2_with (first | ((with_reducible refine gate_dst (N := 4) rfl ?_); refine box_event ?hg (N := 4) ?hd (cs := #[.slice A0_0 l0_0.length c0_0, .int .i64 a0_1]) (t := 24) ?hr ?_; (case hd => rfl); (case hg => rfl); (case hr => first | (go_simp; done) | (go_simp; rfl)); intro gb237 hg w13 hbox hb; have n0_ := Aside0.mk (below_step (by repeat (first | (with_reducible first | exact HB.out | apply below_alloc | apply pw_below_drewN | apply below_drew1) | exact HB.out)) hb); have n1_ := Aside0.mk (hbox); have n2_ := Aside0.mk ((by rw [hg]; exact (below_size (by repeat (first | (with_reducible first | exact HB.out | apply below_alloc | apply pw_below_drewN | apply below_drew1) | exact HB.out))) : w.heap.size ≤ gb237)); have n3_ := Aside0.mk ((by rw [hg]; exact (below_size (by repeat (first | (with_reducible first | exact HB.out | apply below_alloc | apply pw_below_drewN | apply below_drew1) | exact HB.out))) : w.heap.size ≤ gb237)); clear HB; have HB := n0_; have BK237 := n1_; have GW237 := n2_; have GE237 := n3_; clear n0_ n1_ n2_ n3_; clear hb hbox hg; have hcz14_0 : w13.cell? ⟨gb237, 0, none⟩ = some (.slice A0_0 l0_0.length c0_0) := (blk_cell BK237.out 0).trans rfl; have hcz14_1 : w13.cell? ⟨gb237, 1, none⟩ = some (.int .i64 a0_1) := (blk_cell BK237.out 1).trans rfl; have hfz14_0 := blk_frozen BK237.out 0; have hfz14_1 := blk_frozen BK237.out 1) | ((with_reducible refine gate_callee (f := 14) rfl ?_); refine goesL_ (some 14) rfl rfl Try.func14 (by kernel_rfl) rfl #[.agg #[.slice A0_0 l0_0.length c0_0, .int .i64 a0_1], .slice A1 l1.length c1, .slice A2 l2.length c2, .int .i64 a3] rfl (by (try simp only [List.map_toArray, List.map_cons, List.map_nil]); first | done | rfl | (simp only [List.length_drop, List.length_take]; rfl)) ?_; (with_reducible refine (assartref08_May.calls k _ _ l0_0 a0_1 _ _ l1 _ _ l2 a3 false _ ?side1 ?side2 ?side3 ?side4 ?side5 ?side6 A5.out).mono ?_); (case side1 => repeat (first | exact (Kd.C_below HR0_0.out HB.out) | (with_reducible refine Kd.C_alloc ?_ _) | (with_reducible refine Kd.C_drewN ?_ _) | (with_reducible refine Kd.C_drew ?_))); (case side2 => exact HC0_0.out); (case side3 => repeat (first | exact (Kd.C_below HR1.out HB.out) | (with_reducible refine Kd.C_alloc ?_ _) | (with_reducible refine Kd.C_drewN ?_ _) | (with_reducible refine Kd.C_drew ?_))); (case side4 => exact HC1.out); (case side5 => repeat (first | exact (Kd.C_below HR2.out HB.out) | (with_reducible refine Kd.C_alloc ?_ _) | (with_reducible refine Kd.C_drewN ?_ _) | (with_reducible refine Kd.C_drew ?_))); (case side6 => exact HC2.out); rintro e w15 ⟨rfl, hb⟩; refine ⟨_, rfl, ?_⟩; have n0_ := Aside0.mk (blk_below (g := gb237) (o := .cells #[.slice A0_0 l0_0.length c0_0, .int .i64 a0_1] 24 (0, 0)) (by (with_reducible repeat (first | refine blk_drewN ?_ _ | refine blk_drew ?_ | refine blk_alloc ?_ _)); exact BK237.out) hb); have n1_ := Aside0.mk (below_step (by repeat (first | (with_reducible first | exact HB.out | apply below_alloc | apply pw_below_drewN | apply below_drew1 | refine below_set ?_ GE237.out) | exact HB.out)) hb); clear BK237; clear HB; have BK237 := n0_; have HB := n1_; clear n0_ n1_; (try clear hb); (try clear hb2); (try clear hk); (try clear hi)))
  go_ret
  exact ⟨by first | rfl | (simp [errW_none, errW_some] <;> rfl) | (simp [*, errW_none, errW_some] <;> rfl), by repeat (first | (with_reducible first | exact HB.out | apply below_alloc | apply pw_below_drewN | apply below_drew1 | refine below_set ?_ GE237.out) | exact HB.out)⟩
end Go.Proofs.Ytflndiikeoflfaa.P
end
section
namespace Go.Proofs.Ytflndiikeoflfaa.P
open Go.RowKit Go.Proofs.YtflndiikeoflfaaW.PrintWords Go.Proofs.YtflndiikeoflfaaW.PrintLast Go.Proofs.YtflndiikeoflfaaW.PrintMore
set_option linter.unusedVariables false
set_option linter.unusedSimpArgs false
theorem at38 {l : List S38} {j : Nat} (h : j < l.length) : rd_T38 l (j : Nat) = l[j] := by
  simp only [rd_T38, Int.toNat_natCast, List.getD_eq_getElem?_getD, List.getElem?_eq_getElem h, Option.getD_some]
theorem given_nil (p : Int) {k : Nat} (hk : 1 ≤ k) : assartref08_Given.f k [] p = some 0 := by
  obtain ⟨k, rfl⟩ : ∃ m, k = m + 1 := ⟨k - 1, by omega⟩
  unfold assartref08_Given.f
  rw [assartref08_Given.l0, if_neg (by simp)]
def ctT (it : List S46) (q : Int) : Nat := (it.filter fun y => decide (y.f1 = q)).length
def tN (q : Int) (x : S38) : Nat := if 0 < x.f0 ∧ x.f2.f0 = false then ctT x.f2.f1 q else 0
theorem ctT_drop {it : List S46} {j : Nat} (h : j < it.length) (q : Int) : ctT (it.drop j) q = (if (rd_T46 it (j : Nat)).f1 = q then 1 else 0) + ctT (it.drop (j + 1)) q := by
  unfold ctT
  rw [List.drop_eq_getElem_cons h, List.filter_cons, rd_eq it j h]
  by_cases c : (it[j]).f1 = q
  · rw [if_pos (by simpa using c), if_pos c, List.length_cons]; omega
  · rw [if_neg (by simpa using c), if_neg c]; omega
theorem ctT_le (it : List S46) (q : Int) : ctT it q ≤ it.length := List.length_filter_le _ _
theorem tells_l0 (q f0 : Int) (f1 : Bool) (it : List S46) (hit : it.length ≤ 1000) (h0 : 0 < f0) : ∀ (d j n k : Nat), j + d = it.length → n ≤ j → 2 * d + 2 ≤ k → assartref08_Tells.l0 k q (n : Int) (j : Int) f0 f1 false it = some ((n + ctT (it.drop j) q : Nat) : Int) := by
  intro d
  induction d with
  | zero =>
    intro j n k hj hn hk
    obtain ⟨k, rfl⟩ : ∃ m, k = m + 2 := ⟨k - 2, by omega⟩
    rw [assartref08_Tells.l0, if_neg (by omega), assartref08_Tells.j1, if_neg (by simp), List.drop_eq_nil_of_le (by omega)]
    rfl
  | succ d ih =>
    intro j n k hj hn hk
    obtain ⟨k, rfl⟩ : ∃ m, k = m + 2 := ⟨k - 2, by omega⟩
    rw [assartref08_Tells.l0, if_pos (by omega), if_pos h0, assartref08_Tells.j1, if_pos (by rfl), if_pos (by omega), if_pos (by omega), wsucc j (by omega), ctT_drop (by omega)]
    by_cases c : (rd_T46 it (j : Nat)).f1 = q
    · rw [if_pos c, if_pos c, wsucc n (by omega), ih (j + 1) (n + 1) k (by omega) (by omega) (by omega)]
      congr 1
      omega
    · rw [if_neg c, if_neg c, ih (j + 1) n k (by omega) (by omega) (by omega)]
      congr 1
      omega
theorem tells_off (q n j f0 : Int) (f1 lf : Bool) (it : List S46) (h : ¬ (0 < f0 ∧ lf = false)) {k : Nat} (hk : 2 ≤ k) : assartref08_Tells.l0 k q n j f0 f1 lf it = some n := by
  obtain ⟨k, rfl⟩ : ∃ m, k = m + 2 := ⟨k - 2, by omega⟩
  rw [assartref08_Tells.l0]
  by_cases h1 : j < (it.length : Int)
  · rw [if_pos h1]
    by_cases h2 : f0 > 0
    · have : lf = true := by
        cases lf
        · exact absurd ⟨h2, rfl⟩ h
        · rfl
      rw [if_pos h2, assartref08_Tells.j1, if_neg (by rw [this]; simp)]
    · rw [if_neg h2, assartref08_Tells.j1, if_neg (by simp)]
  · rw [if_neg h1, assartref08_Tells.j1, if_neg (by simp)]
theorem tells_val (l : List S38) (kp : Int) (p : Nat) (q : Int) (hp : p < l.length) (hi : (rd_T38 l (p : Nat)).f2.f1.length ≤ 10) {k : Nat} (hk : 30 ≤ k) : assartref08_Tells.f k l kp [] (p : Int) q = some ((tN q (rd_T38 l (p : Nat)) : Nat) : Int) := by
  unfold assartref08_Tells.f tN
  rw [if_pos (by omega), if_pos (by omega), given_nil _ (by omega), Option.bind_some]
  by_cases h : 0 < (rd_T38 l (p : Nat)).f0 ∧ (rd_T38 l (p : Nat)).f2.f0 = false
  · rw [if_pos h, h.2]
    have := tells_l0 q (rd_T38 l (p : Nat)).f0 (rd_T38 l (p : Nat)).f1 (rd_T38 l (p : Nat)).f2.f1 (by omega) h.1 (rd_T38 l (p : Nat)).f2.f1.length 0 0 k (by omega) (by omega) (by omega)
    rw [List.drop_zero, Nat.zero_add] at this
    exact this
  · rw [if_neg h, tells_off _ _ _ _ _ _ _ h (by omega)]
    rfl
def outN (rs : List Int) (q : Int) : Nat := (rs.filter fun r => decide (r = q)).length
theorem outN_drop {rs : List Int} {j : Nat} (h : j < rs.length) (q : Int) : outN (rs.drop j) q = (if rd rs (j : Nat) = q then 1 else 0) + outN (rs.drop (j + 1)) q := by
  have e : rd rs (j : Nat) = rs[j] := by simp only [rd, Int.toNat_natCast, List.getD_eq_getElem?_getD, List.getElem?_eq_getElem h, Option.getD_some]
  unfold outN
  rw [List.drop_eq_getElem_cons h, List.filter_cons, e]
  by_cases c : rs[j] = q
  · rw [if_pos (by simpa using c), if_pos c, List.length_cons]; omega
  · rw [if_neg (by simpa using c), if_neg c]; omega
theorem outside_l0 (rs : List Int) (q : Int) (hr : rs.length ≤ 1000) : ∀ (d j n k : Nat), j + d = rs.length → n ≤ j → d + 2 ≤ k → assartref08_outside.l0 k rs [] q (n : Int) (j : Int) = some ((n + outN (rs.drop j) q : Nat) : Int) := by
  intro d
  induction d with
  | zero =>
    intro j n k hj hn hk
    obtain ⟨k, rfl⟩ : ∃ m, k = m + 2 := ⟨k - 2, by omega⟩
    rw [assartref08_outside.l0, if_neg (by omega), assartref08_outside.l1, if_neg (by simp), List.drop_eq_nil_of_le (by omega)]
    rfl
  | succ d ih =>
    intro j n k hj hn hk
    obtain ⟨k, rfl⟩ : ∃ m, k = m + 1 := ⟨k - 1, by omega⟩
    rw [assartref08_outside.l0, if_pos (by omega), if_pos (by omega), wsucc j (by omega), outN_drop (by omega)]
    by_cases c : rd rs (j : Nat) = q
    · rw [if_pos c, if_pos c, wsucc n (by omega), ih (j + 1) (n + 1) k (by omega) (by omega) (by omega)]
      congr 1
      omega
    · rw [if_neg c, if_neg c, ih (j + 1) n k (by omega) (by omega) (by omega)]
      congr 1
      omega
theorem outside_val (rs : List Int) (q : Int) (hr : rs.length ≤ 20) {k : Nat} (hk : 30 ≤ k) : assartref08_outside.f k rs [] q = some ((outN rs q : Nat) : Int) := by
  unfold assartref08_outside.f
  have := outside_l0 rs q (by omega) rs.length 0 0 k (by omega) (by omega) (by omega)
  rw [List.drop_zero, Nat.zero_add] at this
  exact this
def sumT (l : List S38) (q : Int) : Nat := (l.map (tN q)).sum
def refN (l : List S38) (rs : List Int) (q : Int) : Nat := outN rs q + sumT l q
def itemsOk (l : List S38) : Prop := ∀ i : Nat, i < l.length → (rd_T38 l (i : Nat)).f2.f1.length ≤ 10
theorem tN_le {x : S38} {q : Int} (h : x.f2.f1.length ≤ 10) : tN q x ≤ 10 := by
  unfold tN
  split
  · exact Nat.le_trans (ctT_le _ _) h
  · omega
theorem sumT_drop {l : List S38} {j : Nat} (h : j < l.length) (q : Int) : sumT (l.drop j) q = tN q (rd_T38 l (j : Nat)) + sumT (l.drop (j + 1)) q := by
  unfold sumT
  rw [List.drop_eq_getElem_cons h, List.map_cons, List.sum_cons, at38 h]
theorem rdI_append (acc : List Int) (x : Int) (i : Nat) : rd (acc ++ [x]) (i : Nat) = if i < acc.length then rd acc (i : Nat) else if i = acc.length then x else 0 := by
  simp only [rd, Int.toNat_natCast, List.getD_eq_getElem?_getD]
  by_cases h : i < acc.length
  · rw [if_pos h, List.getElem?_append_left h]
  · rw [if_neg h, List.getElem?_append_right (by omega)]
    by_cases e : i = acc.length
    · rw [if_pos e, e]; simp
    · rw [if_neg e]
      have : ([x] : List Int)[i - acc.length]? = none := List.getElem?_eq_none (by simp; omega)
      rw [this]; rfl
theorem refs_l1 (l : List S38) (kp : Int) (rs acc : List Int) (q : Nat) (hl : l.length ≤ 60) (ho : itemsOk l) (hacc : acc.length ≤ 100) (K0 : Nat) (hK0 : 40 ≤ K0) (R : List Int) : ∀ (d j n k : Nat), j + d = l.length → n ≤ 20 + 10 * j → d + 1 + K0 ≤ k →
    (∀ k', K0 ≤ k' → assartref08_Refs.l0 k' rs [] (acc ++ [((n + sumT (l.drop j) q : Nat) : Int)]) ((q + 1 : Nat) : Int) l kp = some R) → q < 1000 → assartref08_Refs.l1 k rs [] acc (q : Int) (n : Int) (j : Int) l kp = some R := by
  intro d
  induction d with
  | zero =>
    intro j n k hj hn hk hR hq
    obtain ⟨k, rfl⟩ : ∃ m, k = m + 1 := ⟨k - 1, by omega⟩
    rw [assartref08_Refs.l1, if_neg (by omega), if_pos (by omega), wsucc q (by omega)]
    have := hR k (by omega)
    rw [List.drop_eq_nil_of_le (by omega)] at this
    simpa [sumT] using this
  | succ d ih =>
    intro j n k hj hn hk hR hq
    obtain ⟨k, rfl⟩ : ∃ m, k = m + 1 := ⟨k - 1, by omega⟩
    have ht := tN_le (q := q) (ho j (by omega))
    rw [assartref08_Refs.l1, if_pos (by omega), tells_val l kp j q (by omega) (ho j (by omega)) (by omega), Option.bind_some, wsucc j (by omega),
      show wrap64 ((n : Int) + ((tN q (rd_T38 l (j : Nat)) : Nat) : Int)) = ((n + tN q (rd_T38 l (j : Nat)) : Nat) : Int) by unfold wrap64; omega]
    refine ih (j + 1) _ k (by omega) (by omega) (by omega) (fun k' hk' => ?_) hq
    have := hR k' hk'
    rw [sumT_drop (by omega)] at this
    rw [← this, Nat.add_assoc]
theorem outN_le (rs : List Int) (q : Int) : outN rs q ≤ rs.length := List.length_filter_le _ _
theorem refs_l0 (l : List S38) (kp : Int) (rs : List Int) (hl : l.length ≤ 60) (ho : itemsOk l) (hr : rs.length ≤ 20) : ∀ (d q k : Nat) (acc : List Int), q + d = l.length → acc.length = q → (∀ i : Nat, i < q → rd acc (i : Nat) = ((refN l rs i : Nat) : Int)) → d * (l.length + 2) + 50 ≤ k →
    ∃ R : List Int, assartref08_Refs.l0 k rs [] acc (q : Int) l kp = some R ∧ R.length = l.length ∧ ∀ i : Nat, i < l.length → rd R (i : Nat) = ((refN l rs i : Nat) : Int) := by
  intro d
  induction d with
  | zero =>
    intro q k acc hq ha hs hk
    obtain ⟨k, rfl⟩ : ∃ m, k = m + 1 := ⟨k - 1, by omega⟩
    rw [assartref08_Refs.l0, if_neg (by omega)]
    exact ⟨acc, rfl, by omega, fun i hi => hs i (by omega)⟩
  | succ d ih =>
    intro q k acc hq ha hs hk
    rw [Nat.succ_mul] at hk
    obtain ⟨k, rfl⟩ : ∃ m, k = m + 1 := ⟨k - 1, by omega⟩
    have hon := outN_le rs q
    have hs2 : ∀ i : Nat, i < q + 1 → rd (acc ++ [((refN l rs q : Nat) : Int)]) (i : Nat) = ((refN l rs i : Nat) : Int) := fun i hi => by
      rw [rdI_append]
      by_cases e : i < acc.length
      · rw [if_pos e]; exact hs i (by omega)
      · rw [if_neg e, if_pos (by omega), show i = q by omega]
    obtain ⟨R, hR1, hR2, hR3⟩ := ih (q + 1) (d * (l.length + 2) + 50) (acc ++ [((refN l rs q : Nat) : Int)]) (by omega) (by rw [List.length_append]; simp; omega) hs2 (Nat.le_refl _)
    refine ⟨R, ?_, hR2, hR3⟩
    rw [assartref08_Refs.l0, if_pos (by omega), outside_val rs q hr (by omega), Option.bind_some]
    have := refs_l1 l kp rs acc q hl ho (by omega) (d * (l.length + 2) + 50) (by omega) R l.length 0 (outN rs q) k (by omega) (by omega) (by omega) (fun k' hk' => by
      have e : outN rs (q : Int) + sumT (l.drop 0) (q : Int) = refN l rs q := by rw [List.drop_zero]; rfl
      rw [e]
      exact at_rounds (fun k => (assartref08_Refs.mono_l k).1 _ _ _ _ _ _) hk' hR1) (by omega)
    rw [show ((0 : Nat) : Int) = 0 from rfl] at this
    exact this
theorem refs_val (l : List S38) (kp : Int) (rs : List Int) (hl : l.length ≤ 60) (ho : itemsOk l) (hr : rs.length ≤ 20) {k : Nat} (hk : l.length * (l.length + 2) + 50 ≤ k) :
    ∃ R : List Int, assartref08_Refs.f k l kp rs [] = some R ∧ R.length = l.length ∧ ∀ i : Nat, i < l.length → rd R (i : Nat) = ((refN l rs i : Nat) : Int) := by
  unfold assartref08_Refs.f
  exact refs_l0 l kp rs hl ho hr l.length 0 k [] (by omega) rfl (fun i hi => by omega) hk
end Go.Proofs.Ytflndiikeoflfaa.P
end
section
namespace Go.Proofs.Ytflndiikeoflfaa.P
open Go.RowKit Go.Proofs.YtflndiikeoflfaaW.PrintWords Go.Proofs.YtflndiikeoflfaaW.PrintLast Go.Proofs.YtflndiikeoflfaaW.PrintMore
set_option linter.unusedVariables false
set_option linter.unusedSimpArgs false
def Sh (l g : List S38) : Prop := g.length = l.length ∧ ∀ p : Int, (rd_T38 g p).f2 = (rd_T38 l p).f2 ∧ (0 < (rd_T38 g p).f0 ↔ 0 < (rd_T38 l p).f0)
theorem tellsL_eq (q f0 f0' : Int) (f1 f1' lf : Bool) (it : List S46) (h : 0 < f0' ↔ 0 < f0) : ∀ (k : Nat), (∀ n j : Int, assartref08_Tells.l0 k q n j f0' f1' lf it = assartref08_Tells.l0 k q n j f0 f1 lf it) ∧ (∀ (n j : Int) (b : Bool), assartref08_Tells.j1 k q n j b f0' f1' lf it = assartref08_Tells.j1 k q n j b f0 f1 lf it) := by
  intro k
  induction k with
  | zero => exact ⟨fun _ _ => rfl, fun _ _ _ => rfl⟩
  | succ k ih =>
    refine ⟨fun n j => ?_, fun n j b => ?_⟩
    · rw [assartref08_Tells.l0, assartref08_Tells.l0]
      simp only [ih.2]
      by_cases c : f0 > 0
      · rw [if_pos c, if_pos (h.2 c)]
      · rw [if_neg c, if_neg (fun c' => c (h.1 c'))]
    · rw [assartref08_Tells.j1, assartref08_Tells.j1]
      simp only [ih.1]
theorem tells_eq {l g : List S38} (h : Sh l g) (kp : Int) (k : Nat) (ts : List ByteArray) (p q : Int) : assartref08_Tells.f k g kp ts p q = assartref08_Tells.f k l kp ts p q := by
  unfold assartref08_Tells.f
  rw [h.1, (h.2 p).1]
  simp only [(tellsL_eq q _ _ (rd_T38 l p).f1 (rd_T38 g p).f1 (rd_T38 l p).f2.f0 (rd_T38 l p).f2.f1 (h.2 p).2 k).1]
theorem heldL_eq {l g : List S38} (h : Sh l g) (kp : Int) : ∀ (k : Nat), (∀ ts x7 x9, assartref08_Held.l1 k ts x7 x9 g kp = assartref08_Held.l1 k ts x7 x9 l kp) ∧ (∀ ts x7 x9 x10 x11, assartref08_Held.l2 k ts x7 x9 x10 x11 g kp = assartref08_Held.l2 k ts x7 x9 x10 x11 l kp) ∧
    (∀ ts x7 x9 x10 x11 x12, assartref08_Held.l3 k ts x7 x9 x10 x11 x12 g kp = assartref08_Held.l3 k ts x7 x9 x10 x11 x12 l kp) ∧ (∀ ts x7 x9 x10 x11 x12 b, assartref08_Held.j4 k ts x7 x9 x10 x11 x12 b g kp = assartref08_Held.j4 k ts x7 x9 x10 x11 x12 b l kp) := by
  intro k
  induction k with
  | zero => exact ⟨fun _ _ _ => rfl, fun _ _ _ _ _ => rfl, fun _ _ _ _ _ _ => rfl, fun _ _ _ _ _ _ _ => rfl⟩
  | succ k ih =>
    obtain ⟨i1, i2, i3, i4⟩ := ih
    refine ⟨fun ts x7 x9 => ?_, fun ts x7 x9 x10 x11 => ?_, fun ts x7 x9 x10 x11 x12 => ?_, fun ts x7 x9 x10 x11 x12 b => ?_⟩
    · rw [assartref08_Held.l1, assartref08_Held.l1]
      simp only [i2]
    · rw [assartref08_Held.l2, assartref08_Held.l2]
      simp only [i1, i3, h.1]
    · rw [assartref08_Held.l3, assartref08_Held.l3]
      simp only [i4, h.1]
    · rw [assartref08_Held.j4, assartref08_Held.j4]
      simp only [i2, i3, tells_eq h]
theorem held_ends (l : List S38) (kp : Int) (hl : l.length ≤ 60) (ho : itemsOk l) (c : Nat) (hc : c = 2 * l.length + 6) :
    ∀ (m k : Nat), m + 40 ≤ k →
      (∀ (x7 : List Bool) (x9 : Nat), x7.length = l.length → x9 ≤ 25 → (25 - x9) * (l.length * c + 4) + 1 ≤ m → ∃ r, assartref08_Held.l1 k [] x7 (x9 : Int) l kp = some r ∧ r.length = l.length) ∧
      (∀ (x7 x10 : List Bool) (x9 x11 : Nat), x7.length = l.length → x10.length = l.length → x9 < 25 → x11 ≤ l.length → (l.length - x11) * c + 2 + ((24 - x9) * (l.length * c + 4) + 1) ≤ m → ∃ r, assartref08_Held.l2 k [] x7 (x9 : Int) x10 (x11 : Int) l kp = some r ∧ r.length = l.length) ∧
      (∀ (x7 x10 : List Bool) (x9 x11 x12 : Nat), x7.length = l.length → x10.length = l.length → x9 < 25 → x11 < l.length → x12 ≤ l.length → 2 * (l.length - x12) + 3 + ((l.length - (x11 + 1)) * c + 2 + ((24 - x9) * (l.length * c + 4) + 1)) ≤ m → ∃ r, assartref08_Held.l3 k [] x7 (x9 : Int) x10 (x11 : Int) (x12 : Int) l kp = some r ∧ r.length = l.length) ∧
      (∀ (x7 x10 : List Bool) (x9 x11 x12 : Nat) (b : Bool), x7.length = l.length → x10.length = l.length → x9 < 25 → x11 < l.length → x12 ≤ l.length → (x12 = l.length → b = false) → 2 * (l.length - x12) + 2 + ((l.length - (x11 + 1)) * c + 2 + ((24 - x9) * (l.length * c + 4) + 1)) ≤ m → ∃ r, assartref08_Held.j4 k [] x7 (x9 : Int) x10 (x11 : Int) (x12 : Int) b l kp = some r ∧ r.length = l.length) := by
  intro m
  induction m with
  | zero =>
    intro k hk
    exact ⟨fun _ _ _ _ h => by omega, fun _ _ _ _ _ _ _ _ h => by omega, fun _ _ _ _ _ _ _ _ _ _ h => by omega, fun _ _ _ _ _ _ _ _ _ _ _ _ h => by omega⟩
  | succ m ih =>
    intro k hk
    obtain ⟨k, rfl⟩ : ∃ k', k = k' + 1 := ⟨k - 1, by omega⟩
    obtain ⟨i1, i2, i3, i4⟩ := ih k (by omega)
    refine ⟨fun x7 x9 h7 h9 hm => ?_, fun x7 x10 x9 x11 h7 h10 h9 h11 hm => ?_, fun x7 x10 x9 x11 x12 h7 h10 h9 h11 h12 hm => ?_, fun x7 x10 x9 x11 x12 b h7 h10 h9 h11 h12 hb hm => ?_⟩
    · rw [assartref08_Held.l1]
      by_cases h : x9 < 25
      · rw [if_pos (by omega), Option.bind_some, if_pos (by simp; omega), List.nil_append]
        have e : 25 - x9 = (24 - x9) + 1 := by omega
        rw [e, Nat.succ_mul] at hm
        have := i2 x7 x7 x9 0 h7 h7 h (Nat.zero_le _) (by rw [Nat.sub_zero]; omega)
        exact this
      · rw [if_neg (by omega)]
        exact ⟨x7, rfl, h7⟩
    · rw [assartref08_Held.l2]
      by_cases h : x11 < l.length
      · rw [if_pos (by omega)]
        have e : l.length - x11 = (l.length - (x11 + 1)) + 1 := by omega
        rw [e, Nat.succ_mul] at hm
        have := i3 x7 x10 x9 x11 0 h7 h10 h9 h (Nat.zero_le _) (by omega)
        exact this
      · rw [if_neg (by omega), wsucc x9 (by omega)]
        exact i1 x10 (x9 + 1) h10 (by omega) (by rw [show 25 - (x9 + 1) = 24 - x9 by omega]; omega)
    · rw [assartref08_Held.l3]
      by_cases h : x12 < l.length
      · rw [if_pos (by omega), if_pos (by omega), if_pos (by omega)]
        exact i4 x7 x10 x9 x11 x12 _ h7 h10 h9 h11 h12 (fun e => by omega) (by omega)
      · rw [if_neg (by omega)]
        exact i4 x7 x10 x9 x11 x12 false h7 h10 h9 h11 h12 (fun _ => rfl) (by omega)
    · rw [assartref08_Held.j4]
      by_cases h : b = true
      · have h2 : x12 < l.length := by
          rcases Nat.lt_or_ge x12 l.length with h2 | h2
          · exact h2
          · have := hb (by omega); rw [this] at h; cases h
        rw [if_pos h, tells_val l kp x11 x12 h11 (ho x11 h11) (by omega), Option.bind_some, wsucc x12 (by omega)]
        by_cases h3 : ((tN (x12 : Int) (rd_T38 l (x11 : Nat)) : Nat) : Int) > 0
        · rw [if_pos h3, if_pos (by omega), if_pos (by omega), Int.toNat_natCast]
          exact i3 x7 (x10.set x12 true) x9 x11 (x12 + 1) h7 (by rw [List.length_set]; exact h10) h9 h11 (by omega) (by omega)
        · rw [if_neg h3]
          exact i3 x7 x10 x9 x11 (x12 + 1) h7 h10 h9 h11 (by omega) (by omega)
      · rw [if_neg h, wsucc x11 (by omega)]
        exact i2 x7 x10 x9 (x11 + 1) h7 h10 h9 (by omega) (by omega)
theorem rdB_set (x : List Bool) (j i : Nat) (b : Bool) (h : j < x.length) : rdOf false (x.set j b) (i : Nat) = if j = i then b else rdOf false x (i : Nat) := by
  simp only [rdOf, Int.toNat_natCast, List.getD_eq_getElem?_getD]
  rw [List.getElem?_set]
  by_cases e : j = i
  · subst e
    rw [if_pos rfl, if_pos rfl, if_pos h]
    rfl
  · rw [if_neg e, if_neg e]
theorem held_l0 (l : List S38) (kp : Int) (rs : List Int) (hl : l.length ≤ 60) (hr : rs.length ≤ 20) : ∀ (d j k : Nat) (x7 : List Bool), j + d = l.length → x7.length = l.length → (∀ i : Nat, i < j → rdOf false x7 (i : Nat) = decide (0 < outN rs i)) → d + 60 ≤ k →
    ∃ (y : List Bool) (k' : Nat), k = k' + d + 1 ∧ y.length = l.length ∧ (∀ i : Nat, i < l.length → rdOf false y (i : Nat) = decide (0 < outN rs i)) ∧ assartref08_Held.l0 k rs [] x7 (j : Int) l kp = assartref08_Held.l1 k' [] y 0 l kp := by
  intro d
  induction d with
  | zero =>
    intro j k x7 hj h7 hs hk
    obtain ⟨k, rfl⟩ : ∃ m, k = m + 1 := ⟨k - 1, by omega⟩
    refine ⟨x7, k, rfl, h7, fun i hi => hs i (by omega), ?_⟩
    rw [assartref08_Held.l0, if_neg (by omega)]
  | succ d ih =>
    intro j k x7 hj h7 hs hk
    obtain ⟨k, rfl⟩ : ∃ m, k = m + 1 := ⟨k - 1, by omega⟩
    have e : decide (((outN rs (j : Int) : Nat) : Int) > 0) = decide (0 < outN rs (j : Int)) := by rw [decide_eq_decide]; omega
    obtain ⟨y, k', hk', hy, hys, hyl⟩ := ih (j + 1) k (x7.set j (decide (0 < outN rs (j : Int)))) (by omega) (by rw [List.length_set]; exact h7) (fun i hi => by
      rw [rdB_set _ _ _ _ (by omega)]
      by_cases e : j = i
      · rw [if_pos e, e]
      · rw [if_neg e]; exact hs i (by omega)) (by omega)
    refine ⟨y, k', by omega, hy, hys, ?_⟩
    rw [assartref08_Held.l0, if_pos (by omega), outside_val rs j hr (by omega), Option.bind_some, if_pos (by omega), if_pos (by omega), wsucc j (by omega), e, Int.toNat_natCast]
    exact hyl
theorem bools_eq {x y : List Bool} (h : x.length = y.length) (hr : ∀ i : Nat, i < x.length → rdOf false x (i : Nat) = rdOf false y (i : Nat)) : x = y := by
  apply List.ext_getElem h
  intro i h1 h2
  have := hr i h1
  simp only [rdOf, Int.toNat_natCast, List.getD_eq_getElem?_getD, List.getElem?_eq_getElem h1, List.getElem?_eq_getElem h2, Option.getD_some] at this
  exact this
theorem held_val (l g : List S38) (kp : Int) (rs rs' : List Int) (hl : l.length ≤ 60) (ho : itemsOk l) (hr : rs.length ≤ 20) (hr' : rs'.length ≤ 20) (h : Sh l g) (hrr : ∀ i : Nat, 0 < outN rs' (i : Int) ↔ 0 < outN rs (i : Int)) {k : Nat} (hk : 300000 ≤ k) :
    ∃ H : List Bool, assartref08_Held.f k l kp rs [] = some H ∧ assartref08_Held.f k g kp rs' [] = some H ∧ H.length = l.length := by
  unfold assartref08_Held.f
  have hg := h.1
  rw [if_pos (by omega), if_pos (by omega), if_pos (by omega), if_pos (by omega), Int.toNat_natCast, Int.toNat_natCast]
  obtain ⟨y, k1, e1, y1, y2, y3⟩ := held_l0 l kp rs hl hr l.length 0 k (List.replicate l.length false) (by omega) (by simp) (fun i hi => by omega) (by omega)
  obtain ⟨z, k2, e2, z1, z2, z3⟩ := held_l0 g kp rs' (by omega) hr' g.length 0 k (List.replicate g.length false) (by omega) (by simp) (fun i hi => by omega) (by omega)
  obtain rfl : k1 = k2 := by omega
  have hzy : z = y := bools_eq (by omega) (fun i hi => by
    rw [z2 i (by omega), y2 i (by omega), decide_eq_decide]
    exact hrr i)
  rw [show ((0 : Nat) : Int) = 0 from rfl] at y3 z3
  rw [y3, z3, hzy, (heldL_eq h kp k1).1]
  have hb : 25 * (l.length * (2 * l.length + 6) + 4) + 1 ≤ 190000 := by
    have : l.length * (2 * l.length + 6) ≤ 60 * 126 := Nat.mul_le_mul hl (by omega)
    omega
  obtain ⟨r, hr1, hr2⟩ := (held_ends l kp hl ho _ rfl 190000 k1 (by omega)).1 y 0 y1 (by omega) hb
  exact ⟨r, hr1, hr1, hr2⟩
theorem sound_l0 (l : List S38) (kp : Int) (R : List Int) (H : List Bool) (hl : l.length ≤ 60) (hR : R.length = l.length) (hH : H.length = l.length) : ∀ (d j k : Nat), j + d = l.length → d + 1 ≤ k →
    assartref08_Sound.l0 k R H (j : Int) l kp = some (decide (∀ i : Nat, i < l.length → j ≤ i → (rd_T38 l (i : Nat)).f0 = rd R (i : Nat) ∧ rdOf false H (i : Nat) = decide (0 < (rd_T38 l (i : Nat)).f0))) := by
  intro d
  induction d with
  | zero =>
    intro j k hj hk
    obtain ⟨k, rfl⟩ : ∃ m, k = m + 1 := ⟨k - 1, by omega⟩
    rw [assartref08_Sound.l0, if_neg (by omega), decide_eq_true (fun i h1 h2 => by omega)]
  | succ d ih =>
    intro j k hj hk
    obtain ⟨k, rfl⟩ : ∃ m, k = m + 1 := ⟨k - 1, by omega⟩
    rw [assartref08_Sound.l0, if_pos (by omega), if_pos (by omega), if_pos (by omega)]
    by_cases h1 : (rd_T38 l (j : Nat)).f0 = rd R (j : Nat)
    · rw [if_pos h1, if_pos (by omega)]
      by_cases h2 : rdOf false H (j : Nat) = decide (0 < (rd_T38 l (j : Nat)).f0)
      · rw [if_neg (by rw [h2]; simp), wsucc j (by omega), ih (j + 1) k (by omega) (by omega)]
        congr 1
        rw [decide_eq_decide]
        constructor
        · intro h i hi hj
          by_cases e : i = j
          · rw [e]; exact ⟨h1, h2⟩
          · exact h i hi (by omega)
        · intro h i hi hj
          exact h i hi (by omega)
      · rw [if_pos (by
          rw [bne_iff_ne]
          exact h2), decide_eq_false (fun h => h2 (h j (by omega) (Nat.le_refl _)).2)]
    · rw [if_neg h1, decide_eq_false (fun h => h1 (h j (by omega) (Nat.le_refl _)).1)]
end Go.Proofs.Ytflndiikeoflfaa.P
end
section
namespace Go.Proofs.Ytflndiikeoflfaa.P
open Go.RowKit Go.Proofs.YtflndiikeoflfaaW.PrintWords Go.Proofs.YtflndiikeoflfaaW.PrintLast Go.Proofs.YtflndiikeoflfaaW.PrintMore
attribute [local go_sem] max2_int min2_int max_two min_two max_three min_three max_four min_four
set_option linter.unusedVariables false
set_option linter.unusedSimpArgs false
mutual
def assartref07_Nodes.l0 : Nat → List Int → Int → List (S38) → Int → Bool → List (S46) → Option (List Int)
 | 0, _, _, _, _, _, _ => none
 | k + 1, x5, x7, x254000, x254001, x259000, x259001 => if x7 < (x259001.length : Int) then (if x259000 = true then (some x5) else (if 0 ≤ x7 then ((assartref07_Nodes.f k x254000 x254001 ((rd_T46 x259001 x7).f1)).bind fun t260 => (if x5.length + t260.length < 17592186044416 then (assartref07_Nodes.l0 k (x5 ++ t260) (wrap64 (x7 + 1)) x254000 x254001 x259000 x259001) else (none))) else (none))) else (some x5)
def assartref07_Nodes.f : Nat → List (S38) → Int → Int → Option (List Int)
 | 0, _, _, _ => none
 | k + 1, l0_0, a0_1, a1 => if a1 < 0 then (some ([] : List Int)) else (if 0 ≤ a1 then (if a1 < (l0_0.length : Int) then (assartref07_Nodes.l0 k (([a1] : List Int)) 0 l0_0 a0_1 ((rd_T38 l0_0 a1).f2.f0) ((rd_T38 l0_0 a1).f2.f1)) else (none)) else (none))
end
def assartref07_Nodes.T8 : Bool × List (List Nat × List Nat) := (true, [([], []), ([], []), ([], []), ([2], [2]), ([], []), ([3, 4], [3, 4]), ([5], [5]), ([6], [6]), ([1, 7], [1, 7]), ([0, 8, 8], [0, 8]), ([9, 9, 0, 1, 2, 3, 4, 5, 6, 7, 8, 9], [0, 9])])
def assartref07_Nodes.B8 : List Nat := [0, 0, 0, 4, 0, 28, 60, 124, 254, 511, 1023]
theorem assartref07_Nodes.tab8 : rtab .any (opsOf Try.f9 8) = assartref07_Nodes.T8 := by kernel_rfl
theorem assartref07_Nodes.bits8 : waitsOk assartref07_Nodes.T8.2 assartref07_Nodes.B8 = true := by kernel_rfl
set_option maxHeartbeats 8000000 in
set_option maxRecDepth 100000 in
theorem assartref07_Nodes.calls (k : Nat) : ∀ (A0_0 : Option Addr) (c0_0 : Nat) (l0_0 : List (S38)) (a0_1 : Int) (a1 : Int) (r : List Int) (w : World) (hr0_0 : Kd.C k38 w A0_0 l0_0.length l0_0) (hc0_0 : l0_0.length ≤ c0_0) (h : assartref07_Nodes.f k l0_0 a0_1 a1 = some r),
  Calls Try.prog 9 #[.agg #[.slice A0_0 l0_0.length c0_0, .int .i64 a0_1], .int .i64 a1] w fun e w' => ∃ v0_ : Value, e = .returned (v0_) ∧ Kd.R (Kd.int .i64) 3 w' w.heap.size (fun _ => True) v0_ r ∧ Below w.heap.size w w' := by
 induction k using Nat.strongRecOn with
 | _ k ih =>
 intro A0_0 c0_0 l0_0 a0_1 a1 r w hr0_0 hc0_0 h
 cases k with
 | zero => exact absurd h (by simp [assartref07_Nodes.f])
 | succ k =>
 simp only [assartref07_Nodes.f] at h
 have hu24 := Try.underlying24
 have hu36 := Try.underlying36
 have HR0_0 := Aside0.mk hr0_0
 have HC0_0 := Aside0.mk hc0_0
 clear hr0_0 hc0_0
 have HB := Aside0.mk (Below.refl w.heap.size w)
 have H : (if a1 < 0 then (some ([] : List Int)) else (if 0 ≤ a1 then (if a1 < (l0_0.length : Int) then (assartref07_Nodes.l0 k (([a1] : List Int)) 0 l0_0 a0_1 ((rd_T38 l0_0 a1).f2.f0) ((rd_T38 l0_0 a1).f2.f1)) else (none)) else (none))) = some r := h
 clear h
 by_cases c3 : a1 < 0
 ·rw [if_pos c3] at H
  have c3b0 : decide (a1 < 0) = true := decide_eq_true c3
  clear c3
  obtain rfl := Option.some.inj H
  go_enter Try.func9, Try.ntmps9
  go_wp2_with (first | ((with_reducible refine gate_dst (N := 2) rfl ?_); refine box_event ?hg (N := 2) ?hd (cs := #[.slice A0_0 l0_0.length c0_0, .int .i64 a0_1]) (t := 24) ?hr ?_; (case hd => rfl); (case hg => rfl); (case hr => first | (go_simp; done) | (go_simp; rfl)); intro gb253 hg w4 hbox hb; have n0_ := Aside0.mk (below_step (by repeat (first | (with_reducible first | exact HB.out | apply below_alloc | apply pw_below_drewN | apply below_drew1) | exact HB.out)) hb); have n1_ := Aside0.mk (hbox); have n2_ := Aside0.mk ((by rw [hg]; exact (below_size (by repeat (first | (with_reducible first | exact HB.out | apply below_alloc | apply pw_below_drewN | apply below_drew1) | exact HB.out))) : w.heap.size ≤ gb253)); have n3_ := Aside0.mk ((by rw [hg]; exact (below_size (by repeat (first | (with_reducible first | exact HB.out | apply below_alloc | apply pw_below_drewN | apply below_drew1) | exact HB.out))) : w.heap.size ≤ gb253)); clear HB; have HB := n0_; have BK253 := n1_; have GW253 := n2_; have GE253 := n3_; clear n0_ n1_ n2_ n3_; clear hb hbox hg))
  go_ret
  exact ⟨_, by first | rfl | (simp [errW_none, errW_some] <;> rfl) | (simp [*, errW_none, errW_some] <;> rfl), by first | exact Kd.R_nil _ _ _ _ _ | exact Kd.N_nil _ _ _ _ _ | exact Kd.V_nil _ _ _ _ _ | exact Kd.Q_nil _ _ _ _ _ | exact Kd.S_nil _ _ _ _ _, by repeat (first | (with_reducible first | exact HB.out | apply below_alloc | apply pw_below_drewN | apply below_drew1 | refine below_set ?_ GE253.out) | exact HB.out)⟩
 ·rw [if_neg c3] at H
  have c3b0 : decide (a1 < 0) = false := decide_eq_false c3
  clear c3
  obtain ⟨y254, hy254⟩ : ∃ y_ : List Int, y_ = (([a1] : List Int)) := ⟨_, rfl⟩
  replace H : (if 0 ≤ a1 then (if a1 < (l0_0.length : Int) then (assartref07_Nodes.l0 k y254 0 l0_0 a0_1 ((rd_T38 l0_0 a1).f2.f0) ((rd_T38 l0_0 a1).f2.f1)) else (none)) else (none)) = some r := by first | (rw [hy254]; with_reducible exact H) | (have H2_ := (Option.bind_some _ _).symm.trans H; rw [hy254]; with_reducible exact H2_) | (have H2_ := (Option.bind_some _ _).symm.trans H; with_reducible exact H2_) | with_reducible exact H | (rw [hy254]; exact H) | exact H
  have Ny254 := Aside0.mk hy254
  clear hy254
  by_cases c5 : 0 ≤ a1
  ·rw [if_pos c5] at H
   have c5b0 : decide (0 ≤ a1) = true := decide_eq_true c5
   clear c5
   by_cases c6 : a1 < (l0_0.length : Int)
   ·rw [if_pos c6] at H
    have c6b0 : decide (a1 < (l0_0.length : Int)) = true := decide_eq_true c6
    clear c6
    have H' := Aside0.mk H
    clear H
    go_enter Try.func9, Try.ntmps9
    go_wp2_with (first | ((with_reducible refine gate_dst (N := 2) rfl ?_); refine box_event ?hg (N := 2) ?hd (cs := #[.slice A0_0 l0_0.length c0_0, .int .i64 a0_1]) (t := 24) ?hr ?_; (case hd => rfl); (case hg => rfl); (case hr => first | (go_simp; done) | (go_simp; rfl)); intro gb253 hg w7 hbox hb; have n0_ := Aside0.mk (below_step (by repeat (first | (with_reducible first | exact HB.out | apply below_alloc | apply pw_below_drewN | apply below_drew1) | exact HB.out)) hb); have n1_ := Aside0.mk (hbox); have n2_ := Aside0.mk ((by rw [hg]; exact (below_size (by repeat (first | (with_reducible first | exact HB.out | apply below_alloc | apply pw_below_drewN | apply below_drew1) | exact HB.out))) : w.heap.size ≤ gb253)); have n3_ := Aside0.mk ((by rw [hg]; exact (below_size (by repeat (first | (with_reducible first | exact HB.out | apply below_alloc | apply pw_below_drewN | apply below_drew1) | exact HB.out))) : w.heap.size ≤ gb253)); clear HB; have HB := n0_; have BK253 := n1_; have GW253 := n2_; have GE253 := n3_; clear n0_ n1_ n2_ n3_; clear hb hbox hg) | ((with_reducible refine gate_dst (N := 11) rfl ?_); refine Kd.R_lit (Kd.int .i64) _ 3 ?hg (N := 11) ?hd (xs := ([a1] : List Int)) (inner := [.int .i64 a1]) (ok := fun _ => True) (okp := fun _ => True) ?hr ?hp (fun _ hk => hk) trivial (Below.refl _ _) (Nat.le_refl _) (by simp) ?_; (case hd => rfl); (case hg => rfl); (case hr => first | (go_simp; done) | (go_simp; rfl)); (case hp => exact (Reps.one (show Kd.M (Kd.int .i64) _ _ _ a1 [.int .i64 a1] from rfl) (Reps.none _ _))); intro v255 w8 ho9 hb hg_ hnew_; clear hg_ hnew_; (first | rw [← Ny254.out] at ho9 | (simp only [Int.reduceToNat] at ho9; rw [← Ny254.out] at ho9)); have n0_ := Aside0.mk (Kd.R_lower ho9 (below_size (by repeat (first | (with_reducible first | exact HB.out | apply below_alloc | apply pw_below_drewN | apply below_drew1 | refine below_set ?_ GE253.out) | exact HB.out)))); have n1_ := Aside0.mk (blk_below (g := gb253) (o := .cells #[.slice A0_0 l0_0.length c0_0, .int .i64 a0_1] 24 (0, 0)) (by (with_reducible repeat (first | refine blk_drewN ?_ _ | refine blk_drew ?_ | refine blk_alloc ?_ _)); exact BK253.out) hb); have n2_ := Aside0.mk (below_step (by repeat (first | (with_reducible first | exact HB.out | apply below_alloc | apply pw_below_drewN | apply below_drew1 | refine below_set ?_ GE253.out) | exact HB.out)) hb); clear BK253; clear HB; have HO256 := n0_; have BK253 := n1_; have HB := n2_; clear n0_ n1_ n2_; clear hb ho9; have hcz10_0 : w8.cell? ⟨gb253, 0, none⟩ = some (.slice A0_0 l0_0.length c0_0) := (blk_cell BK253.out 0).trans rfl; have hcz10_1 : w8.cell? ⟨gb253, 1, none⟩ = some (.int .i64 a0_1) := (blk_cell BK253.out 1).trans rfl; have hfz10_0 := blk_frozen BK253.out 0; have hfz10_1 := blk_frozen BK253.out 1; have p257 : 0 ≤ (a1 : Int) := of_decide_eq_true (by first | (with_reducible assumption) | assumption); have q257 : a1 < (l0_0.length : Int) := of_decide_eq_true (by first | (with_reducible assumption) | assumption); obtain ⟨ad257, A257_3, c257_3, e257, hx257_0, hx257_1, hx257_2, hx257_3, hl257_3, hi257_3⟩ := at_T38 HR0_0.out a1 p257 q257; cases e257; replace hx257_0 := (HB.out.cell (World.block_lt_of_cell? w _ hx257_0)).trans hx257_0; replace hx257_1 := (HB.out.cell (World.block_lt_of_cell? w _ hx257_1)).trans hx257_1; replace hx257_2 := (HB.out.cell (World.block_lt_of_cell? w _ hx257_2)).trans hx257_2; replace hx257_3 := (HB.out.cell (World.block_lt_of_cell? w _ hx257_3)).trans hx257_3; have HR257_3 := Aside0.mk hi257_3; have HC257_3 := Aside0.mk hl257_3; clear hi257_3 hl257_3; replace p257 := eq_true p257; replace q257 := eq_true q257) | ((with_reducible refine gate_dst (N := 6) rfl ?_); refine box_event ?hg (N := 6) ?hd (cs := #[.bool false, .slice none 0 0]) (t := 36) ?hr ?_; (case hd => rfl); (case hg => rfl); (case hr => first | (go_simp; done) | (go_simp; rfl)); intro gb258 hg w11 hbox hb; have n0_ := Aside0.mk (Kd.R_below (by (with_reducible repeat (first | apply Kd.R_alloc | apply Kd.R_drewN | apply Kd.R_drew)); exact HO256.out) hb); have n1_ := Aside0.mk (blk_below (g := gb253) (o := .cells #[.slice (some ad257) l0_0.length c0_0, .int .i64 a0_1] 24 (0, 0)) (by (with_reducible repeat (first | refine blk_drewN ?_ _ | refine blk_drew ?_ | refine blk_alloc ?_ _)); exact BK253.out) hb); have n2_ := Aside0.mk (below_step (by repeat (first | (with_reducible first | exact HB.out | apply below_alloc | apply pw_below_drewN | apply below_drew1 | refine below_set ?_ GE253.out) | exact HB.out)) hb); have n3_ := Aside0.mk (hbox); have n4_ := Aside0.mk ((by rw [hg]; exact (below_size (by repeat (first | (with_reducible first | exact HB.out | apply below_alloc | apply pw_below_drewN | apply below_drew1 | refine below_set ?_ GE253.out) | exact HB.out))) : w.heap.size ≤ gb258)); have n5_ := Aside0.mk ((by rw [hg]; exact (below_size (by repeat (first | (with_reducible first | exact HB.out | apply below_alloc | apply pw_below_drewN | apply below_drew1 | refine below_set ?_ GE253.out) | exact HB.out))) : w.heap.size ≤ gb258)); have n6_ := Aside0.mk ((by rw [hg]; exact Nat.ne_of_lt (blk_lt (g := gb253) (o := .cells #[.slice (some ad257) l0_0.length c0_0, .int .i64 a0_1] 24 (0, 0)) (by (with_reducible repeat (first | refine blk_drewN ?_ _ | refine blk_drew ?_ | refine blk_alloc ?_ _)); exact BK253.out)) : gb253 ≠ gb258)); have n7_ := Aside0.mk ((by rw [hg]; exact Nat.ne_of_gt (blk_lt (g := gb253) (o := .cells #[.slice (some ad257) l0_0.length c0_0, .int .i64 a0_1] 24 (0, 0)) (by (with_reducible repeat (first | refine blk_drewN ?_ _ | refine blk_drew ?_ | refine blk_alloc ?_ _)); exact BK253.out)) : gb258 ≠ gb253)); clear HO256; clear BK253; clear HB; have HO256 := n0_; have BK253 := n1_; have HB := n2_; have BK258 := n3_; have GW258 := n4_; have GE258 := n5_; have NB253_258 := n6_; have NB258_253 := n7_; clear n0_ n1_ n2_ n3_ n4_ n5_ n6_ n7_; clear hb hbox hg; have hnb12 := NB258_253.out; have hnc12 := NB253_258.out; have hcz13_0 : w11.cell? ⟨gb258, 0, none⟩ = some (.bool false) := (blk_cell BK258.out 0).trans rfl; have hcz13_1 : w11.cell? ⟨gb258, 1, none⟩ = some (.slice none 0 0) := (blk_cell BK258.out 1).trans rfl; have hfz13_0 := blk_frozen BK258.out 0; have hfz13_1 := blk_frozen BK258.out 1))
    go_loopg [5, 7] k (fun kq v5 v7 w' => ∃ (x5_1 : List Int) (x7_1 : Int), v7 = .int .i64 x7_1 ∧ Aside0 (assartref07_Nodes.l0 kq x5_1 x7_1 l0_0 a0_1 ((rd_T38 l0_0 a1).f2.f0) ((rd_T38 l0_0 a1).f2.f1) = some r) ∧ Aside0 (kq ≤ k) ∧ Aside0 (Kd.R (Kd.int .i64) 3 w' w.heap.size (fun _ => True) v5 x5_1) ∧ Aside0 (w'.heap[gb253]? = some (.cells #[(.slice (some ad257) l0_0.length c0_0), .int .i64 a0_1] 24 (0, 0))) ∧ Aside0 (w'.heap[gb258]? = some (.cells #[.bool ((rd_T38 l0_0 a1).f2.f0), (.slice A257_3 ((rd_T38 l0_0 a1).f2.f1).length c257_3)] 36 (0, 0))) ∧ Aside0 (Below w.heap.size w w'))
    case atStart => exact ⟨(y254), (0), (by first | rfl | (simp; done) | (simp [*]; done)), H', ⟨Nat.le_refl _⟩, ⟨by (with_reducible repeat (first | apply Kd.R_alloc | apply Kd.R_drewN | apply Kd.R_drew)); exact Kd.R_mono (Kd.R_far (p := ⟨gb258, 1, none⟩) (Kd.R_far (p := ⟨gb258, 0, none⟩) (Kd.R_types HO256.out BK258.out (by decide)) (fun _ hk => hk.2) (.bool ((rd_T38 l0_0 a1).f2.f0))) (fun _ hk => hk.2) (.slice A257_3 ((rd_T38 l0_0 a1).f2.f1).length c257_3)) (fun _ hk => trivial)⟩, ⟨by (with_reducible repeat (first | refine blk_drewN ?_ _ | refine blk_drew ?_ | refine blk_alloc ?_ _)); refine blk_far ?_ NB253_258.out _; (with_reducible repeat (first | refine blk_drewN ?_ _ | refine blk_drew ?_ | refine blk_alloc ?_ _)); refine blk_far ?_ NB253_258.out _; (with_reducible repeat (first | refine blk_drewN ?_ _ | refine blk_drew ?_ | refine blk_alloc ?_ _)); exact BK253.out⟩, ⟨by (with_reducible repeat (first | refine blk_drewN ?_ _ | refine blk_drew ?_ | refine blk_alloc ?_ _)); refine blk_put (cs := #[.bool ((rd_T38 l0_0 a1).f2.f0), .slice none 0 0]) ?_ 1 _ rfl; (with_reducible repeat (first | refine blk_drewN ?_ _ | refine blk_drew ?_ | refine blk_alloc ?_ _)); refine blk_put (cs := #[.bool false, .slice none 0 0]) ?_ 0 _ rfl; (with_reducible repeat (first | refine blk_drewN ?_ _ | refine blk_drew ?_ | refine blk_alloc ?_ _)); exact BK258.out⟩, ⟨by repeat (first | (with_reducible first | exact HB.out | apply below_alloc | apply pw_below_drewN | apply below_drew1 | refine below_set ?_ GE253.out | refine below_set ?_ GE258.out) | exact HB.out)⟩⟩
    case round =>
     clear H'
     try clear c1
     try clear c2
     try clear p2
     try clear q2
     try clear hx2
     try clear c3
     try clear c3b0
     try clear c5
     try clear c5b0
     try clear c6
     try clear c6b0
     try clear c9
     try clear c12
     try clear hcz10_0
     try clear hcz10_1
     try clear hcz13_0
     try clear hcz13_1
     try clear hfz10_0
     try clear hfz10_1
     try clear hfz13_0
     try clear hfz13_1
     try clear hx257_0
     try clear hx257_1
     try clear hx257_2
     try clear hx257_3
     try clear p257
     try clear q257
     obtain ⟨x5_1, x7_1, rfl, HA, HK1, HO_5, BK253, BK258, HB⟩ := hrel
     cases gk with
     | zero => exact absurd HA.out (by simp [assartref07_Nodes.l0])
     | succ k1 =>
      have H := HA.out
      clear HA
      simp only [assartref07_Nodes.l0] at H
      by_cases c14 : x7_1 < (((rd_T38 l0_0 a1).f2.f1).length : Int)
      ·rw [if_pos c14] at H
       have c14b0 : decide (x7_1 < (((rd_T38 l0_0 a1).f2.f1).length : Int)) = true := decide_eq_true c14
       clear c14
       by_cases c15 : ((rd_T38 l0_0 a1).f2.f0) = true
       ·rw [if_pos c15] at H
        have c15b0 : ((rd_T38 l0_0 a1).f2.f0) = true := c15
        clear c15
        obtain rfl := Option.some.inj H
        have hnb16 := NB258_253.out
        have hnc16 := NB253_258.out
        have hcz17_0 : wr.cell? ⟨gb258, 0, none⟩ = some (.bool ((rd_T38 l0_0 a1).f2.f0)) := (blk_cell BK258.out 0).trans rfl
        have hcz17_1 : wr.cell? ⟨gb258, 1, none⟩ = some (.slice A257_3 ((rd_T38 l0_0 a1).f2.f1).length c257_3) := (blk_cell BK258.out 1).trans rfl
        have hfz17_0 := blk_frozen BK258.out 0
        have hfz17_1 := blk_frozen BK258.out 1
        go_wp2
        go_ret
        exact ⟨_, by first | rfl | (simp [errW_none, errW_some] <;> rfl) | (simp [*, errW_none, errW_some] <;> rfl), by (with_reducible repeat (first | apply Kd.R_alloc | apply Kd.R_drewN | apply Kd.R_drew)); exact HO_5.out, by repeat (first | (with_reducible first | exact HB.out | apply below_alloc | apply pw_below_drewN | apply below_drew1 | refine below_set ?_ GE253.out | refine below_set ?_ GE258.out) | exact HB.out)⟩
       ·rw [if_neg c15] at H
        have c15b0 : ((rd_T38 l0_0 a1).f2.f0) = false := by simpa using c15
        clear c15
        by_cases c18 : 0 ≤ x7_1
        ·rw [if_pos c18] at H
         have c18b0 : decide (0 ≤ x7_1) = true := decide_eq_true c18
         clear c18
         replace H := Option.bind_eq_some_iff.mp H
         obtain ⟨t260, A190, H⟩ := H
         replace H : (if x5_1.length + t260.length < 17592186044416 then (assartref07_Nodes.l0 k1 (x5_1 ++ t260) (wrap64 (x7_1 + 1)) l0_0 a0_1 ((rd_T38 l0_0 a1).f2.f0) ((rd_T38 l0_0 a1).f2.f1)) else (none)) = some r := H
         have A19 := Aside0.mk A190
         clear A190
         by_cases c20 : x5_1.length + t260.length < 17592186044416
         ·rw [if_pos c20] at H
          have LMc20 := Aside0.mk c20
          clear c20
          obtain ⟨y263, hy263⟩ : ∃ y_ : List Int, y_ = (x5_1 ++ t260) := ⟨_, rfl⟩
          replace H : (assartref07_Nodes.l0 k1 y263 (wrap64 (x7_1 + 1)) l0_0 a0_1 ((rd_T38 l0_0 a1).f2.f0) ((rd_T38 l0_0 a1).f2.f1)) = some r := by first | (rw [hy263]; with_reducible exact H) | (have H2_ := (Option.bind_some _ _).symm.trans H; rw [hy263]; with_reducible exact H2_) | (have H2_ := (Option.bind_some _ _).symm.trans H; with_reducible exact H2_) | with_reducible exact H | (rw [hy263]; exact H) | exact H
          have Ny263 := Aside0.mk hy263
          clear hy263
          have H' := Aside0.mk H
          clear H
          have hnb21 := NB258_253.out
          have hnc21 := NB253_258.out
          have hcz22_0 : wr.cell? ⟨gb258, 0, none⟩ = some (.bool ((rd_T38 l0_0 a1).f2.f0)) := (blk_cell BK258.out 0).trans rfl
          have hcz22_1 : wr.cell? ⟨gb258, 1, none⟩ = some (.slice A257_3 ((rd_T38 l0_0 a1).f2.f1).length c257_3) := (blk_cell BK258.out 1).trans rfl
          have hfz22_0 := blk_frozen BK258.out 0
          have hfz22_1 := blk_frozen BK258.out 1
          try go_wp2
          have n0_ := Aside0.mk (Kd.R_drew HO_5.out)
          have n1_ := Aside0.mk (blk_drew BK253.out)
          have n2_ := Aside0.mk (blk_drew BK258.out)
          have n3_ := Aside0.mk (below_drew1 HB.out)
          clear HO_5
          clear BK253
          clear BK258
          clear HB
          have HO_5 := n0_
          have BK253 := n1_
          have BK258 := n2_
          have HB := n3_
          clear n0_ n1_ n2_ n3_
          have p259 : 0 ≤ (x7_1 : Int) := of_decide_eq_true (by first | (with_reducible assumption) | assumption)
          have q259 : x7_1 < (((rd_T38 l0_0 a1).f2.f1).length : Int) := of_decide_eq_true (by first | (with_reducible assumption) | assumption)
          obtain ⟨ad259, e259, hx259_0, hx259_1⟩ := at_T46 HR257_3.out x7_1 p259 q259
          have hw259_1 := hx259_1
          have hw259_0 := hx259_0
          cases e259
          replace hx259_0 := (HB.out.cell (World.block_lt_of_cell? w _ hx259_0)).trans hx259_0
          replace hx259_1 := (HB.out.cell (World.block_lt_of_cell? w _ hx259_1)).trans hx259_1
          replace p259 := eq_true p259
          replace q259 := eq_true q259
          refine start_ (n := 11) (S := fun w' => w'.cell? ⟨gb253, 0, none⟩ = some (.slice (some ad257) l0_0.length c0_0) ∧ w'.cell? ⟨gb253, 1, none⟩ = some (.int .i64 a0_1) ∧ w'.cell? ⟨gb258, 0, none⟩ = some (.bool ((rd_T38 l0_0 a1).f2.f0)) ∧ w'.cell? ⟨gb258, 1, none⟩ = some (.slice (some ad259) ((rd_T38 l0_0 a1).f2.f1).length c257_3) ∧ w'.cell? (ad259.add ((x7_1).toNat * 2)) = some (.int .i64 ((rd_T46 ((rd_T38 l0_0 a1).f2.f1) x7_1).f0)) ∧ w'.cell? ⟨(ad259.add ((x7_1).toNat * 2)).block, (ad259.add ((x7_1).toNat * 2)).off + 1, none⟩ = some (.int .i64 ((rd_T46 ((rd_T38 l0_0 a1).f2.f1) x7_1).f1))) (ds := []) #[false, false, false, false, false, false, false, false, false, false, false] (by kernel_rfl) rfl rfl ⟨(blk_cell BK253.out 0).trans rfl, (blk_cell BK253.out 1).trans rfl, (blk_cell BK258.out 0).trans rfl, (blk_cell BK258.out 1).trans rfl, ((HB.out.cell (World.block_lt_of_cell? w _ hw259_0)).trans hw259_0), ((HB.out.cell (World.block_lt_of_cell? w _ hw259_1)).trans hw259_1)⟩ (fun hHeld => ?_); refine with_tabW assartref07_Nodes.tab8 assartref07_Nodes.bits8 (fun HT_ HW_ => ?_)
          generalize wr.drew = w23 at HO_5 BK253 BK258 HB hx259_0 hx259_1 hHeld ⊢
          refine pure_ (i := 0) (N := some 30) (v := ?_) (a' := ?_) #[true, false, false, false, false, false, false, false, false, false, false] rfl rfl (any_of HT_.out (by kernel_rfl)) (fun _ _ _ h => h) (Or.inl ⟨by rfl, ?_⟩) ?_ ?_
          rotate_left
          ·intro w'
           go_simp
           with_reducible rfl
          rotate_left
          ·simp only [Act.put, List.setIfInBounds_toArray, List.set_cons_zero, List.set_cons_succ, i64_w, i32_w]
           rfl
          refine pure_ (i := 2) (N := some 32) (v := ?_) (a' := ?_) #[true, false, true, false, false, false, false, false, false, false, false] rfl rfl (any_of HT_.out (by kernel_rfl)) (fun _ _ _ h => h) (Or.inl ⟨by rfl, ?_⟩) ?_ ?_
          rotate_left
          ·intro w'
           go_simp
           with_reducible rfl
          rotate_left
          ·simp only [Act.put, List.setIfInBounds_toArray, List.set_cons_zero, List.set_cons_succ, i64_w, i32_w]
           rfl
          refine pure_ (i := 4) (N := some 34) (v := ?_) (a' := ?_) #[true, false, true, false, true, false, false, false, false, false, false] rfl rfl (any_of HT_.out (by kernel_rfl)) (fun _ _ _ h => h) (Or.inl ⟨by rfl, ?_⟩) ?_ ?_
          rotate_left
          ·intro w'
           go_simp
           with_reducible rfl
          rotate_left
          ·simp only [Act.put, List.setIfInBounds_toArray, List.set_cons_zero, List.set_cons_succ, i64_w, i32_w]
           rfl
          refine take_ (i := 1) (N := some 31) (v := ?_) (a' := ?_) #[true, true, true, false, true, false, false, false, false, false, false] rfl rfl (take_ofW HT_.out HW_.out (by kernel_rfl)) (fun _ _ _ h => h) (Or.inl ⟨by rfl, ?_⟩) hHeld ?_ ?_
          rotate_left
          ·rintro w' ⟨s0, s1, s2, s3, s4, s5⟩
           go_simp
           with_reducible rfl
          rotate_left
          ·simp only [Act.put, List.setIfInBounds_toArray, List.set_cons_zero, List.set_cons_succ, i64_w, i32_w]
           rfl
          refine take_ (i := 3) (N := some 33) (v := ?_) (a' := ?_) #[true, true, true, true, true, false, false, false, false, false, false] rfl rfl (take_ofW HT_.out HW_.out (by kernel_rfl)) (fun _ _ _ h => h) (Or.inl ⟨by rfl, ?_⟩) hHeld ?_ ?_
          rotate_left
          ·rintro w' ⟨s0, s1, s2, s3, s4, s5⟩
           go_simp
           with_reducible rfl
          rotate_left
          ·simp only [Act.put, List.setIfInBounds_toArray, List.set_cons_zero, List.set_cons_succ, i64_w, i32_w]
           rfl
          refine pure_ (i := 5) (N := some 35) (v := ?_) (a' := ?_) #[true, true, true, true, true, true, false, false, false, false, false] rfl rfl (any_of HT_.out (by kernel_rfl)) (fun _ _ _ h => h) (Or.inl ⟨by rfl, ?_⟩) ?_ ?_
          rotate_left
          ·intro w'
           go_simp
           with_reducible rfl
          rotate_left
          ·simp only [Act.put, List.setIfInBounds_toArray, List.set_cons_zero, List.set_cons_succ, i64_w, i32_w]
           rfl
          refine pure_ (i := 6) (N := some 36) (v := ?_) (a' := ?_) #[true, true, true, true, true, true, true, false, false, false, false] rfl rfl (any_of HT_.out (by kernel_rfl)) (fun _ _ _ h => h) (Or.inl ⟨by rfl, ?_⟩) ?_ ?_
          rotate_left
          ·intro w'
           go_simp
           with_reducible rfl
          rotate_left
          ·simp only [Act.put, List.setIfInBounds_toArray, List.set_cons_zero, List.set_cons_succ, i64_w, i32_w]
           rfl
          refine take_ (i := 7) (N := some 37) (v := ?_) (a' := ?_) #[true, true, true, true, true, true, true, true, false, false, false] rfl rfl (take_ofW HT_.out HW_.out (by kernel_rfl)) (fun _ _ _ h => h) (Or.inl ⟨by rfl, ?_⟩) hHeld ?_ ?_
          rotate_left
          ·rintro w' ⟨s0, s1, s2, s3, s4, s5⟩
           go_simp
           with_reducible rfl
          rotate_left
          ·simp only [Act.put, List.setIfInBounds_toArray, List.set_cons_zero, List.set_cons_succ, i64_w, i32_w]
           rfl
          refine one_ (i := 8) (N := some 38) #[true, true, true, true, true, true, true, true, true, false, false] rfl rfl (one_of HT_.out (by kernel_rfl)) (by decide) (fun K hK => ?_)
          refine goes_ Try.func9 (by kernel_rfl) rfl #[.agg #[.slice (some ad257) l0_0.length c0_0, .int .i64 a0_1], .int .i64 ((rd_T46 ((rd_T38 l0_0 a1).f2.f1) x7_1).f1)] (by rfl) rfl rfl (by (try simp only [List.map_toArray, List.map_cons, List.map_nil]); first | done | rfl | (simp only [List.length_drop, List.length_take]; rfl)) ?_
          with_reducible refine (ih k1 (by have := HK1.out; omega) _ _ l0_0 a0_1 ((rd_T46 ((rd_T38 l0_0 a1).f2.f1) x7_1).f1) t260 _ ?side1 ?side2 A19.out).mono ?_
          (case side1 => repeat (first | exact (Kd.C_below HR0_0.out HB.out) | (with_reducible refine Kd.C_alloc ?_ _) | (with_reducible refine Kd.C_drewN ?_ _) | (with_reducible refine Kd.C_drew ?_)))
          (case side2 => exact HC0_0.out)
          rintro e w24 ⟨v261, rfl, ho0, hb⟩
          refine ⟨_, rfl, ?_⟩
          have n0_ := Aside0.mk (Kd.R_elder' (by (with_reducible repeat (first | apply Kd.R_alloc | apply Kd.R_drewN | apply Kd.R_drew)); exact HO_5.out) (Kd.R_base ho0) hb)
          have n1_ := Aside0.mk (Kd.R_lower (Kd.R_new' ho0 (Kd.R_lt (by (with_reducible repeat (first | apply Kd.R_alloc | apply Kd.R_drewN | apply Kd.R_drew)); exact HO_5.out))) (below_size (by repeat (first | (with_reducible first | exact HB.out | apply below_alloc | apply pw_below_drewN | apply below_drew1 | refine below_set ?_ GE253.out | refine below_set ?_ GE258.out) | exact HB.out))))
          have n2_ := Aside0.mk (blk_below (g := gb253) (o := .cells #[.slice (some ad257) l0_0.length c0_0, .int .i64 a0_1] 24 (0, 0)) (by (with_reducible repeat (first | refine blk_drewN ?_ _ | refine blk_drew ?_ | refine blk_alloc ?_ _)); exact BK253.out) hb)
          have n3_ := Aside0.mk (blk_below (g := gb258) (o := .cells #[.bool ((rd_T38 l0_0 a1).f2.f0), .slice (some ad259) ((rd_T38 l0_0 a1).f2.f1).length c257_3] 36 (0, 0)) (by (with_reducible repeat (first | refine blk_drewN ?_ _ | refine blk_drew ?_ | refine blk_alloc ?_ _)); exact BK258.out) hb)
          have n4_ := Aside0.mk (below_step (by repeat (first | (with_reducible first | exact HB.out | apply below_alloc | apply pw_below_drewN | apply below_drew1 | refine below_set ?_ GE253.out | refine below_set ?_ GE258.out) | exact HB.out)) hb)
          clear HO_5
          clear BK253
          clear BK258
          clear HB
          have HO_5 := n0_
          have HO262 := n1_
          have BK253 := n2_
          have BK258 := n3_
          have HB := n4_
          clear n0_ n1_ n2_ n3_ n4_
          (try clear hb)
          (try clear hb2)
          (try clear hk)
          (try clear hi)
          (try clear ho0)
          obtain ⟨Ao26, co26, eo26⟩ := Kd.R_slice HO262.out
          (first | subst eo26 | (injection eo26 with f1_ f2_ f3_; have f4_ := f1_.symm; have f5_ := f3_.symm; clear f1_ f2_ f3_; subst f4_; subst f5_))
          refine hK.out _ _ ⟨(blk_cell BK253.out 0).trans rfl, (blk_cell BK253.out 1).trans rfl, (blk_cell BK258.out 0).trans rfl, (blk_cell BK258.out 1).trans rfl, ((HB.out.cell (World.block_lt_of_cell? w _ hw259_0)).trans hw259_0), ((HB.out.cell (World.block_lt_of_cell? w _ hw259_1)).trans hw259_1)⟩ (fun hHeld => ?_)
          clear hK K
          refine norm_ (a' := ?_) ?_ ?_
          rotate_left
          ·show Act.put _ (some 38) _ = _
           simp only [Act.put, List.setIfInBounds_toArray, List.set_cons_zero, List.set_cons_succ, i64_w, i32_w]
           rfl
          refine one_ (i := 9) (N := some 39) #[true, true, true, true, true, true, true, true, true, true, false] rfl rfl (one_of HT_.out (by kernel_rfl)) (by decide) (fun K hK => ?_)
          refine Kd.R_append_rows_step (Kd.int .i64) (w0 := w) w.heap.size (by rfl) (.tmp 30) (.tmp 38) 25 3 (.int .i64 0) 8 rfl Try.underlying25 info3 rfl (by decide) (by omega) u5 x5_1 t260 _ _ _ (fun k_ => some k_ ≠ (.slice Ao26 t260.length co26 : Value).ownBlock) (fun _ => False) rfl rfl ?aO ?aR (fun _ _ h => h) (fun _ h => h.elim) ?aF ?aB ?aS ?aL ?_
          (case aR => repeat (first | exact (Kd.R_reads' HO262.out).2.2 | (with_reducible refine Kd.C_alloc ?_ _) | (with_reducible refine Kd.C_drewN ?_ _) | (with_reducible refine Kd.C_drew ?_)))
          (case aB => exact (by repeat (first | (with_reducible first | exact HB.out | apply below_alloc | apply pw_below_drewN | apply below_drew1 | refine below_set ?_ GE253.out | refine below_set ?_ GE258.out) | exact HB.out)))
          (case aF => exact (fun k_ hk => Kd.fresh' (Kd.R_lt (by (with_reducible repeat (first | apply Kd.R_alloc | apply Kd.R_drewN | apply Kd.R_drew)); exact HO262.out)) k_ hk))
          (case aO => exact (by (with_reducible repeat (first | apply Kd.R_alloc | apply Kd.R_drewN | apply Kd.R_drew)); exact Kd.R_mono HO_5.out (fun _ hk => hk.2)))
          (case aS => exact (below_size (by repeat (first | (with_reducible first | exact HB.out | apply below_alloc | apply pw_below_drewN | apply below_drew1 | refine below_set ?_ GE253.out | refine below_set ?_ GE258.out) | exact HB.out))))
          (case aL => have := LMc20.out; omega)
          intro v264 w25 ho hb hg hat
          rw [← Ny263.out] at ho
          have n0_ := Aside0.mk (blk_grown (g := gb253) (o := .cells #[.slice (some ad257) l0_0.length c0_0, .int .i64 a0_1] 24 (0, 0)) (by (with_reducible repeat (first | refine blk_drewN ?_ _ | refine blk_drew ?_ | refine blk_alloc ?_ _)); exact BK253.out) hg (Kd.R_ne HO_5.out BK253.out (by decide)))
          have n1_ := Aside0.mk (blk_grown (g := gb258) (o := .cells #[.bool ((rd_T38 l0_0 a1).f2.f0), .slice (some ad259) ((rd_T38 l0_0 a1).f2.f1).length c257_3] 36 (0, 0)) (by (with_reducible repeat (first | refine blk_drewN ?_ _ | refine blk_drew ?_ | refine blk_alloc ?_ _)); exact BK258.out) hg (Kd.R_ne HO_5.out BK258.out (by decide)))
          have n2_ := Aside0.mk (Kd.R_after (ok := (fun _ => True)) (by (with_reducible repeat (first | apply Kd.R_alloc | apply Kd.R_drewN | apply Kd.R_drew)); exact HO262.out) hg hat)
          have n3_ := Aside0.mk (hb)
          have n4_ := Aside0.mk (ho)
          clear BK253
          clear BK258
          clear HO262
          clear HB
          clear HO_5
          have BK253 := n0_
          have BK258 := n1_
          have HO262 := n2_
          have HB := n3_
          have HO265 := n4_
          clear n0_ n1_ n2_ n3_ n4_
          clear ho hb hg hat
          refine hK.out _ _ ⟨(blk_cell BK253.out 0).trans rfl, (blk_cell BK253.out 1).trans rfl, (blk_cell BK258.out 0).trans rfl, (blk_cell BK258.out 1).trans rfl, ((HB.out.cell (World.block_lt_of_cell? w _ hw259_0)).trans hw259_0), ((HB.out.cell (World.block_lt_of_cell? w _ hw259_1)).trans hw259_1)⟩ (fun hHeld => ?_)
          clear hK K
          refine norm_ (a' := ?_) ?_ ?_
          rotate_left
          ·show Act.put _ (some 39) _ = _
           simp only [Act.put, List.setIfInBounds_toArray, List.set_cons_zero, List.set_cons_succ, i64_w, i32_w]
           rfl
          refine pure_ (i := 10) (N := some 5) (v := ?_) (a' := ?_) #[true, true, true, true, true, true, true, true, true, true, true] rfl rfl (any_of HT_.out (by kernel_rfl)) (fun _ _ _ h => h) (Or.inl ⟨by rfl, ?_⟩) ?_ ?_
          rotate_left
          ·intro w'
           go_simp
           with_reducible rfl
          rotate_left
          ·simp only [Act.put, List.setIfInBounds_toArray, List.set_cons_zero, List.set_cons_succ, i64_w, i32_w]
           rfl
          refine done_ (done_of HT_.out (by kernel_rfl)) ?_
          try go_wp2
          go_roundg k1
          case measure => have := HK1.out; omega
          case rel => exact ⟨(y263), (wrap64 (x7_1 + 1)), (by first | rfl | (simp; done) | (simp [*]; done)), H', ⟨by have := HK1.out; omega⟩, ⟨by (with_reducible repeat (first | apply Kd.R_alloc | apply Kd.R_drewN | apply Kd.R_drew)); exact Kd.R_mono HO265.out (fun _ hk => trivial)⟩, ⟨by (with_reducible repeat (first | refine blk_drewN ?_ _ | refine blk_drew ?_ | refine blk_alloc ?_ _)); exact BK253.out⟩, ⟨by (with_reducible repeat (first | refine blk_drewN ?_ _ | refine blk_drew ?_ | refine blk_alloc ?_ _)); exact BK258.out⟩, ⟨by repeat (first | (with_reducible first | exact HB.out | apply below_alloc | apply pw_below_drewN | apply below_drew1 | refine below_set ?_ GE253.out | refine below_set ?_ GE258.out) | exact HB.out)⟩⟩
         ·rw [if_neg c20] at H
          exact absurd H (by simp)
        ·rw [if_neg c18] at H
         exact absurd H (by simp)
      ·rw [if_neg c14] at H
       have c14b0 : decide (x7_1 < (((rd_T38 l0_0 a1).f2.f1).length : Int)) = false := decide_eq_false c14
       clear c14
       obtain rfl := Option.some.inj H
       have hnb27 := NB258_253.out
       have hnc27 := NB253_258.out
       have hcz28_0 : wr.cell? ⟨gb258, 0, none⟩ = some (.bool ((rd_T38 l0_0 a1).f2.f0)) := (blk_cell BK258.out 0).trans rfl
       have hcz28_1 : wr.cell? ⟨gb258, 1, none⟩ = some (.slice A257_3 ((rd_T38 l0_0 a1).f2.f1).length c257_3) := (blk_cell BK258.out 1).trans rfl
       have hfz28_0 := blk_frozen BK258.out 0
       have hfz28_1 := blk_frozen BK258.out 1
       go_wp2
       go_ret
       exact ⟨_, by first | rfl | (simp [errW_none, errW_some] <;> rfl) | (simp [*, errW_none, errW_some] <;> rfl), by (with_reducible repeat (first | apply Kd.R_alloc | apply Kd.R_drewN | apply Kd.R_drew)); exact HO_5.out, by repeat (first | (with_reducible first | exact HB.out | apply below_alloc | apply pw_below_drewN | apply below_drew1 | refine below_set ?_ GE253.out | refine below_set ?_ GE258.out) | exact HB.out)⟩
   ·rw [if_neg c6] at H
    exact absurd H (by simp)
  ·rw [if_neg c5] at H
   exact absurd H (by simp)
end Go.Proofs.Ytflndiikeoflfaa.P
end
section
namespace Go.Proofs.Ytflndiikeoflfaa.P
open Go.RowKit Go.Proofs.YtflndiikeoflfaaW.PrintWords Go.Proofs.YtflndiikeoflfaaW.PrintLast Go.Proofs.YtflndiikeoflfaaW.PrintMore
set_option linter.unusedVariables false
set_option linter.unusedSimpArgs false
theorem rd49_mem {l : List S46} {j : Nat} (h : j < l.length) : rd_T46 l (j : Nat) ∈ l ∧ l.drop j = rd_T46 l (j : Nat) :: l.drop (j + 1) := by
  have e : rd_T46 l (j : Nat) = l[j] := by simp only [rd_T46, Int.toNat_natCast, List.getD_eq_getElem?_getD, List.getElem?_eq_getElem h, Option.getD_some]
  rw [e]
  exact ⟨List.getElem_mem _, List.drop_eq_getElem_cons h⟩
end Go.Proofs.Ytflndiikeoflfaa.P
end
