/- Texts of this claim's proof put together: HShown5, HHeapHolds, HHeapBack, HRow, LawHeapBack. -/
import Derived.Below
import Derived.Deep.Draws
import Derived.Deep.AppendLies
import Derived.Maps.AppendAt
import Derived.OwnWalk
import Derived.Laws.BytesArg
import Derived.Laws.MakeOwn
import Derived.Laws.OwnMore
import Derived.Deep.OwnRows
import Derived.Tactics
import Derived.Lib.ConvBytes
import Derived.Laws.Slices
import Derived.WalkKit
import Derived.KernelRfl
import Derived.RowKit3
import Derived.Deep.LoopGhost
import Derived.Deep.QuietTactic
import Derived.BigQuiet
import Derived.WideLaws
import Derived.Deep.DeepCutAuto
import Derived.Deep.CutBlock
import Derived.Deep.RegionHeld3
import Derived.Laws.Rows
import Derived.Lib.AppendStr
import Derived.ArgAppend
import Derived.Laws.IdiomCopy
import Derived.RowKit
import Derived.OrdersHeld
import Derived.Laws.BitsLemmas
import Derived.Laws.StructEq
import Derived.Test.YteiladccdenpbaaProg
import Derived.Shelf.RegionOpenPlain
import Derived.Shelf.Abstract
import Derived.Laws.CopyOwn
import Derived.Lib.SlBuf
import Derived.ChangeArms
import Derived.DataReads
import Derived.DataElems
import Derived.SizedLaws
import Derived.Test.YteiladccdenpbaaRows
import Derived.ProofKit
import Derived.OpenShut
import Derived.ShutString
import Derived.ChangeOld
import Derived.Test.YteiladccdenpbaaKHeapBack0
import Derived.Test.YteiladccdenpbaaKHeapBack1
import Derived.Test.YteiladccdenpbaaKHeapBack2
import Derived.Test.YteiladccdenpbaaKHeapBack3
namespace Foot
end Foot
namespace Go.Proofs.Yteiladccdenpbaa
end Go.Proofs.Yteiladccdenpbaa
namespace Go.Proofs.Yteiladccdenpbaa.P
end Go.Proofs.Yteiladccdenpbaa.P
namespace Go.Proofs.Yteiladccdenpbaa.heapBack
end Go.Proofs.Yteiladccdenpbaa.heapBack
namespace Go.Proofs.YteiladccdenpbaaW.PrintLast
end Go.Proofs.YteiladccdenpbaaW.PrintLast
namespace Go.Proofs.YteiladccdenpbaaW.PrintMore
end Go.Proofs.YteiladccdenpbaaW.PrintMore
namespace Go.Proofs.YteiladccdenpbaaW.PrintWords
end Go.Proofs.YteiladccdenpbaaW.PrintWords
namespace Kd
end Kd
section
namespace Go.Proofs.Yteiladccdenpbaa.P
open Go.RowKit Go.Proofs.YteiladccdenpbaaW.PrintWords Go.Proofs.YteiladccdenpbaaW.PrintLast Go.Proofs.YteiladccdenpbaaW.PrintMore
set_option linter.unusedVariables false
set_option linter.unusedSimpArgs false
theorem V_true {α : Type} {d : Kd α} (hd : Kd.Heap d) {e base c : Nat} {W : World} {A : Option Addr} {xs : List α} (hl : xs.length ≤ c) (h : d.C W A xs.length xs) : Kd.V d e W base (fun _ => True) (.slice A xs.length c) xs :=
  Kd.V_mk hl (fun W' hW => hd.C (fun k hk => hW k trivial hk) h)
theorem lit49 (W : World) (k v : Int) : Kd.C k49 (W.alloc (.cells #[.int .i64 k, .int .i64 v] 49)) (some ⟨W.heap.size, 0, none⟩) 1 [⟨k, v⟩] := by
  refine ⟨rfl, by omega, fun _ => ⟨_, rfl, fun j p hj => ?_⟩⟩
  match j, hj with
  | 0, hj =>
    simp at hj
    subst hj
    refine ⟨_, rfl, k49_mk _ _, fun i u hu => ?_⟩
    rw [add_g, blk_cell (alloc_new W _)]
    match i, hu with
    | 0, hu => simpa using hu
    | 1, hu => simpa using hu
    | i + 2, hu => simp at hu
  | j + 1, hj => simp at hj
def s5a : List S55 := [⟨1, false, ⟨true, [⟨1, 2⟩]⟩⟩, z55]
def s5b : List S55 := [⟨2, false, ⟨true, [⟨1, 2⟩]⟩⟩, ⟨1, false, ⟨false, [⟨1, 0⟩]⟩⟩]
def s5c : List S55 := [⟨1, false, ⟨true, [⟨1, 2⟩]⟩⟩, ⟨0, true, ⟨false, []⟩⟩]
def s5d : List S55 := [⟨2, false, ⟨true, [⟨1, 2⟩]⟩⟩, z55]
theorem s5_new : heap_New.f 2 1 = some ([z55, z55], 1, 0) := by kernel_rfl
theorem s5_a : heap_Alloc.f [z55, z55] 1 true [⟨1, 2⟩] [] = some (s5a, 1, 0, 0) := by kernel_rfl
theorem s5_b : heap_Alloc.f s5a 1 false [⟨1, 0⟩] [] = some (s5b, 1, 1, 0) := by kernel_rfl
theorem s5_c : heap_Loose.f s5b 1 1 = some (s5c, 1, 0) := by kernel_rfl
theorem s5_d : heap_Hold.f s5a 1 0 = some (s5d, 1, 0) := by kernel_rfl
theorem s5_f1 : heap_Fits.f 10 [z55, z55] 1 1 false = some true := by kernel_rfl
theorem s5_f2 : heap_Fits.f 10 [z55, z55] 1 2 false = some false := by kernel_rfl
theorem s5_f3 : heap_Fits.f 10 [z55, z55] 1 2 true = some true := by kernel_rfl
theorem s5_f4 : heap_Free.f 10 s5a 1 = some 1 := by kernel_rfl
theorem s5_s : heap_Settle.f s5c 1 = some (s5c.map fun x => ⟨x.f0, false, x.f2⟩, 1) := by kernel_rfl
theorem s5_f5 : heap_Free.f 10 (s5c.map fun x => ⟨x.f0, false, x.f2⟩) 1 = some 1 := by kernel_rfl
theorem s5_r : heap_Right.f s5b 1 = some true := by kernel_rfl
theorem s5_e : heap_Same.f s5a 1 s5d 1 = some false := by kernel_rfl
def assartlaw05_shown.f : Option Bool := some true
set_option maxHeartbeats 8000000 in
set_option maxRecDepth 100000 in
theorem assartlaw05_shown.calls (r : Bool) (w : World) (h : assartlaw05_shown.f = some r) : Calls Try.prog 33 #[] w fun e w' => e = .returned (.bool r) ∧ Below w.heap.size w w' := by
  obtain rfl := Option.some.inj h
  clear h
  have hu24 := Try.underlying24
  have hu43 := Try.underlying43
  have hu53 := Try.underlying53
  have hu55 := Try.underlying55
  go_enter Try.func33, Try.ntmps33
  go_wp2_with fail
  have hpre : Below w.heap.size w w := Below.refl w.heap.size w
  refine (heap_New.calls 2 1 _ _ _ w s5_new).mono ?_
  rintro e w1 ⟨v1, rfl, hv, hb⟩
  obtain ⟨A1, c1, ev⟩ := Kd.V_slice (Kd.S_V (base' := 0) hv)
  replace ev : v1 = .slice A1 2 c1 := ev
  subst ev
  have HB1 : Aside0 (Below w.heap.size w w1) := ⟨hpre.trans (hb.mono hpre.size)⟩
  have HVh : Aside0 (Kd.V k55 55 w1 0 (fun _ => True) (.slice A1 2 c1) [z55, z55]) := ⟨Kd.V_mono (Kd.S_V hv) (fun _ _ => trivial)⟩
  clear hpre hb hv
  go_wp2_with fail
  have hpre : Below w1.heap.size w1 ((w1.alloc (.cells #[.slice A1 2 c1, .int .i64 1] 24)).alloc (.cells #[.int .i64 1, .int .i64 2] 49)) := ((Below.refl w1.heap.size w1).alloc (Nat.le_refl _) _).alloc (by simp) _
  have KXh : Aside0 (((w1.alloc (.cells #[.slice A1 2 c1, .int .i64 1] 24)).alloc (.cells #[.int .i64 1, .int .i64 2] 49)).heap[w1.heap.size]? = some (.cells #[.slice A1 2 c1, .int .i64 1] 24 (0, 0))) := by
    have hn := alloc_new w1 (.cells #[.slice A1 2 c1, .int .i64 1] 24)
    (try simp only [World.size_alloc] at hn)
    exact ⟨blk_alloc (hn) _⟩
  refine (heap_Alloc.calls (fun _ => True) A1 c1 [z55, z55] 1 true (fun _ => True) (some ⟨w1.heap.size + 1, 0, none⟩) 1 [⟨1, 2⟩] none 0 [] s5a 1 _ 0 _ (Kd.V_below HVh.out hpre) (V_true k49_heap (Nat.le_refl _) (by have hl := lit49 (w1.alloc (.cells #[.slice A1 2 c1, .int .i64 1] 24)) 1 2; (try simp only [World.size_alloc] at hl); exact hl)) (Kd.C_nil _ _) (Nat.le_refl _) s5_a).mono ?_
  rintro e w2 ⟨v2, rfl, hv, hb⟩
  obtain ⟨A2, c2, ev⟩ := Kd.V_slice hv
  replace ev : v2 = .slice A2 2 c2 := ev
  subst ev
  have HB2 : Aside0 (Below w.heap.size w w2) := ⟨(HB1.out.trans (hpre.mono HB1.out.size)).trans (hb.mono (Nat.le_trans HB1.out.size hpre.size))⟩
  replace KXh := Aside0.mk (blk_below KXh.out hb)
  replace HVh := Aside0.mk (Kd.V_below (Kd.V_below HVh.out hpre) hb)
  have HVa : Aside0 (Kd.V k55 55 w2 0 (fun _ => True) (.slice A2 2 c2) s5a) := ⟨Kd.V_mono (hv) (fun _ _ => trivial)⟩
  clear hpre hb hv HB1
  go_wp2_with fail
  have hpre : Below w2.heap.size w2 ((w2.alloc (.cells #[.slice A2 2 c2, .int .i64 1] 24)).alloc (.cells #[.int .i64 1, .int .i64 0] 49)) := ((Below.refl w2.heap.size w2).alloc (Nat.le_refl _) _).alloc (by simp) _
  have KXa : Aside0 (((w2.alloc (.cells #[.slice A2 2 c2, .int .i64 1] 24)).alloc (.cells #[.int .i64 1, .int .i64 0] 49)).heap[w2.heap.size]? = some (.cells #[.slice A2 2 c2, .int .i64 1] 24 (0, 0))) := by
    have hn := alloc_new w2 (.cells #[.slice A2 2 c2, .int .i64 1] 24)
    (try simp only [World.size_alloc] at hn)
    exact ⟨blk_alloc (hn) _⟩
  refine (heap_Alloc.calls (fun _ => True) A2 c2 s5a 1 false (fun _ => True) (some ⟨w2.heap.size + 1, 0, none⟩) 1 [⟨1, 0⟩] none 0 [] s5b 1 _ 0 _ (Kd.V_below HVa.out hpre) (V_true k49_heap (Nat.le_refl _) (by have hl := lit49 (w2.alloc (.cells #[.slice A2 2 c2, .int .i64 1] 24)) 1 0; (try simp only [World.size_alloc] at hl); exact hl)) (Kd.C_nil _ _) (Nat.le_refl _) s5_b).mono ?_
  rintro e w3 ⟨v3, rfl, hv, hb⟩
  obtain ⟨A3, c3, ev⟩ := Kd.V_slice hv
  replace ev : v3 = .slice A3 2 c3 := ev
  subst ev
  have HB3 : Aside0 (Below w.heap.size w w3) := ⟨(HB2.out.trans (hpre.mono HB2.out.size)).trans (hb.mono (Nat.le_trans HB2.out.size hpre.size))⟩
  replace KXh := Aside0.mk (blk_below (blk_below KXh.out hpre) hb)
  replace KXa := Aside0.mk (blk_below KXa.out hb)
  replace HVh := Aside0.mk (Kd.V_below (Kd.V_below HVh.out hpre) hb)
  replace HVa := Aside0.mk (Kd.V_below (Kd.V_below HVa.out hpre) hb)
  have HVb : Aside0 (Kd.V k55 55 w3 0 (fun _ => True) (.slice A3 2 c3) s5b) := ⟨Kd.V_mono (hv) (fun _ _ => trivial)⟩
  clear hpre hb hv HB2
  go_wp2_with fail
  have hpre : Below w3.heap.size w3 (w3.alloc (.cells #[.slice A3 2 c3, .int .i64 1] 24)) := (Below.refl w3.heap.size w3).alloc (Nat.le_refl _) _
  have KXb : Aside0 ((w3.alloc (.cells #[.slice A3 2 c3, .int .i64 1] 24)).heap[w3.heap.size]? = some (.cells #[.slice A3 2 c3, .int .i64 1] 24 (0, 0))) := by
    have hn := alloc_new w3 (.cells #[.slice A3 2 c3, .int .i64 1] 24)
    (try simp only [World.size_alloc] at hn)
    exact ⟨hn⟩
  refine (heap_Loose.calls (fun _ => True) A3 c3 s5b 1 1 s5c 1 0 _ (Kd.V_below HVb.out hpre) s5_c).mono ?_
  rintro e w4 ⟨v4, rfl, hv, hb⟩
  obtain ⟨A4, c4, ev⟩ := Kd.V_slice hv
  replace ev : v4 = .slice A4 2 c4 := ev
  subst ev
  have HB4 : Aside0 (Below w.heap.size w w4) := ⟨(HB3.out.trans (hpre.mono HB3.out.size)).trans (hb.mono (Nat.le_trans HB3.out.size hpre.size))⟩
  replace KXh := Aside0.mk (blk_below (blk_below KXh.out hpre) hb)
  replace KXa := Aside0.mk (blk_below (blk_below KXa.out hpre) hb)
  replace KXb := Aside0.mk (blk_below KXb.out hb)
  replace HVh := Aside0.mk (Kd.V_below (Kd.V_below HVh.out hpre) hb)
  replace HVa := Aside0.mk (Kd.V_below (Kd.V_below HVa.out hpre) hb)
  replace HVb := Aside0.mk (Kd.V_below (Kd.V_below HVb.out hpre) hb)
  have HVc : Aside0 (Kd.V k55 55 w4 0 (fun _ => True) (.slice A4 2 c4) s5c) := ⟨Kd.V_mono (hv) (fun _ _ => trivial)⟩
  clear hpre hb hv HB3
  have xa_0 : w4.cell? ⟨w2.heap.size, 0, none⟩ = some (.slice A2 2 c2) := (blk_cell KXa.out 0).trans rfl
  have xa_1 : w4.cell? ⟨w2.heap.size, 1, none⟩ = some (.int .i64 1) := (blk_cell KXa.out 1).trans rfl
  have la : w2.heap.size < w4.heap.size := (Array.getElem?_eq_some_iff.1 KXa.out).1
  go_wp2_with fail
  clear xa_0 xa_1 la
  have hpre : Below w4.heap.size w4 (w4.alloc (.cells #[.slice A4 2 c4, .int .i64 1] 24)) := (Below.refl w4.heap.size w4).alloc (Nat.le_refl _) _
  have KXc : Aside0 ((w4.alloc (.cells #[.slice A4 2 c4, .int .i64 1] 24)).heap[w4.heap.size]? = some (.cells #[.slice A4 2 c4, .int .i64 1] 24 (0, 0))) := by
    have hn := alloc_new w4 (.cells #[.slice A4 2 c4, .int .i64 1] 24)
    (try simp only [World.size_alloc] at hn)
    exact ⟨hn⟩
  refine (heap_Hold.calls (fun _ => True) A2 c2 s5a 1 0 s5d 1 0 _ (Kd.V_below HVa.out hpre) s5_d).mono ?_
  rintro e w5 ⟨v5, rfl, hv, hb⟩
  obtain ⟨A5, c5, ev⟩ := Kd.V_slice hv
  replace ev : v5 = .slice A5 2 c5 := ev
  subst ev
  have HB5 : Aside0 (Below w.heap.size w w5) := ⟨(HB4.out.trans (hpre.mono HB4.out.size)).trans (hb.mono (Nat.le_trans HB4.out.size hpre.size))⟩
  replace KXh := Aside0.mk (blk_below (blk_below KXh.out hpre) hb)
  replace KXa := Aside0.mk (blk_below (blk_below KXa.out hpre) hb)
  replace KXb := Aside0.mk (blk_below (blk_below KXb.out hpre) hb)
  replace KXc := Aside0.mk (blk_below KXc.out hb)
  replace HVh := Aside0.mk (Kd.V_below (Kd.V_below HVh.out hpre) hb)
  replace HVa := Aside0.mk (Kd.V_below (Kd.V_below HVa.out hpre) hb)
  replace HVb := Aside0.mk (Kd.V_below (Kd.V_below HVb.out hpre) hb)
  replace HVc := Aside0.mk (Kd.V_below (Kd.V_below HVc.out hpre) hb)
  have HVd : Aside0 (Kd.V k55 55 w5 0 (fun _ => True) (.slice A5 2 c5) s5d) := ⟨Kd.V_mono (hv) (fun _ _ => trivial)⟩
  clear hpre hb hv HB4
  have xh_0 : w5.cell? ⟨w1.heap.size, 0, none⟩ = some (.slice A1 2 c1) := (blk_cell KXh.out 0).trans rfl
  have xh_1 : w5.cell? ⟨w1.heap.size, 1, none⟩ = some (.int .i64 1) := (blk_cell KXh.out 1).trans rfl
  have lh : w1.heap.size < w5.heap.size := (Array.getElem?_eq_some_iff.1 KXh.out).1
  go_wp2_with fail
  clear xh_0 xh_1 lh
  have hpre : Below w5.heap.size w5 (w5.alloc (.cells #[.slice A5 2 c5, .int .i64 1] 24)) := (Below.refl w5.heap.size w5).alloc (Nat.le_refl _) _
  have KXd : Aside0 ((w5.alloc (.cells #[.slice A5 2 c5, .int .i64 1] 24)).heap[w5.heap.size]? = some (.cells #[.slice A5 2 c5, .int .i64 1] 24 (0, 0))) := by
    have hn := alloc_new w5 (.cells #[.slice A5 2 c5, .int .i64 1] 24)
    (try simp only [World.size_alloc] at hn)
    exact ⟨hn⟩
  refine (heap_Fits.calls 10 A1 c1 [z55, z55] 1 1 false true _ (Kd.V_reads' (Kd.V_below HVh.out hpre)).2.2 (Kd.V_reads' HVh.out).2.1 s5_f1).mono ?_
  rintro e w6 ⟨rfl, hb⟩
  have HB6 : Aside0 (Below w.heap.size w w6) := ⟨(HB5.out.trans (hpre.mono HB5.out.size)).trans (hb.mono (Nat.le_trans HB5.out.size hpre.size))⟩
  replace KXh := Aside0.mk (blk_below (blk_below KXh.out hpre) hb)
  replace KXa := Aside0.mk (blk_below (blk_below KXa.out hpre) hb)
  replace KXb := Aside0.mk (blk_below (blk_below KXb.out hpre) hb)
  replace KXc := Aside0.mk (blk_below (blk_below KXc.out hpre) hb)
  replace KXd := Aside0.mk (blk_below KXd.out hb)
  replace HVh := Aside0.mk (Kd.V_below (Kd.V_below HVh.out hpre) hb)
  replace HVa := Aside0.mk (Kd.V_below (Kd.V_below HVa.out hpre) hb)
  replace HVb := Aside0.mk (Kd.V_below (Kd.V_below HVb.out hpre) hb)
  replace HVc := Aside0.mk (Kd.V_below (Kd.V_below HVc.out hpre) hb)
  replace HVd := Aside0.mk (Kd.V_below (Kd.V_below HVd.out hpre) hb)
  clear hpre hb HB5
  have xh_0 : w6.cell? ⟨w1.heap.size, 0, none⟩ = some (.slice A1 2 c1) := (blk_cell KXh.out 0).trans rfl
  have xh_1 : w6.cell? ⟨w1.heap.size, 1, none⟩ = some (.int .i64 1) := (blk_cell KXh.out 1).trans rfl
  have lh : w1.heap.size < w6.heap.size := (Array.getElem?_eq_some_iff.1 KXh.out).1
  go_wp2_with fail
  clear xh_0 xh_1 lh
  have hpre : Below w6.heap.size w6 w6 := Below.refl w6.heap.size w6
  refine (heap_Fits.calls 10 A1 c1 [z55, z55] 1 2 false false _ (Kd.V_reads' (Kd.V_below HVh.out hpre)).2.2 (Kd.V_reads' HVh.out).2.1 s5_f2).mono ?_
  rintro e w7 ⟨rfl, hb⟩
  have HB7 : Aside0 (Below w.heap.size w w7) := ⟨(HB6.out.trans (hpre.mono HB6.out.size)).trans (hb.mono (Nat.le_trans HB6.out.size hpre.size))⟩
  replace KXh := Aside0.mk (blk_below (blk_below KXh.out hpre) hb)
  replace KXa := Aside0.mk (blk_below (blk_below KXa.out hpre) hb)
  replace KXb := Aside0.mk (blk_below (blk_below KXb.out hpre) hb)
  replace KXc := Aside0.mk (blk_below (blk_below KXc.out hpre) hb)
  replace KXd := Aside0.mk (blk_below (blk_below KXd.out hpre) hb)
  replace HVh := Aside0.mk (Kd.V_below (Kd.V_below HVh.out hpre) hb)
  replace HVa := Aside0.mk (Kd.V_below (Kd.V_below HVa.out hpre) hb)
  replace HVb := Aside0.mk (Kd.V_below (Kd.V_below HVb.out hpre) hb)
  replace HVc := Aside0.mk (Kd.V_below (Kd.V_below HVc.out hpre) hb)
  replace HVd := Aside0.mk (Kd.V_below (Kd.V_below HVd.out hpre) hb)
  clear hpre hb HB6
  have xh_0 : w7.cell? ⟨w1.heap.size, 0, none⟩ = some (.slice A1 2 c1) := (blk_cell KXh.out 0).trans rfl
  have xh_1 : w7.cell? ⟨w1.heap.size, 1, none⟩ = some (.int .i64 1) := (blk_cell KXh.out 1).trans rfl
  have lh : w1.heap.size < w7.heap.size := (Array.getElem?_eq_some_iff.1 KXh.out).1
  go_wp2_with fail
  clear xh_0 xh_1 lh
  have hpre : Below w7.heap.size w7 w7 := Below.refl w7.heap.size w7
  refine (heap_Fits.calls 10 A1 c1 [z55, z55] 1 2 true true _ (Kd.V_reads' (Kd.V_below HVh.out hpre)).2.2 (Kd.V_reads' HVh.out).2.1 s5_f3).mono ?_
  rintro e w8 ⟨rfl, hb⟩
  have HB8 : Aside0 (Below w.heap.size w w8) := ⟨(HB7.out.trans (hpre.mono HB7.out.size)).trans (hb.mono (Nat.le_trans HB7.out.size hpre.size))⟩
  replace KXh := Aside0.mk (blk_below (blk_below KXh.out hpre) hb)
  replace KXa := Aside0.mk (blk_below (blk_below KXa.out hpre) hb)
  replace KXb := Aside0.mk (blk_below (blk_below KXb.out hpre) hb)
  replace KXc := Aside0.mk (blk_below (blk_below KXc.out hpre) hb)
  replace KXd := Aside0.mk (blk_below (blk_below KXd.out hpre) hb)
  replace HVh := Aside0.mk (Kd.V_below (Kd.V_below HVh.out hpre) hb)
  replace HVa := Aside0.mk (Kd.V_below (Kd.V_below HVa.out hpre) hb)
  replace HVb := Aside0.mk (Kd.V_below (Kd.V_below HVb.out hpre) hb)
  replace HVc := Aside0.mk (Kd.V_below (Kd.V_below HVc.out hpre) hb)
  replace HVd := Aside0.mk (Kd.V_below (Kd.V_below HVd.out hpre) hb)
  clear hpre hb HB7
  have xa_0 : w8.cell? ⟨w2.heap.size, 0, none⟩ = some (.slice A2 2 c2) := (blk_cell KXa.out 0).trans rfl
  have xa_1 : w8.cell? ⟨w2.heap.size, 1, none⟩ = some (.int .i64 1) := (blk_cell KXa.out 1).trans rfl
  have la : w2.heap.size < w8.heap.size := (Array.getElem?_eq_some_iff.1 KXa.out).1
  go_wp2_with fail
  clear xa_0 xa_1 la
  have hpre : Below w8.heap.size w8 w8 := Below.refl w8.heap.size w8
  refine (heap_Free.calls 10 A2 c2 s5a 1 1 _ (Kd.V_reads' (Kd.V_below HVa.out hpre)).2.2 (Kd.V_reads' HVa.out).2.1 s5_f4).mono ?_
  rintro e w9 ⟨rfl, hb⟩
  have HB9 : Aside0 (Below w.heap.size w w9) := ⟨(HB8.out.trans (hpre.mono HB8.out.size)).trans (hb.mono (Nat.le_trans HB8.out.size hpre.size))⟩
  replace KXh := Aside0.mk (blk_below (blk_below KXh.out hpre) hb)
  replace KXa := Aside0.mk (blk_below (blk_below KXa.out hpre) hb)
  replace KXb := Aside0.mk (blk_below (blk_below KXb.out hpre) hb)
  replace KXc := Aside0.mk (blk_below (blk_below KXc.out hpre) hb)
  replace KXd := Aside0.mk (blk_below (blk_below KXd.out hpre) hb)
  replace HVh := Aside0.mk (Kd.V_below (Kd.V_below HVh.out hpre) hb)
  replace HVa := Aside0.mk (Kd.V_below (Kd.V_below HVa.out hpre) hb)
  replace HVb := Aside0.mk (Kd.V_below (Kd.V_below HVb.out hpre) hb)
  replace HVc := Aside0.mk (Kd.V_below (Kd.V_below HVc.out hpre) hb)
  replace HVd := Aside0.mk (Kd.V_below (Kd.V_below HVd.out hpre) hb)
  clear hpre hb HB8
  obtain ⟨bd, bA, bc, rfl, b0, -⟩ := at_T55 (Kd.V_reads' HVb.out).2.2 0 (by decide) (by decide)
  obtain ⟨cd, cA, cc, rfl, c0, -⟩ := at_T55 (Kd.V_reads' HVc.out).2.2 0 (by decide) (by decide)
  obtain ⟨cd', cA', cc', e', c0', c1', -⟩ := at_T55 (Kd.V_reads' HVc.out).2.2 1 (by decide) (by decide)
  cases e'
  replace b0 : w9.cell? bd = some (.int .i64 2) := by rw [show (0 : Int).toNat * 4 = 0 from rfl, Addr.add_zero'] at b0; exact b0
  replace c0 : w9.cell? cd = some (.int .i64 1) := by rw [show (0 : Int).toNat * 4 = 0 from rfl, Addr.add_zero'] at c0; exact c0
  replace c1' : w9.cell? ⟨cd.block, cd.off + 4 + 1, none⟩ = some (.bool true) := c1'
  clear c0'
  have xb_0 : w9.cell? ⟨w3.heap.size, 0, none⟩ = some (.slice (some bd) 2 c3) := (blk_cell KXb.out 0).trans rfl
  have xb_1 : w9.cell? ⟨w3.heap.size, 1, none⟩ = some (.int .i64 1) := (blk_cell KXb.out 1).trans rfl
  have lb : w3.heap.size < w9.heap.size := (Array.getElem?_eq_some_iff.1 KXb.out).1
  have xc_0 : w9.cell? ⟨w4.heap.size, 0, none⟩ = some (.slice (some cd) 2 c4) := (blk_cell KXc.out 0).trans rfl
  have xc_1 : w9.cell? ⟨w4.heap.size, 1, none⟩ = some (.int .i64 1) := (blk_cell KXc.out 1).trans rfl
  have lc : w4.heap.size < w9.heap.size := (Array.getElem?_eq_some_iff.1 KXc.out).1
  go_wp2_with fail
  clear xb_0 xb_1 lb xc_0 xc_1 lc
  have hpre : Below w9.heap.size w9 w9 := Below.refl w9.heap.size w9
  refine (heap_Settle.calls (fun _ => True) (some cd) c4 s5c 1 _ 1 _ (Kd.V_below HVc.out hpre) s5_s).mono ?_
  rintro e w10 ⟨v10, rfl, hv, hb⟩
  obtain ⟨A10, c10, ev⟩ := Kd.V_slice hv
  replace ev : v10 = .slice A10 2 c10 := ev
  subst ev
  have HB10 : Aside0 (Below w.heap.size w w10) := ⟨(HB9.out.trans (hpre.mono HB9.out.size)).trans (hb.mono (Nat.le_trans HB9.out.size hpre.size))⟩
  replace KXh := Aside0.mk (blk_below (blk_below KXh.out hpre) hb)
  replace KXa := Aside0.mk (blk_below (blk_below KXa.out hpre) hb)
  replace KXb := Aside0.mk (blk_below (blk_below KXb.out hpre) hb)
  replace KXc := Aside0.mk (blk_below (blk_below KXc.out hpre) hb)
  replace KXd := Aside0.mk (blk_below (blk_below KXd.out hpre) hb)
  replace HVh := Aside0.mk (Kd.V_below (Kd.V_below HVh.out hpre) hb)
  replace HVa := Aside0.mk (Kd.V_below (Kd.V_below HVa.out hpre) hb)
  replace HVb := Aside0.mk (Kd.V_below (Kd.V_below HVb.out hpre) hb)
  replace HVc := Aside0.mk (Kd.V_below (Kd.V_below HVc.out hpre) hb)
  replace HVd := Aside0.mk (Kd.V_below (Kd.V_below HVd.out hpre) hb)
  have HVs : Aside0 (Kd.V k55 55 w10 0 (fun _ => True) (.slice A10 2 c10) (s5c.map fun x => (⟨x.f0, false, x.f2⟩ : S55))) := ⟨Kd.V_mono (hv) (fun _ _ => trivial)⟩
  clear hpre hb hv HB9
  go_wp2_with fail
  have hpre : Below w10.heap.size w10 w10 := Below.refl w10.heap.size w10
  refine (heap_Free.calls 10 A10 c10 (s5c.map fun x => (⟨x.f0, false, x.f2⟩ : S55)) 1 1 _ (Kd.V_reads' (Kd.V_below HVs.out hpre)).2.2 (Kd.V_reads' HVs.out).2.1 s5_f5).mono ?_
  rintro e w11 ⟨rfl, hb⟩
  have HB11 : Aside0 (Below w.heap.size w w11) := ⟨(HB10.out.trans (hpre.mono HB10.out.size)).trans (hb.mono (Nat.le_trans HB10.out.size hpre.size))⟩
  replace KXh := Aside0.mk (blk_below (blk_below KXh.out hpre) hb)
  replace KXa := Aside0.mk (blk_below (blk_below KXa.out hpre) hb)
  replace KXb := Aside0.mk (blk_below (blk_below KXb.out hpre) hb)
  replace KXc := Aside0.mk (blk_below (blk_below KXc.out hpre) hb)
  replace KXd := Aside0.mk (blk_below (blk_below KXd.out hpre) hb)
  replace HVh := Aside0.mk (Kd.V_below (Kd.V_below HVh.out hpre) hb)
  replace HVa := Aside0.mk (Kd.V_below (Kd.V_below HVa.out hpre) hb)
  replace HVb := Aside0.mk (Kd.V_below (Kd.V_below HVb.out hpre) hb)
  replace HVc := Aside0.mk (Kd.V_below (Kd.V_below HVc.out hpre) hb)
  replace HVd := Aside0.mk (Kd.V_below (Kd.V_below HVd.out hpre) hb)
  replace HVs := Aside0.mk (Kd.V_below (Kd.V_below HVs.out hpre) hb)
  clear hpre hb HB10
  have xb_0 : w11.cell? ⟨w3.heap.size, 0, none⟩ = some (.slice (some bd) 2 c3) := (blk_cell KXb.out 0).trans rfl
  have xb_1 : w11.cell? ⟨w3.heap.size, 1, none⟩ = some (.int .i64 1) := (blk_cell KXb.out 1).trans rfl
  have lb : w3.heap.size < w11.heap.size := (Array.getElem?_eq_some_iff.1 KXb.out).1
  go_wp2_with fail
  clear xb_0 xb_1 lb
  have hpre : Below w11.heap.size w11 w11 := Below.refl w11.heap.size w11
  refine (heap_Right.calls (some bd) c3 s5b 1 true _ (Kd.V_reads' (Kd.V_below HVb.out hpre)).2.2 (Kd.V_reads' HVb.out).2.1 s5_r).mono ?_
  rintro e w12 ⟨rfl, hb⟩
  have HB12 : Aside0 (Below w.heap.size w w12) := ⟨(HB11.out.trans (hpre.mono HB11.out.size)).trans (hb.mono (Nat.le_trans HB11.out.size hpre.size))⟩
  replace KXh := Aside0.mk (blk_below (blk_below KXh.out hpre) hb)
  replace KXa := Aside0.mk (blk_below (blk_below KXa.out hpre) hb)
  replace KXb := Aside0.mk (blk_below (blk_below KXb.out hpre) hb)
  replace KXc := Aside0.mk (blk_below (blk_below KXc.out hpre) hb)
  replace KXd := Aside0.mk (blk_below (blk_below KXd.out hpre) hb)
  replace HVh := Aside0.mk (Kd.V_below (Kd.V_below HVh.out hpre) hb)
  replace HVa := Aside0.mk (Kd.V_below (Kd.V_below HVa.out hpre) hb)
  replace HVb := Aside0.mk (Kd.V_below (Kd.V_below HVb.out hpre) hb)
  replace HVc := Aside0.mk (Kd.V_below (Kd.V_below HVc.out hpre) hb)
  replace HVd := Aside0.mk (Kd.V_below (Kd.V_below HVd.out hpre) hb)
  replace HVs := Aside0.mk (Kd.V_below (Kd.V_below HVs.out hpre) hb)
  clear hpre hb HB11
  have xa_0 : w12.cell? ⟨w2.heap.size, 0, none⟩ = some (.slice A2 2 c2) := (blk_cell KXa.out 0).trans rfl
  have xa_1 : w12.cell? ⟨w2.heap.size, 1, none⟩ = some (.int .i64 1) := (blk_cell KXa.out 1).trans rfl
  have la : w2.heap.size < w12.heap.size := (Array.getElem?_eq_some_iff.1 KXa.out).1
  have xd_0 : w12.cell? ⟨w5.heap.size, 0, none⟩ = some (.slice A5 2 c5) := (blk_cell KXd.out 0).trans rfl
  have xd_1 : w12.cell? ⟨w5.heap.size, 1, none⟩ = some (.int .i64 1) := (blk_cell KXd.out 1).trans rfl
  have ld : w5.heap.size < w12.heap.size := (Array.getElem?_eq_some_iff.1 KXd.out).1
  go_wp2_with fail
  clear xa_0 xa_1 la xd_0 xd_1 ld
  have hpre : Below w12.heap.size w12 w12 := Below.refl w12.heap.size w12
  refine (heap_Same.calls A2 c2 s5a 1 A5 c5 s5d 1 false _ (Kd.V_reads' (Kd.V_below HVa.out hpre)).2.2 (Kd.V_reads' HVa.out).2.1 (Kd.V_reads' (Kd.V_below HVd.out hpre)).2.2 (Kd.V_reads' HVd.out).2.1 s5_e).mono ?_
  rintro e w13 ⟨rfl, hb⟩
  have HB13 : Aside0 (Below w.heap.size w w13) := ⟨(HB12.out.trans (hpre.mono HB12.out.size)).trans (hb.mono (Nat.le_trans HB12.out.size hpre.size))⟩
  replace KXh := Aside0.mk (blk_below (blk_below KXh.out hpre) hb)
  replace KXa := Aside0.mk (blk_below (blk_below KXa.out hpre) hb)
  replace KXb := Aside0.mk (blk_below (blk_below KXb.out hpre) hb)
  replace KXc := Aside0.mk (blk_below (blk_below KXc.out hpre) hb)
  replace KXd := Aside0.mk (blk_below (blk_below KXd.out hpre) hb)
  replace HVh := Aside0.mk (Kd.V_below (Kd.V_below HVh.out hpre) hb)
  replace HVa := Aside0.mk (Kd.V_below (Kd.V_below HVa.out hpre) hb)
  replace HVb := Aside0.mk (Kd.V_below (Kd.V_below HVb.out hpre) hb)
  replace HVc := Aside0.mk (Kd.V_below (Kd.V_below HVc.out hpre) hb)
  replace HVd := Aside0.mk (Kd.V_below (Kd.V_below HVd.out hpre) hb)
  replace HVs := Aside0.mk (Kd.V_below (Kd.V_below HVs.out hpre) hb)
  clear hpre hb HB12
  go_wp2
  go_ret
  exact ⟨rfl, HB13.out⟩
end Go.Proofs.Yteiladccdenpbaa.P
end
section
namespace Go.Proofs.Yteiladccdenpbaa.P
open Go.RowKit Go.Proofs.YteiladccdenpbaaW.PrintWords Go.Proofs.YteiladccdenpbaaW.PrintLast Go.Proofs.YteiladccdenpbaaW.PrintMore
set_option linter.unusedVariables false
set_option linter.unusedSimpArgs false
theorem used_val (l : List S55) (kp p : Int) : assartref05_Used.f l kp p = some (usedB l p) := by
  unfold assartref05_Used.f usedB
  by_cases h0 : p ≥ 0
  · rw [if_pos h0]
    by_cases h1 : p < (l.length : Int)
    · rw [if_pos h1, if_pos h0]
      congr 1
      rw [decide_eq_decide]
      omega
    · rw [if_neg h1, decide_eq_false (by omega)]
  · rw [if_neg h0, decide_eq_false (by omega)]
def heldN (l : List S55) (q i : Nat) : List S55 := l.set q ⟨(rd_T55 l q).f0 + i, (rd_T55 l q).f1, (rd_T55 l q).f2⟩
theorem V_base {α : Type} {d : Kd α} {e base base' : Nat} {W : World} {ok : Nat → Prop} {v : Value} {xs : List α} (h : Kd.V d e W base ok v xs) : Kd.V d e W base' ok v xs := h
theorem usedB_nat {l : List S55} {p : Int} (h : usedB l p = true) : ∃ q : Nat, p = q ∧ q < l.length ∧ 0 < (rd_T55 l (q : Nat)).f0 := by
  unfold usedB at h
  rw [decide_eq_true_eq] at h
  refine ⟨p.toNat, by omega, by omega, ?_⟩
  rw [Int.toNat_of_nonneg h.1]
  exact h.2.2
theorem heldN_len (l : List S55) (q i : Nat) : (heldN l q i).length = l.length := by unfold heldN; exact List.length_set
theorem rd55_same {l : List S55} {a i : Nat} (x : S55) (h : a < l.length) : rd_T55 (l.set a x) (i : Nat) = if a = i then x else rd_T55 l (i : Nat) := by
  simp only [rd_T55, Int.toNat_natCast, List.getD_eq_getElem?_getD]
  rw [List.getElem?_set]
  by_cases e : a = i
  · subst e
    rw [if_pos rfl, if_pos rfl, if_pos h]
    rfl
  · rw [if_neg e, if_neg e]
theorem heldN_zero {l : List S55} {q : Nat} (h : q < l.length) : heldN l q 0 = l := by
  unfold heldN
  rw [show (rd_T55 l (q : Nat)).f0 + ((0 : Nat) : Int) = (rd_T55 l (q : Nat)).f0 by simp, rd55_at h]
  exact List.set_getElem_self h
theorem heldN_rd {l : List S55} {q : Nat} (i : Nat) (h : q < l.length) : rd_T55 (heldN l q i) (q : Nat) = ⟨(rd_T55 l q).f0 + i, (rd_T55 l q).f1, (rd_T55 l q).f2⟩ := by
  unfold heldN; rw [rd55_same _ h, if_pos rfl]
theorem heldN_set {l : List S55} {q i k : Nat} (x : S55) (e : x = ⟨(rd_T55 l q).f0 + k, (rd_T55 l q).f1, (rd_T55 l q).f2⟩) : (heldN l q i).set q x = heldN l q k := by
  unfold heldN
  rw [List.set_set, e]
theorem hold_heldN (l : List S55) (kp : Int) (q i : Nat) (hq : q < l.length) (hl : l.length < 1000000) (h0 : 0 < (rd_T55 l (q : Nat)).f0) (h1 : (rd_T55 l (q : Nat)).f0 ≤ 1000000) (hi : i < 20) : heap_Hold.f (heldN l q i) kp q = some (heldN l q (i + 1), kp, 0) := by
  have hr := heldN_rd i hq
  have hlen := heldN_len l q i
  unfold heap_Hold.f
  rw [if_pos (by omega), if_pos (by unfold usedB; rw [hr, decide_eq_true_eq]; simp only []; omega)]
  unfold holdP
  rw [hr]
  simp only []
  rw [if_pos ⟨by omega, by omega, by omega, by omega, by omega⟩, Option.bind_some, Int.toNat_natCast, heldN_set (k := i + 1) _ (by simp only [S55.mk.injEq]; refine ⟨by push_cast; omega, trivial, trivial⟩), if_pos (by rw [heldN_len]; omega)]
theorem loose_heldN (l : List S55) (kp : Int) (q i : Nat) (hq : q < l.length) (hl : l.length < 1000000) (h0 : 0 < (rd_T55 l (q : Nat)).f0) (h1 : (rd_T55 l (q : Nat)).f0 ≤ 1000000) (hi : i < 20) : heap_Loose.f (heldN l q (i + 1)) kp q = some (heldN l q i, kp, 0) := by
  have hr := heldN_rd (i + 1) hq
  have hlen := heldN_len l q (i + 1)
  unfold heap_Loose.f
  rw [if_pos (by omega), if_pos (by unfold usedB; rw [hr, decide_eq_true_eq]; simp only []; omega), looseP, hr]
  simp only []
  rw [if_pos ⟨by omega, by omega, by omega, by omega, by omega⟩, if_neg (by omega), if_pos (by omega), Option.bind_some, Int.toNat_natCast, heldN_set (k := i) _ (by simp only [S55.mk.injEq]; refine ⟨by push_cast; omega, trivial, trivial⟩), if_pos (by rw [heldN_len]; omega)]
theorem right_heldN {l : List S55} {kp : Int} {q i : Nat} (hq : q < l.length) (h : heapR l kp) (h0 : 0 < (rd_T55 l (q : Nat)).f0) (h1 : (rd_T55 l (q : Nat)).f0 ≤ 1000000) (hi : i ≤ 20) : heapR (heldN l q i) kp := by
  obtain ⟨a, b, c, d, e⟩ := h
  have hlen := heldN_len l q i
  refine ⟨by omega, by omega, c, by omega, fun j hj _ => ?_⟩
  rw [hlen] at hj ⊢
  have hc := e j hj (Nat.zero_le _)
  by_cases ej : q = j
  · subst ej
    rw [heldN_rd i hq]
    rcases hc with x | x
    · have := x.1; omega
    · exact .inr ⟨by simp only []; omega, by simp only []; omega, x.2.2.1, x.2.2.2⟩
  · unfold heldN
    rw [rd55_same _ hq, if_neg ej]
    exact hc
end Go.Proofs.Yteiladccdenpbaa.P
end
section
namespace Go.Proofs.Yteiladccdenpbaa.P
open Go.RowKit Go.Proofs.YteiladccdenpbaaW.PrintWords Go.Proofs.YteiladccdenpbaaW.PrintLast Go.Proofs.YteiladccdenpbaaW.PrintMore
set_option linter.unusedVariables false
set_option linter.unusedSimpArgs false
def hBack.T8 : Bool × List (List Nat × List Nat) := (true, [([], []), ([0], [0]), ([1], [1]), ([2], [2]), ([3, 2], [2, 3]), ([4, 2, 2], [2, 4]), ([5], [5]), ([5], [5]), ([6, 7, 5, 5], [5, 6, 7]), ([8, 5], [5, 8]), ([5, 9, 2], [2, 5, 9]), ([10, 8, 2], [2, 10]), ([11], [11]), ([12, 11, 11], [11, 12]), ([13, 11], [11, 13]), ([11, 14, 2], [2, 11, 14]), ([15, 13, 2], [2, 15]), ([16], [16]), ([17, 16], [16, 17]), ([16], [16]), ([18, 19, 16], [16, 18, 19]), ([20, 16], [16, 20]), ([21, 16], [16, 21]), ([16], [16]), ([23, 16], [16, 23]), ([16], [16]), ([24, 25, 16], [16, 24, 25]), ([26, 16], [16, 26]), ([27, 16], [16, 27]), ([28, 16], [16, 28]), ([22, 29, 16], [16, 22, 29]), ([16, 30, 2], [2, 16, 30]), ([2, 31], [2, 31])])
def hBack.B8 : List Nat := [0, 1, 3, 7, 15, 31, 63, 63, 255, 511, 1023, 2047, 4095, 8191, 16383, 32767, 65535, 131071, 262143, 131071, 1048575, 2097151, 4194303, 131071, 8519679, 131071, 58851327, 125960191, 260177919, 528613375, 1073741823, 2147483647, 4294967295]
theorem hBack.tab8 : rtab .any (opsOf Try.f11 8) = hBack.T8 := by kernel_rfl
theorem hBack.bits8 : waitsOk hBack.T8.2 hBack.B8 = true := by kernel_rfl
def hBack.T13 : Bool × List (List Nat × List Nat) := (true, [([], []), ([0], [0]), ([1], [1]), ([2], [2]), ([2], [2]), ([4, 2], [2, 4]), ([5, 2], [2, 5]), ([3, 6, 2], [2, 3, 6]), ([2, 7], [2, 7]), ([8, 2], [8]), ([9], [9]), ([10, 9], [9, 10]), ([11, 9], [9, 11]), ([9], [9]), ([13, 9], [9, 13]), ([14, 9], [9, 14]), ([12, 15, 9], [9, 12, 15]), ([9, 16], [9, 16]), ([17, 9], [17]), ([18], [18]), ([19, 18, 18], [18, 19]), ([20, 18], [18, 20]), ([18, 21], [18, 21]), ([22, 20], [22]), ([23], [23]), ([24, 23], [23, 24]), ([23], [23]), ([25, 26, 23], [23, 25, 26]), ([27, 23], [23, 27]), ([28, 23], [23, 28]), ([29, 23], [23, 29]), ([23, 30], [23, 30]), ([31, 23], [31]), ([32], [32]), ([33, 32], [32, 33]), ([32], [32]), ([34, 35, 32], [32, 34, 35]), ([36, 32], [32, 36]), ([37, 32], [32, 37]), ([32], [32]), ([38, 39, 32, 32], [32, 38, 39]), ([40, 32], [32, 40]), ([32, 41], [32, 41]), ([42, 40], [42]), ([43], [43]), ([44, 43, 43], [43, 44]), ([43], [43]), ([46, 45, 43], [43, 46]), ([47, 43], [43, 47]), ([45, 48, 43], [43, 45, 48]), ([43, 49], [43, 49])])
def hBack.B13 : List Nat := [0, 1, 3, 7, 7, 23, 55, 127, 255, 511, 1023, 2047, 4095, 1023, 9215, 25599, 65535, 131071, 262143, 524287, 1048575, 2097151, 4194303, 8388607, 16777215, 33554431, 16777215, 134217727, 268435455, 536870911, 1073741823, 2147483647, 4294967295, 8589934591, 17179869183, 8589934591, 68719476735, 137438953471, 274877906943, 8589934591, 1099511627775, 2199023255551, 4398046511103, 8796093022207, 17592186044415, 35184372088831, 17592186044415, 140737488355327, 281474976710655, 562949953421311, 1125899906842623]
theorem hBack.tab13 : rtab .any (opsOf Try.f11 13) = hBack.T13 := by kernel_rfl
theorem hBack.bits13 : waitsOk hBack.T13.2 hBack.B13 = true := by kernel_rfl
theorem back_ne (r0 : Int) (h0 : 0 < r0) (h1 : r0 ≤ 1000000) : (r0 + 1 != wrap64 (r0 + 1)) = false := by
  rw [wadd _ _ (Int.le_of_lt h0) (Int.le_trans h1 (by decide)) (by decide) (by decide)]
  exact bne_self_eq_false _
theorem back_ne2 (a b : Nat) (h : b = a + 1) (hb : b ≤ 1000000) : ((a : Int) != wrap64 ((b : Int) - 1)) = false := by
  have e : wrap64 ((b : Int) - 1) = (a : Int) := by unfold wrap64; omega
  rw [e]
  exact bne_self_eq_false _
set_option maxHeartbeats 8000000 in
set_option maxRecDepth 100000 in
theorem assartlaw05_HeapBack.walk (A : Option Addr) (c : Nat) (l : List S55) (kp : Int) (leaf : Bool) (A1 : Option Addr) (c1 : Nat) (it : List S49) (p : Int) (w : World) (hr : Kd.C k55 w A l.length l) (hc : l.length ≤ c) (hr1 : Kd.C k49 w A1 it.length it) (hc1 : it.length ≤ c1) :
    Calls Try.prog 11 #[.agg #[.slice A l.length c, .int .i64 kp], .agg #[.bool leaf, .slice A1 it.length c1], .int .i64 p] w fun e w' => e = .returned (.bool true) ∧ Below w.heap.size w w' := by
  obtain ⟨wA, hwA⟩ : ∃ wA, (w.alloc (.cells #[.slice A l.length c, .int .i64 kp] 24)).alloc (.cells #[.bool leaf, .slice A1 it.length c1] 53) = wA := ⟨_, rfl⟩
  have HB : Aside0 (Below w.heap.size w wA) := ⟨by rw [← hwA]; exact ((Below.refl _ w).alloc (Nat.le_refl _) _).alloc (by simp) _⟩
  have KXh : Aside0 (wA.heap[w.heap.size]? = some (.cells #[.slice A l.length c, .int .i64 kp] 24 (0, 0))) := ⟨by rw [← hwA]; exact blk_alloc (alloc_new w _) _⟩
  have KXn : Aside0 (wA.heap[w.heap.size + 1]? = some (.cells #[.bool leaf, .slice A1 it.length c1] 53 (0, 0))) := ⟨by
    rw [← hwA]
    have := alloc_new (w.alloc (.cells #[.slice A l.length c, .int .i64 kp] 24)) (.cells #[.bool leaf, .slice A1 it.length c1] 53)
    rwa [World.size_alloc] at this⟩
  have HVl : Aside0 (Kd.V k55 55 wA 0 (fun k => k < w.heap.size) (.slice A l.length c) l) := ⟨Kd.V_below (Kd.V_mk hc (Kd.C_F k55_heap hr)) HB.out⟩
  have HVn : Aside0 (Kd.V k49 49 wA 0 (fun k => k < w.heap.size) (.slice A1 it.length c1) it) := ⟨Kd.V_below (Kd.V_mk hc1 (Kd.C_F k49_heap hr1)) HB.out⟩
  have HSZ := Aside0.mk (show w.heap.size + 1 < wA.heap.size from blk_lt KXn.out)
  have hm := may05_val l kp 60 (by omega) 10000 (by omega)
  rw [show ((60 : Nat) : Int) = 60 from rfl] at hm
  have HM := Aside0.mk hm
  clear hr hc hr1 hc1 hm
  have hu24 := Try.underlying24
  have hu53 := Try.underlying53
  go_enter Try.func11, Try.ntmps11
  go_wp2_with fail
  refine (assartlaw05_shown.calls true wA rfl).mono ?_
  rintro e w1 ⟨rfl, hb⟩
  replace HB := Aside0.mk (HB.out.trans (hb.mono HB.out.size))
  replace KXh := Aside0.mk (blk_below KXh.out hb)
  replace KXn := Aside0.mk (blk_below KXn.out hb)
  replace HVl := Aside0.mk (Kd.V_below HVl.out hb)
  replace HVn := Aside0.mk (Kd.V_below HVn.out hb)
  clear hb hwA HSZ
  have xh_0 : w1.cell? ⟨w.heap.size, 0, none⟩ = some (.slice A l.length c) := (blk_cell KXh.out 0).trans rfl
  have xh_1 : w1.cell? ⟨w.heap.size, 1, none⟩ = some (.int .i64 kp) := (blk_cell KXh.out 1).trans rfl
  have lh : w.heap.size < w1.heap.size := blk_lt KXh.out
  have xn_0 : w1.cell? ⟨w.heap.size + 1, 0, none⟩ = some (.bool leaf) := (blk_cell KXn.out 0).trans rfl
  have xn_1 : w1.cell? ⟨w.heap.size + 1, 1, none⟩ = some (.slice A1 it.length c1) := (blk_cell KXn.out 1).trans rfl
  have ln : w.heap.size + 1 < w1.heap.size := blk_lt KXn.out
  go_wp2_with fail
  clear xh_0 xh_1 lh xn_0 xn_1 ln
  refine (assartref05_May.calls 10000 A c l kp 60 (decide (mayH l kp 60)) w1 (Kd.V_reads' HVl.out).2.2 (Kd.V_reads' HVl.out).2.1 HM.out).mono ?_
  rintro e w2 ⟨rfl, hb⟩
  replace HB := Aside0.mk (HB.out.trans (hb.mono HB.out.size))
  replace KXh := Aside0.mk (blk_below KXh.out hb)
  replace KXn := Aside0.mk (blk_below KXn.out hb)
  replace HVl := Aside0.mk (Kd.V_below HVl.out hb)
  replace HVn := Aside0.mk (Kd.V_below HVn.out hb)
  clear hb HM
  by_cases h1 : mayH l kp 60
  · rw [decide_eq_true h1]
    have xh_0 : w2.cell? ⟨w.heap.size, 0, none⟩ = some (.slice A l.length c) := (blk_cell KXh.out 0).trans rfl
    have xh_1 : w2.cell? ⟨w.heap.size, 1, none⟩ = some (.int .i64 kp) := (blk_cell KXh.out 1).trans rfl
    have lh : w.heap.size < w2.heap.size := blk_lt KXh.out
    have xn_0 : w2.cell? ⟨w.heap.size + 1, 0, none⟩ = some (.bool leaf) := (blk_cell KXn.out 0).trans rfl
    have xn_1 : w2.cell? ⟨w.heap.size + 1, 1, none⟩ = some (.slice A1 it.length c1) := (blk_cell KXn.out 1).trans rfl
    have ln : w.heap.size + 1 < w2.heap.size := blk_lt KXn.out
    by_cases hit : it.length ≤ 10
    · have hc10 : decide ((it.length : Int) > 10) = false := decide_eq_false (by omega)
      go_wp2_with fail
      clear hc10 xh_0 xh_1 lh xn_0 xn_1 ln
      have hl60 := h1.1
      have hi1 : ∀ x ∈ l, x.f2.f1.length ≤ 10 := fun x hx => (small_items h1.2.1 x hx).1
      by_cases hu : usedB l p = true
      · obtain ⟨q, rfl, hq, h0⟩ := usedB_nat hu
        have hle : (rd_T55 l (q : Nat)).f0 ≤ 1000000 := (h1.2.1 q hq (Nat.zero_le _)).2
        have HFh := Aside0.mk (hold_heldN l kp q 0 hq (by omega) h0 hle (by omega))
        have HFl := Aside0.mk (loose_heldN l kp q 0 hq (by omega) h0 hle (by omega))
        have HRt := Aside0.mk (right_heldN (i := 1) hq h1.2.2 h0 hle (by omega))
        have hrd := heldN_rd (l := l) 1 hq
        have hlc : (heldN l q 1).length = l.length := heldN_len l q 1
        rw [heldN_zero hq] at HFh HFl
        rw [show 0 + 1 = 1 from rfl] at HFh HFl
        obtain ⟨lc, hlc_⟩ : ∃ lc, heldN l q 1 = lc := ⟨_, rfl⟩
        rw [hlc_] at HFh HFl HRt hrd hlc
        clear hlc_
        have HLC := Aside0.mk hlc
        clear hlc
        refine (heap_Hold.calls (fun _ => True) A c l kp (q : Int) _ kp 0 w2 (V_base (Kd.V_mono HVl.out (fun _ _ => trivial))) HFh.out).mono ?_
        rintro e w11 ⟨v_, rfl, hv, hb⟩
        obtain ⟨Ac, cc, ev⟩ := Kd.V_slice hv
        subst ev
        replace HB := Aside0.mk (HB.out.trans (hb.mono HB.out.size))
        replace KXh := Aside0.mk (blk_below KXh.out hb)
        replace KXn := Aside0.mk (blk_below KXn.out hb)
        replace HVl := Aside0.mk (Kd.V_below HVl.out hb)
        replace HVn := Aside0.mk (Kd.V_below HVn.out hb)
        have HVc : Aside0 (Kd.V k55 55 w11 0 (fun _ => True) (.slice Ac lc.length cc) lc) := ⟨V_base (Kd.V_mono hv (fun _ _ => trivial))⟩
        clear hv hb HFh
        have xh_0 : w11.cell? ⟨w.heap.size, 0, none⟩ = some (.slice A l.length c) := (blk_cell KXh.out 0).trans rfl
        have xh_1 : w11.cell? ⟨w.heap.size, 1, none⟩ = some (.int .i64 kp) := (blk_cell KXh.out 1).trans rfl
        have lh : w.heap.size < w11.heap.size := blk_lt KXh.out
        go_wp2_with fail
        clear xh_0 xh_1 lh
        have hpre : Below w11.heap.size w11 (w11.alloc (.cells #[.slice Ac lc.length cc, .int .i64 kp] 24)) := (Below.refl w11.heap.size w11).alloc (Nat.le_refl _) _
        replace HB := Aside0.mk (HB.out.trans (hpre.mono HB.out.size))
        replace KXh := Aside0.mk (blk_below KXh.out hpre)
        replace KXn := Aside0.mk (blk_below KXn.out hpre)
        replace HVl := Aside0.mk (Kd.V_below HVl.out hpre)
        replace HVn := Aside0.mk (Kd.V_below HVn.out hpre)
        replace HVc := Aside0.mk (Kd.V_below HVc.out hpre)
        have KXc : Aside0 ((w11.alloc (.cells #[.slice Ac lc.length cc, .int .i64 kp] 24)).heap[w11.heap.size]? = some (.cells #[.slice Ac lc.length cc, .int .i64 kp] 24 (0, 0))) := ⟨alloc_new w11 _⟩
        clear hpre
        obtain ⟨w12, hw_⟩ : ∃ w_, (w11.alloc (.cells #[.slice Ac lc.length cc, .int .i64 kp] 24)) = w_ := ⟨_, rfl⟩
        rw [hw_]
        rw [hw_] at HB KXh KXn HVl HVn HVc KXc
        clear hw_
        refine (assartref05_Used.calls A c l kp (q : Int) true w12 (Kd.V_reads' HVl.out).2.2 (Kd.V_reads' HVl.out).2.1 (by rw [used_val, hu])).mono ?_
        rintro e w13 ⟨rfl, hb⟩
        replace HB := Aside0.mk (HB.out.trans (hb.mono HB.out.size))
        replace KXh := Aside0.mk (blk_below KXh.out hb)
        replace KXn := Aside0.mk (blk_below KXn.out hb)
        replace HVl := Aside0.mk (Kd.V_below HVl.out hb)
        replace HVn := Aside0.mk (Kd.V_below HVn.out hb)
        replace HVc := Aside0.mk (Kd.V_below HVc.out hb)
        replace KXc := Aside0.mk (blk_below KXc.out hb)
        clear hb
        have xh_0 : w13.cell? ⟨w.heap.size, 0, none⟩ = some (.slice A l.length c) := (blk_cell KXh.out 0).trans rfl
        have xh_1 : w13.cell? ⟨w.heap.size, 1, none⟩ = some (.int .i64 kp) := (blk_cell KXh.out 1).trans rfl
        have lh : w.heap.size < w13.heap.size := blk_lt KXh.out
        have xc_0 : w13.cell? ⟨w11.heap.size, 0, none⟩ = some (.slice Ac lc.length cc) := (blk_cell KXc.out 0).trans rfl
        have xc_1 : w13.cell? ⟨w11.heap.size, 1, none⟩ = some (.int .i64 kp) := (blk_cell KXc.out 1).trans rfl
        have lc : w11.heap.size < w13.heap.size := blk_lt KXc.out
        go_wp2_with fail
        clear xh_0 xh_1 lh xc_0 xc_1 lc
        refine (heap_Loose.calls (fun _ => True) Ac cc lc kp (q : Int) _ kp 0 w13 (V_base HVc.out) HFl.out).mono ?_
        rintro e w14 ⟨v_, rfl, hv, hb⟩
        obtain ⟨Ad, cd, ev⟩ := Kd.V_slice hv
        subst ev
        replace HB := Aside0.mk (HB.out.trans (hb.mono HB.out.size))
        replace KXh := Aside0.mk (blk_below KXh.out hb)
        replace KXn := Aside0.mk (blk_below KXn.out hb)
        replace HVl := Aside0.mk (Kd.V_below HVl.out hb)
        replace HVn := Aside0.mk (Kd.V_below HVn.out hb)
        replace HVc := Aside0.mk (Kd.V_below HVc.out hb)
        replace KXc := Aside0.mk (blk_below KXc.out hb)
        have HVd : Aside0 (Kd.V k55 55 w14 0 (fun _ => True) (.slice Ad l.length cd) l) := ⟨V_base (Kd.V_mono hv (fun _ _ => trivial))⟩
        clear hv hb HFl
        have xh_0 : w14.cell? ⟨w.heap.size, 0, none⟩ = some (.slice A l.length c) := (blk_cell KXh.out 0).trans rfl
        have xh_1 : w14.cell? ⟨w.heap.size, 1, none⟩ = some (.int .i64 kp) := (blk_cell KXh.out 1).trans rfl
        have lh : w.heap.size < w14.heap.size := blk_lt KXh.out
        have xc_0 : w14.cell? ⟨w11.heap.size, 0, none⟩ = some (.slice Ac lc.length cc) := (blk_cell KXc.out 0).trans rfl
        have xc_1 : w14.cell? ⟨w11.heap.size, 1, none⟩ = some (.int .i64 kp) := (blk_cell KXc.out 1).trans rfl
        have lc : w11.heap.size < w14.heap.size := blk_lt KXc.out
        go_wp2_with fail
        clear xh_0 xh_1 lh xc_0 xc_1 lc
        have hpre : Below w14.heap.size w14 (w14.alloc (.cells #[.slice Ad l.length cd, .int .i64 kp] 24)) := (Below.refl w14.heap.size w14).alloc (Nat.le_refl _) _
        replace HB := Aside0.mk (HB.out.trans (hpre.mono HB.out.size))
        replace KXh := Aside0.mk (blk_below KXh.out hpre)
        replace KXn := Aside0.mk (blk_below KXn.out hpre)
        replace HVl := Aside0.mk (Kd.V_below HVl.out hpre)
        replace HVn := Aside0.mk (Kd.V_below HVn.out hpre)
        replace HVc := Aside0.mk (Kd.V_below HVc.out hpre)
        replace KXc := Aside0.mk (blk_below KXc.out hpre)
        replace HVd := Aside0.mk (Kd.V_below HVd.out hpre)
        have KXd : Aside0 ((w14.alloc (.cells #[.slice Ad l.length cd, .int .i64 kp] 24)).heap[w14.heap.size]? = some (.cells #[.slice Ad l.length cd, .int .i64 kp] 24 (0, 0))) := ⟨alloc_new w14 _⟩
        clear hpre
        obtain ⟨w15, hw_⟩ : ∃ w_, (w14.alloc (.cells #[.slice Ad l.length cd, .int .i64 kp] 24)) = w_ := ⟨_, rfl⟩
        rw [hw_]
        rw [hw_] at HB KXh KXn HVl HVn HVc KXc HVd KXd
        clear hw_
        obtain ⟨ac, A_, c_, e1, y0, -⟩ := at_T55 (Kd.V_reads' HVc.out).2.2 (q : Int) (by omega) (by have := HLC.out; omega)
        obtain ⟨ax, A_', c_', e2, y1, -⟩ := at_T55 (Kd.V_reads' HVl.out).2.2 (q : Int) (by omega) (by omega)
        cases e1
        cases e2
        rw [Int.toNat_natCast, hrd] at y0
        rw [Int.toNat_natCast] at y1
        obtain ⟨r0, hr0⟩ : ∃ r0, (rd_T55 l (q : Nat)).f0 = r0 := ⟨_, rfl⟩
        rw [hr0] at y0 y1 h0 hle
        have Z0 : Aside0 (w15.cell? ⟨w14.heap.size, 0, none⟩ = some (.slice Ad l.length cd)) := ⟨(blk_cell KXd.out 0).trans rfl⟩
        have Z1 : Aside0 (w15.cell? ⟨w14.heap.size, 1, none⟩ = some (.int .i64 kp)) := ⟨(blk_cell KXd.out 1).trans rfl⟩
        have Z2 : Aside0 (w15.cell? ⟨w.heap.size, 0, none⟩ = some (.slice (some ax) l.length c)) := ⟨(blk_cell KXh.out 0).trans rfl⟩
        have Z3 : Aside0 (w15.cell? ⟨w.heap.size, 1, none⟩ = some (.int .i64 kp)) := ⟨(blk_cell KXh.out 1).trans rfl⟩
        have Z4 : Aside0 (w15.cell? ⟨w11.heap.size, 0, none⟩ = some (.slice (some ac) lc.length cc)) := ⟨(blk_cell KXc.out 0).trans rfl⟩
        have Z5 : Aside0 (w15.cell? ⟨w11.heap.size, 1, none⟩ = some (.int .i64 kp)) := ⟨(blk_cell KXc.out 1).trans rfl⟩
        have Z6 : Aside0 (w15.cell? (ac.add (q * 4)) = some (.int .i64 (r0 + 1))) := ⟨y0⟩
        have Z7 : Aside0 (w15.cell? (ax.add (q * 4)) = some (.int .i64 r0)) := ⟨y1⟩
        have p1 : (q : Int) < (l.length : Int) := by omega
        replace p1 := eq_true p1
        have p2 : (q : Int) < (lc.length : Int) := by have := HLC.out; omega
        replace p2 := eq_true p2
        have HNE := Aside0.mk (back_ne r0 h0 hle)
        have HSM : Aside0 (assartref05_Same.f 10000 l kp l kp = some true) := ⟨by rw [refSame_val l l kp kp (by omega) (fun x hx => by have := hi1 x hx; omega) (by omega)]; simp⟩
        have HRF : Aside0 (assartref05_Right.f 10000 lc kp = some true) := ⟨by rw [right05_val lc kp 10000 (.inl (by omega)), decide_eq_true HRt.out]⟩
        clear y0 y1 HRt
        replace Z0 : Aside0 (w15.drew.cell? ⟨w14.heap.size, 0, none⟩ = some (.slice Ad l.length cd)) := ⟨Z0.out⟩
        replace Z1 : Aside0 (w15.drew.cell? ⟨w14.heap.size, 1, none⟩ = some (.int .i64 kp)) := ⟨Z1.out⟩
        replace Z2 : Aside0 (w15.drew.cell? ⟨w.heap.size, 0, none⟩ = some (.slice (some ax) l.length c)) := ⟨Z2.out⟩
        replace Z3 : Aside0 (w15.drew.cell? ⟨w.heap.size, 1, none⟩ = some (.int .i64 kp)) := ⟨Z3.out⟩
        replace Z4 : Aside0 (w15.drew.cell? ⟨w11.heap.size, 0, none⟩ = some (.slice (some ac) lc.length cc)) := ⟨Z4.out⟩
        replace Z5 : Aside0 (w15.drew.cell? ⟨w11.heap.size, 1, none⟩ = some (.int .i64 kp)) := ⟨Z5.out⟩
        replace Z6 : Aside0 (w15.drew.cell? (ac.add (q * 4)) = some (.int .i64 (r0 + 1))) := ⟨Z6.out⟩
        replace Z7 : Aside0 (w15.drew.cell? (ax.add (q * 4)) = some (.int .i64 r0)) := ⟨Z7.out⟩
        replace HB := Aside0.mk (below_drew HB.out)
        replace KXh := Aside0.mk (blk_drew KXh.out)
        replace KXn := Aside0.mk (blk_drew KXn.out)
        replace HVl := Aside0.mk (Kd.V_drew HVl.out)
        replace HVn := Aside0.mk (Kd.V_drew HVn.out)
        replace HVc := Aside0.mk (Kd.V_drew HVc.out)
        replace KXc := Aside0.mk (blk_drew KXc.out)
        replace HVd := Aside0.mk (Kd.V_drew HVd.out)
        replace KXd := Aside0.mk (blk_drew KXd.out)
        refine start_ (n := 33) (S := fun w' => w'.cell? ⟨w14.heap.size, 0, none⟩ = some (.slice Ad l.length cd) ∧ w'.cell? ⟨w14.heap.size, 1, none⟩ = some (.int .i64 kp) ∧ w'.cell? ⟨w.heap.size, 0, none⟩ = some (.slice (some ax) l.length c) ∧ w'.cell? ⟨w.heap.size, 1, none⟩ = some (.int .i64 kp) ∧ w'.cell? ⟨w11.heap.size, 0, none⟩ = some (.slice (some ac) lc.length cc) ∧ w'.cell? ⟨w11.heap.size, 1, none⟩ = some (.int .i64 kp) ∧ w'.cell? (ac.add (q * 4)) = some (.int .i64 (r0 + 1)) ∧ w'.cell? (ax.add (q * 4)) = some (.int .i64 r0)) (ds := []) #[false, false, false, false, false, false, false, false, false, false, false, false, false, false, false, false, false, false, false, false, false, false, false, false, false, false, false, false, false, false, false, false, false] (by kernel_rfl) rfl rfl ⟨Z0.out, Z1.out, Z2.out, Z3.out, Z4.out, Z5.out, Z6.out, Z7.out⟩ (fun hHeld => ?_)
        refine with_tabW hBack.tab8 hBack.bits8 (fun HT_ HW_ => ?_)
        generalize w15.drew = wdu8 at Z0 Z1 Z2 Z3 Z4 Z5 Z6 Z7 HB KXh KXn HVl HVn HVc KXc HVd KXd hHeld ⊢
        refine pure_ (i := 0) (N := some 47) (v := ?_) (a' := ?_) #[true, false, false, false, false, false, false, false, false, false, false, false, false, false, false, false, false, false, false, false, false, false, false, false, false, false, false, false, false, false, false, false, false] rfl rfl (any_of HT_.out (by kernel_rfl)) (fun _ _ _ h => h) (Or.inl ⟨by rfl, ?_⟩) ?_ ?_
        rotate_left
        · intro w'
          go_simp
          with_reducible rfl
        rotate_left
        · simp only [Act.put, List.setIfInBounds_toArray, List.set_cons_zero, List.set_cons_succ, i64_w, i32_w]
          rfl
        refine pure_ (i := 1) (N := some 48) (v := ?_) (a' := ?_) #[true, true, false, false, false, false, false, false, false, false, false, false, false, false, false, false, false, false, false, false, false, false, false, false, false, false, false, false, false, false, false, false, false] rfl rfl (any_of HT_.out (by kernel_rfl)) (fun _ _ _ h => h) (Or.inl ⟨by rfl, ?_⟩) ?_ ?_
        rotate_left
        · intro w'
          go_simp
          with_reducible rfl
        rotate_left
        · simp only [Act.put, List.setIfInBounds_toArray, List.set_cons_zero, List.set_cons_succ, i64_w, i32_w]
          rfl
        refine pure_ (i := 2) (N := some 49) (v := ?_) (a' := ?_) #[true, true, true, false, false, false, false, false, false, false, false, false, false, false, false, false, false, false, false, false, false, false, false, false, false, false, false, false, false, false, false, false, false] rfl rfl (any_of HT_.out (by kernel_rfl)) (fun _ _ _ h => h) (Or.inl ⟨by rfl, ?_⟩) ?_ ?_
        rotate_left
        · intro w'
          go_simp
          with_reducible rfl
        rotate_left
        · simp only [Act.put, List.setIfInBounds_toArray, List.set_cons_zero, List.set_cons_succ, i64_w, i32_w]
          rfl
        refine pure_ (i := 3) (N := some 50) (v := ?_) (a' := ?_) #[true, true, true, true, false, false, false, false, false, false, false, false, false, false, false, false, false, false, false, false, false, false, false, false, false, false, false, false, false, false, false, false, false] rfl rfl (any_of HT_.out (by kernel_rfl)) (fun _ _ _ h => h) (Or.inl ⟨by rfl, ?_⟩) ?_ ?_
        rotate_left
        · intro w'
          go_simp
          with_reducible rfl
        rotate_left
        · simp only [Act.put, List.setIfInBounds_toArray, List.set_cons_zero, List.set_cons_succ, i64_w, i32_w]
          rfl
        refine pure_ (i := 4) (N := some 51) (v := ?_) (a' := ?_) #[true, true, true, true, true, false, false, false, false, false, false, false, false, false, false, false, false, false, false, false, false, false, false, false, false, false, false, false, false, false, false, false, false] rfl rfl (any_of HT_.out (by kernel_rfl)) (fun _ _ _ h => h) (Or.inl ⟨by rfl, ?_⟩) ?_ ?_
        rotate_left
        · intro w'
          go_simp
          with_reducible rfl
        rotate_left
        · simp only [Act.put, List.setIfInBounds_toArray, List.set_cons_zero, List.set_cons_succ, i64_w, i32_w]
          rfl
        refine pure_ (i := 5) (N := some 52) (v := ?_) (a' := ?_) #[true, true, true, true, true, true, false, false, false, false, false, false, false, false, false, false, false, false, false, false, false, false, false, false, false, false, false, false, false, false, false, false, false] rfl rfl (any_of HT_.out (by kernel_rfl)) (fun _ _ _ h => h) (Or.inl ⟨by rfl, ?_⟩) ?_ ?_
        rotate_left
        · intro w'
          go_simp
          with_reducible rfl
        rotate_left
        · simp only [Act.put, List.setIfInBounds_toArray, List.set_cons_zero, List.set_cons_succ, i64_w, i32_w]
          rfl
        refine take_ (i := 6) (N := some 53) (v := ?_) (a' := ?_) #[true, true, true, true, true, true, true, false, false, false, false, false, false, false, false, false, false, false, false, false, false, false, false, false, false, false, false, false, false, false, false, false, false] rfl rfl (take_ofW HT_.out HW_.out (by kernel_rfl)) (fun _ _ _ h => h) (Or.inl ⟨by rfl, ?_⟩) hHeld ?_ ?_
        rotate_left
        · rintro w' ⟨s0, s1, s2, s3, s4, s5, s6, s7⟩
          go_simp
          with_reducible rfl
        rotate_left
        · simp only [Act.put, List.setIfInBounds_toArray, List.set_cons_zero, List.set_cons_succ, i64_w, i32_w]
          rfl
        refine take_ (i := 7) (N := some 54) (v := ?_) (a' := ?_) #[true, true, true, true, true, true, true, true, false, false, false, false, false, false, false, false, false, false, false, false, false, false, false, false, false, false, false, false, false, false, false, false, false] rfl rfl (take_ofW HT_.out HW_.out (by kernel_rfl)) (fun _ _ _ h => h) (Or.inl ⟨by rfl, ?_⟩) hHeld ?_ ?_
        rotate_left
        · rintro w' ⟨s0, s1, s2, s3, s4, s5, s6, s7⟩
          go_simp
          with_reducible rfl
        rotate_left
        · simp only [Act.put, List.setIfInBounds_toArray, List.set_cons_zero, List.set_cons_succ, i64_w, i32_w]
          rfl
        refine one_ (i := 8) (N := some 55) #[true, true, true, true, true, true, true, true, true, false, false, false, false, false, false, false, false, false, false, false, false, false, false, false, false, false, false, false, false, false, false, false, false] rfl rfl (one_of HT_.out (by kernel_rfl)) (by decide) (fun K hK => ?_)
        refine goes_ Try.func37 (by kernel_rfl) rfl #[.agg #[.slice Ad l.length cd, .int .i64 kp], .agg #[.slice (some ax) l.length c, .int .i64 kp]] (by rfl) rfl rfl (by (try simp only [List.map_toArray, List.map_cons, List.map_nil]); first | done | rfl | (simp only [List.length_drop, List.length_take]; rfl)) ?_
        with_reducible refine (assartref05_Same.calls 10000 Ad cd l kp (some ax) c l kp true _ (Kd.V_reads' HVd.out).2.2 (Kd.V_reads' HVd.out).2.1 (Kd.V_reads' HVl.out).2.2 (Kd.V_reads' HVl.out).2.1 HSM.out).mono ?_
        rintro e wcu8 ⟨rfl, hb⟩
        refine ⟨_, rfl, ?_⟩
        replace Z0 : Aside0 (wcu8.cell? ⟨w14.heap.size, 0, none⟩ = some (.slice Ad l.length cd)) := ⟨(hb.cell (World.block_lt_of_cell? wdu8 _ Z0.out)).trans Z0.out⟩
        replace Z1 : Aside0 (wcu8.cell? ⟨w14.heap.size, 1, none⟩ = some (.int .i64 kp)) := ⟨(hb.cell (World.block_lt_of_cell? wdu8 _ Z1.out)).trans Z1.out⟩
        replace Z2 : Aside0 (wcu8.cell? ⟨w.heap.size, 0, none⟩ = some (.slice (some ax) l.length c)) := ⟨(hb.cell (World.block_lt_of_cell? wdu8 _ Z2.out)).trans Z2.out⟩
        replace Z3 : Aside0 (wcu8.cell? ⟨w.heap.size, 1, none⟩ = some (.int .i64 kp)) := ⟨(hb.cell (World.block_lt_of_cell? wdu8 _ Z3.out)).trans Z3.out⟩
        replace Z4 : Aside0 (wcu8.cell? ⟨w11.heap.size, 0, none⟩ = some (.slice (some ac) lc.length cc)) := ⟨(hb.cell (World.block_lt_of_cell? wdu8 _ Z4.out)).trans Z4.out⟩
        replace Z5 : Aside0 (wcu8.cell? ⟨w11.heap.size, 1, none⟩ = some (.int .i64 kp)) := ⟨(hb.cell (World.block_lt_of_cell? wdu8 _ Z5.out)).trans Z5.out⟩
        replace Z6 : Aside0 (wcu8.cell? (ac.add (q * 4)) = some (.int .i64 (r0 + 1))) := ⟨(hb.cell (World.block_lt_of_cell? wdu8 _ Z6.out)).trans Z6.out⟩
        replace Z7 : Aside0 (wcu8.cell? (ax.add (q * 4)) = some (.int .i64 r0)) := ⟨(hb.cell (World.block_lt_of_cell? wdu8 _ Z7.out)).trans Z7.out⟩
        replace HB := Aside0.mk (HB.out.trans (hb.mono HB.out.size))
        replace KXh := Aside0.mk (blk_below KXh.out hb)
        replace KXn := Aside0.mk (blk_below KXn.out hb)
        replace HVl := Aside0.mk (Kd.V_below HVl.out hb)
        replace HVn := Aside0.mk (Kd.V_below HVn.out hb)
        replace HVc := Aside0.mk (Kd.V_below HVc.out hb)
        replace KXc := Aside0.mk (blk_below KXc.out hb)
        replace HVd := Aside0.mk (Kd.V_below HVd.out hb)
        replace KXd := Aside0.mk (blk_below KXd.out hb)
        clear hb hHeld
        refine hK.out _ _ ⟨Z0.out, Z1.out, Z2.out, Z3.out, Z4.out, Z5.out, Z6.out, Z7.out⟩ (fun hHeld => ?_)
        clear hK K
        refine norm_ (a' := ?_) ?_ ?_
        rotate_left
        · show Act.put _ (some 55) _ = _
          simp only [Act.put, List.setIfInBounds_toArray, List.set_cons_zero, List.set_cons_succ, i64_w, i32_w]
          rfl
        refine pure_ (i := 9) (N := some 56) (v := ?_) (a' := ?_) #[true, true, true, true, true, true, true, true, true, true, false, false, false, false, false, false, false, false, false, false, false, false, false, false, false, false, false, false, false, false, false, false, false] rfl rfl (any_of HT_.out (by kernel_rfl)) (fun _ _ _ h => h) (Or.inl ⟨by rfl, ?_⟩) ?_ ?_
        rotate_left
        · intro w'
          go_simp
          with_reducible rfl
        rotate_left
        · simp only [Act.put, List.setIfInBounds_toArray, List.set_cons_zero, List.set_cons_succ, i64_w, i32_w]
          rfl
        refine pure_ (i := 10) (N := some 57) (v := ?_) (a' := ?_) #[true, true, true, true, true, true, true, true, true, true, true, false, false, false, false, false, false, false, false, false, false, false, false, false, false, false, false, false, false, false, false, false, false] rfl rfl (any_of HT_.out (by kernel_rfl)) (fun _ _ _ h => h) (Or.inl ⟨by rfl, ?_⟩) ?_ ?_
        rotate_left
        · intro w'
          go_simp
          with_reducible rfl
        rotate_left
        · simp only [Act.put, List.setIfInBounds_toArray, List.set_cons_zero, List.set_cons_succ, i64_w, i32_w]
          rfl
        refine pure_ (i := 11) (N := some 58) (v := ?_) (a' := ?_) #[true, true, true, true, true, true, true, true, true, true, true, true, false, false, false, false, false, false, false, false, false, false, false, false, false, false, false, false, false, false, false, false, false] rfl rfl (any_of HT_.out (by kernel_rfl)) (fun _ _ _ h => h) (Or.inl ⟨by rfl, ?_⟩) ?_ ?_
        rotate_left
        · intro w'
          go_simp
          with_reducible rfl
        rotate_left
        · simp only [Act.put, List.setIfInBounds_toArray, List.set_cons_zero, List.set_cons_succ, i64_w, i32_w]
          rfl
        refine take_ (i := 12) (N := some 59) (v := ?_) (a' := ?_) #[true, true, true, true, true, true, true, true, true, true, true, true, true, false, false, false, false, false, false, false, false, false, false, false, false, false, false, false, false, false, false, false, false] rfl rfl (take_ofW HT_.out HW_.out (by kernel_rfl)) (fun _ _ _ h => h) (Or.inl ⟨by rfl, ?_⟩) hHeld ?_ ?_
        rotate_left
        · rintro w' ⟨s0, s1, s2, s3, s4, s5, s6, s7⟩
          go_simp
          with_reducible rfl
        rotate_left
        · simp only [Act.put, List.setIfInBounds_toArray, List.set_cons_zero, List.set_cons_succ, i64_w, i32_w]
          rfl
        refine one_ (i := 13) (N := some 60) #[true, true, true, true, true, true, true, true, true, true, true, true, true, true, false, false, false, false, false, false, false, false, false, false, false, false, false, false, false, false, false, false, false] rfl rfl (one_of HT_.out (by kernel_rfl)) (by decide) (fun K hK => ?_)
        refine goes_ Try.func32 (by kernel_rfl) rfl #[.agg #[.slice (some ac) lc.length cc, .int .i64 kp]] (by rfl) rfl rfl (by (try simp only [List.map_toArray, List.map_cons, List.map_nil]); first | done | rfl | (simp only [List.length_drop, List.length_take]; rfl)) ?_
        with_reducible refine (assartref05_Right.calls 10000 (some ac) cc lc kp true _ (Kd.V_reads' HVc.out).2.2 (Kd.V_reads' HVc.out).2.1 HRF.out).mono ?_
        rintro e wcu13 ⟨rfl, hb⟩
        refine ⟨_, rfl, ?_⟩
        replace Z0 : Aside0 (wcu13.cell? ⟨w14.heap.size, 0, none⟩ = some (.slice Ad l.length cd)) := ⟨(hb.cell (World.block_lt_of_cell? wcu8 _ Z0.out)).trans Z0.out⟩
        replace Z1 : Aside0 (wcu13.cell? ⟨w14.heap.size, 1, none⟩ = some (.int .i64 kp)) := ⟨(hb.cell (World.block_lt_of_cell? wcu8 _ Z1.out)).trans Z1.out⟩
        replace Z2 : Aside0 (wcu13.cell? ⟨w.heap.size, 0, none⟩ = some (.slice (some ax) l.length c)) := ⟨(hb.cell (World.block_lt_of_cell? wcu8 _ Z2.out)).trans Z2.out⟩
        replace Z3 : Aside0 (wcu13.cell? ⟨w.heap.size, 1, none⟩ = some (.int .i64 kp)) := ⟨(hb.cell (World.block_lt_of_cell? wcu8 _ Z3.out)).trans Z3.out⟩
        replace Z4 : Aside0 (wcu13.cell? ⟨w11.heap.size, 0, none⟩ = some (.slice (some ac) lc.length cc)) := ⟨(hb.cell (World.block_lt_of_cell? wcu8 _ Z4.out)).trans Z4.out⟩
        replace Z5 : Aside0 (wcu13.cell? ⟨w11.heap.size, 1, none⟩ = some (.int .i64 kp)) := ⟨(hb.cell (World.block_lt_of_cell? wcu8 _ Z5.out)).trans Z5.out⟩
        replace Z6 : Aside0 (wcu13.cell? (ac.add (q * 4)) = some (.int .i64 (r0 + 1))) := ⟨(hb.cell (World.block_lt_of_cell? wcu8 _ Z6.out)).trans Z6.out⟩
        replace Z7 : Aside0 (wcu13.cell? (ax.add (q * 4)) = some (.int .i64 r0)) := ⟨(hb.cell (World.block_lt_of_cell? wcu8 _ Z7.out)).trans Z7.out⟩
        replace HB := Aside0.mk (HB.out.trans (hb.mono HB.out.size))
        replace KXh := Aside0.mk (blk_below KXh.out hb)
        replace KXn := Aside0.mk (blk_below KXn.out hb)
        replace HVl := Aside0.mk (Kd.V_below HVl.out hb)
        replace HVn := Aside0.mk (Kd.V_below HVn.out hb)
        replace HVc := Aside0.mk (Kd.V_below HVc.out hb)
        replace KXc := Aside0.mk (blk_below KXc.out hb)
        replace HVd := Aside0.mk (Kd.V_below HVd.out hb)
        replace KXd := Aside0.mk (blk_below KXd.out hb)
        clear hb hHeld
        refine hK.out _ _ ⟨Z0.out, Z1.out, Z2.out, Z3.out, Z4.out, Z5.out, Z6.out, Z7.out⟩ (fun hHeld => ?_)
        clear hK K
        refine norm_ (a' := ?_) ?_ ?_
        rotate_left
        · show Act.put _ (some 60) _ = _
          simp only [Act.put, List.setIfInBounds_toArray, List.set_cons_zero, List.set_cons_succ, i64_w, i32_w]
          rfl
        refine pure_ (i := 14) (N := some 61) (v := ?_) (a' := ?_) #[true, true, true, true, true, true, true, true, true, true, true, true, true, true, true, false, false, false, false, false, false, false, false, false, false, false, false, false, false, false, false, false, false] rfl rfl (any_of HT_.out (by kernel_rfl)) (fun _ _ _ h => h) (Or.inl ⟨by rfl, ?_⟩) ?_ ?_
        rotate_left
        · intro w'
          go_simp
          with_reducible rfl
        rotate_left
        · simp only [Act.put, List.setIfInBounds_toArray, List.set_cons_zero, List.set_cons_succ, i64_w, i32_w]
          rfl
        refine pure_ (i := 15) (N := some 62) (v := ?_) (a' := ?_) #[true, true, true, true, true, true, true, true, true, true, true, true, true, true, true, true, false, false, false, false, false, false, false, false, false, false, false, false, false, false, false, false, false] rfl rfl (any_of HT_.out (by kernel_rfl)) (fun _ _ _ h => h) (Or.inl ⟨by rfl, ?_⟩) ?_ ?_
        rotate_left
        · intro w'
          go_simp
          with_reducible rfl
        rotate_left
        · simp only [Act.put, List.setIfInBounds_toArray, List.set_cons_zero, List.set_cons_succ, i64_w, i32_w]
          rfl
        refine pure_ (i := 16) (N := some 63) (v := ?_) (a' := ?_) #[true, true, true, true, true, true, true, true, true, true, true, true, true, true, true, true, true, false, false, false, false, false, false, false, false, false, false, false, false, false, false, false, false] rfl rfl (any_of HT_.out (by kernel_rfl)) (fun _ _ _ h => h) (Or.inl ⟨by rfl, ?_⟩) ?_ ?_
        rotate_left
        · intro w'
          go_simp
          with_reducible rfl
        rotate_left
        · simp only [Act.put, List.setIfInBounds_toArray, List.set_cons_zero, List.set_cons_succ, i64_w, i32_w]
          rfl
        refine pure_ (i := 17) (N := some 64) (v := ?_) (a' := ?_) #[true, true, true, true, true, true, true, true, true, true, true, true, true, true, true, true, true, true, false, false, false, false, false, false, false, false, false, false, false, false, false, false, false] rfl rfl (any_of HT_.out (by kernel_rfl)) (fun _ _ _ h => h) (Or.inl ⟨by rfl, ?_⟩) ?_ ?_
        rotate_left
        · intro w'
          go_simp
          with_reducible rfl
        rotate_left
        · simp only [Act.put, List.setIfInBounds_toArray, List.set_cons_zero, List.set_cons_succ, i64_w, i32_w]
          rfl
        refine take_ (i := 18) (N := some 65) (v := ?_) (a' := ?_) #[true, true, true, true, true, true, true, true, true, true, true, true, true, true, true, true, true, true, true, false, false, false, false, false, false, false, false, false, false, false, false, false, false] rfl rfl (take_ofW HT_.out HW_.out (by kernel_rfl)) (fun _ _ _ h => h) (Or.inl ⟨by rfl, ?_⟩) hHeld ?_ ?_
        rotate_left
        · rintro w' ⟨s0, s1, s2, s3, s4, s5, s6, s7⟩
          go_simp
          with_reducible rfl
        rotate_left
        · simp only [Act.put, List.setIfInBounds_toArray, List.set_cons_zero, List.set_cons_succ, i64_w, i32_w]
          rfl
        refine pure_ (i := 19) (N := some 66) (v := ?_) (a' := ?_) #[true, true, true, true, true, true, true, true, true, true, true, true, true, true, true, true, true, true, true, true, false, false, false, false, false, false, false, false, false, false, false, false, false] rfl rfl (any_of HT_.out (by kernel_rfl)) (fun _ _ _ h => h) (Or.inl ⟨by rfl, ?_⟩) ?_ ?_
        rotate_left
        · intro w'
          go_simp
          with_reducible rfl
        rotate_left
        · simp only [Act.put, List.setIfInBounds_toArray, List.set_cons_zero, List.set_cons_succ, i64_w, i32_w]
          rfl
        refine pure_ (i := 20) (N := some 67) (v := ?_) (a' := ?_) #[true, true, true, true, true, true, true, true, true, true, true, true, true, true, true, true, true, true, true, true, true, false, false, false, false, false, false, false, false, false, false, false, false] rfl rfl (any_of HT_.out (by kernel_rfl)) (fun _ _ _ h => h) (Or.inl ⟨by rfl, ?_⟩) ?_ ?_
        rotate_left
        · intro w'
          go_simp
          with_reducible rfl
        rotate_left
        · simp only [Act.put, List.setIfInBounds_toArray, List.set_cons_zero, List.set_cons_succ, i64_w, i32_w]
          rfl
        refine pure_ (i := 21) (N := some 68) (v := ?_) (a' := ?_) #[true, true, true, true, true, true, true, true, true, true, true, true, true, true, true, true, true, true, true, true, true, true, false, false, false, false, false, false, false, false, false, false, false] rfl rfl (any_of HT_.out (by kernel_rfl)) (fun _ _ _ h => h) (Or.inl ⟨by rfl, ?_⟩) ?_ ?_
        rotate_left
        · intro w'
          go_simp
          with_reducible rfl
        rotate_left
        · simp only [Act.put, List.setIfInBounds_toArray, List.set_cons_zero, List.set_cons_succ, i64_w, i32_w]
          rfl
        refine take_ (i := 22) (N := some 69) (v := ?_) (a' := ?_) #[true, true, true, true, true, true, true, true, true, true, true, true, true, true, true, true, true, true, true, true, true, true, true, false, false, false, false, false, false, false, false, false, false] rfl rfl (take_ofW HT_.out HW_.out (by kernel_rfl)) (fun _ _ _ h => h) (Or.inl ⟨by rfl, ?_⟩) hHeld ?_ ?_
        rotate_left
        · rintro w' ⟨s0, s1, s2, s3, s4, s5, s6, s7⟩
          go_simp
          with_reducible rfl
        rotate_left
        · simp only [Act.put, List.setIfInBounds_toArray, List.set_cons_zero, List.set_cons_succ, i64_w, i32_w]
          rfl
        refine pure_ (i := 23) (N := some 70) (v := ?_) (a' := ?_) #[true, true, true, true, true, true, true, true, true, true, true, true, true, true, true, true, true, true, true, true, true, true, true, true, false, false, false, false, false, false, false, false, false] rfl rfl (any_of HT_.out (by kernel_rfl)) (fun _ _ _ h => h) (Or.inl ⟨by rfl, ?_⟩) ?_ ?_
        rotate_left
        · intro w'
          go_simp
          with_reducible rfl
        rotate_left
        · simp only [Act.put, List.setIfInBounds_toArray, List.set_cons_zero, List.set_cons_succ, i64_w, i32_w]
          rfl
        refine take_ (i := 24) (N := some 71) (v := ?_) (a' := ?_) #[true, true, true, true, true, true, true, true, true, true, true, true, true, true, true, true, true, true, true, true, true, true, true, true, true, false, false, false, false, false, false, false, false] rfl rfl (take_ofW HT_.out HW_.out (by kernel_rfl)) (fun _ _ _ h => h) (Or.inl ⟨by rfl, ?_⟩) hHeld ?_ ?_
        rotate_left
        · rintro w' ⟨s0, s1, s2, s3, s4, s5, s6, s7⟩
          go_simp
          with_reducible rfl
        rotate_left
        · simp only [Act.put, List.setIfInBounds_toArray, List.set_cons_zero, List.set_cons_succ, i64_w, i32_w]
          rfl
        refine pure_ (i := 25) (N := some 72) (v := ?_) (a' := ?_) #[true, true, true, true, true, true, true, true, true, true, true, true, true, true, true, true, true, true, true, true, true, true, true, true, true, true, false, false, false, false, false, false, false] rfl rfl (any_of HT_.out (by kernel_rfl)) (fun _ _ _ h => h) (Or.inl ⟨by rfl, ?_⟩) ?_ ?_
        rotate_left
        · intro w'
          go_simp
          with_reducible rfl
        rotate_left
        · simp only [Act.put, List.setIfInBounds_toArray, List.set_cons_zero, List.set_cons_succ, i64_w, i32_w]
          rfl
        refine pure_ (i := 26) (N := some 73) (v := ?_) (a' := ?_) #[true, true, true, true, true, true, true, true, true, true, true, true, true, true, true, true, true, true, true, true, true, true, true, true, true, true, true, false, false, false, false, false, false] rfl rfl (any_of HT_.out (by kernel_rfl)) (fun _ _ _ h => h) (Or.inl ⟨by rfl, ?_⟩) ?_ ?_
        rotate_left
        · intro w'
          go_simp
          with_reducible rfl
        rotate_left
        · simp only [Act.put, List.setIfInBounds_toArray, List.set_cons_zero, List.set_cons_succ, i64_w, i32_w]
          rfl
        refine pure_ (i := 27) (N := some 74) (v := ?_) (a' := ?_) #[true, true, true, true, true, true, true, true, true, true, true, true, true, true, true, true, true, true, true, true, true, true, true, true, true, true, true, true, false, false, false, false, false] rfl rfl (any_of HT_.out (by kernel_rfl)) (fun _ _ _ h => h) (Or.inl ⟨by rfl, ?_⟩) ?_ ?_
        rotate_left
        · intro w'
          go_simp
          with_reducible rfl
        rotate_left
        · simp only [Act.put, List.setIfInBounds_toArray, List.set_cons_zero, List.set_cons_succ, i64_w, i32_w]
          rfl
        refine take_ (i := 28) (N := some 75) (v := ?_) (a' := ?_) #[true, true, true, true, true, true, true, true, true, true, true, true, true, true, true, true, true, true, true, true, true, true, true, true, true, true, true, true, true, false, false, false, false] rfl rfl (take_ofW HT_.out HW_.out (by kernel_rfl)) (fun _ _ _ h => h) (Or.inl ⟨by rfl, ?_⟩) hHeld ?_ ?_
        rotate_left
        · rintro w' ⟨s0, s1, s2, s3, s4, s5, s6, s7⟩
          go_simp
          with_reducible rfl
        rotate_left
        · simp only [Act.put, List.setIfInBounds_toArray, List.set_cons_zero, List.set_cons_succ, i64_w, i32_w]
          rfl
        refine pure_ (i := 29) (N := some 76) (v := ?_) (a' := ?_) #[true, true, true, true, true, true, true, true, true, true, true, true, true, true, true, true, true, true, true, true, true, true, true, true, true, true, true, true, true, true, false, false, false] rfl rfl (any_of HT_.out (by kernel_rfl)) (fun _ _ _ h => h) (Or.inl ⟨by rfl, ?_⟩) ?_ ?_
        rotate_left
        · intro w'
          go_simp
          with_reducible rfl
        rotate_left
        · simp only [Act.put, List.setIfInBounds_toArray, List.set_cons_zero, List.set_cons_succ, i64_w, i32_w]
          rfl
        refine pure_ (i := 30) (N := some 77) (v := ?_) (a' := ?_) #[true, true, true, true, true, true, true, true, true, true, true, true, true, true, true, true, true, true, true, true, true, true, true, true, true, true, true, true, true, true, true, false, false] rfl rfl (any_of HT_.out (by kernel_rfl)) (fun _ _ _ h => h) (Or.inl ⟨by rfl, ?_⟩) ?_ ?_
        rotate_left
        · intro w'
          go_simp
          with_reducible rfl
        rotate_left
        · simp only [Act.put, List.setIfInBounds_toArray, List.set_cons_zero, List.set_cons_succ, i64_w, i32_w]
          rfl
        rw [HNE.out]
        refine pure_ (i := 31) (N := some 78) (v := ?_) (a' := ?_) #[true, true, true, true, true, true, true, true, true, true, true, true, true, true, true, true, true, true, true, true, true, true, true, true, true, true, true, true, true, true, true, true, false] rfl rfl (any_of HT_.out (by kernel_rfl)) (fun _ _ _ h => h) (Or.inl ⟨by rfl, ?_⟩) ?_ ?_
        rotate_left
        · intro w'
          go_simp
          with_reducible rfl
        rotate_left
        · simp only [Act.put, List.setIfInBounds_toArray, List.set_cons_zero, List.set_cons_succ, i64_w, i32_w]
          rfl
        refine pure_ (i := 32) (N := some 79) (v := ?_) (a' := ?_) #[true, true, true, true, true, true, true, true, true, true, true, true, true, true, true, true, true, true, true, true, true, true, true, true, true, true, true, true, true, true, true, true, true] rfl rfl (any_of HT_.out (by kernel_rfl)) (fun _ _ _ h => h) (Or.inl ⟨by rfl, ?_⟩) ?_ ?_
        rotate_left
        · intro w'
          go_simp
          with_reducible rfl
        rotate_left
        · simp only [Act.put, List.setIfInBounds_toArray, List.set_cons_zero, List.set_cons_succ, i64_w, i32_w]
          rfl
        refine done_ (done_of HT_.out (by kernel_rfl)) ?_
        clear hHeld HT_ HW_
        clear Z0 Z1 Z2 Z3 Z4 Z5 Z6 Z7 HNE HSM HRF p1 p2
        clear KXc KXd HVc HVd
        have xh_0 : wcu13.cell? ⟨w.heap.size, 0, none⟩ = some (.slice (some ax) l.length c) := (blk_cell KXh.out 0).trans rfl
        have xh_1 : wcu13.cell? ⟨w.heap.size, 1, none⟩ = some (.int .i64 kp) := (blk_cell KXh.out 1).trans rfl
        have lh : w.heap.size < wcu13.heap.size := blk_lt KXh.out
        have xn_0 : wcu13.cell? ⟨w.heap.size + 1, 0, none⟩ = some (.bool leaf) := (blk_cell KXn.out 0).trans rfl
        have xn_1 : wcu13.cell? ⟨w.heap.size + 1, 1, none⟩ = some (.slice A1 it.length c1) := (blk_cell KXn.out 1).trans rfl
        have ln : w.heap.size + 1 < wcu13.heap.size := blk_lt KXn.out
        go_wp2_with fail
        clear xh_0 xh_1 lh xn_0 xn_1 ln
        rcases back_alloc l kp leaf it hl60 hit h1.2.1 h1.2.2 with ⟨code, hcode, hal⟩ | ⟨l', l2, ad, hal, hlen, had, hrd', hR', hfr, hi2, hfa, hfb, hus, hlo, hl2, hpin, hset⟩
        · refine (heap_Alloc.calls (fun _ => True) (some ax) c l kp leaf (fun _ => True) A1 c1 it none 0 [] l kp 0 code wcu13 (V_base (Kd.V_mono HVl.out (fun _ _ => trivial))) (V_base (Kd.V_mono HVn.out (fun _ _ => trivial))) (Kd.C_nil _ _) (Nat.le_refl _) hal).mono ?_
          rintro e w16 ⟨v_, rfl, hv, hb⟩
          obtain ⟨Aa, ca, ev⟩ := Kd.V_slice hv
          subst ev
          replace HB := Aside0.mk (HB.out.trans (hb.mono HB.out.size))
          replace KXh := Aside0.mk (blk_below KXh.out hb)
          replace KXn := Aside0.mk (blk_below KXn.out hb)
          replace HVl := Aside0.mk (Kd.V_below HVl.out hb)
          replace HVn := Aside0.mk (Kd.V_below HVn.out hb)
          have HVa : Aside0 (Kd.V k55 55 w16 0 (fun _ => True) (.slice Aa l.length ca) l) := ⟨V_base (Kd.V_mono hv (fun _ _ => trivial))⟩
          clear hv hb hal
          have HSM : Aside0 (assartref05_Same.f 10000 l kp l kp = some true) := ⟨by rw [refSame_val l l kp kp (by omega) (fun x hx => by have := hi1 x hx; omega) (by omega)]; simp⟩
          rcases hcode with rfl | ⟨rfl, hfree⟩
          · have xh_0 : w16.cell? ⟨w.heap.size, 0, none⟩ = some (.slice (some ax) l.length c) := (blk_cell KXh.out 0).trans rfl
            have xh_1 : w16.cell? ⟨w.heap.size, 1, none⟩ = some (.int .i64 kp) := (blk_cell KXh.out 1).trans rfl
            have lh : w.heap.size < w16.heap.size := blk_lt KXh.out
            have xn_0 : w16.cell? ⟨w.heap.size + 1, 0, none⟩ = some (.bool leaf) := (blk_cell KXn.out 0).trans rfl
            have xn_1 : w16.cell? ⟨w.heap.size + 1, 1, none⟩ = some (.slice A1 it.length c1) := (blk_cell KXn.out 1).trans rfl
            have ln : w.heap.size + 1 < w16.heap.size := blk_lt KXn.out
            go_wp2_with fail
            clear xh_0 xh_1 lh xn_0 xn_1 ln
            have hpre : Below w16.heap.size w16 (w16.alloc (.cells #[.slice Aa l.length ca, .int .i64 kp] 24)) := (Below.refl w16.heap.size w16).alloc (Nat.le_refl _) _
            replace HB := Aside0.mk (HB.out.trans (hpre.mono HB.out.size))
            replace KXh := Aside0.mk (blk_below KXh.out hpre)
            replace KXn := Aside0.mk (blk_below KXn.out hpre)
            replace HVl := Aside0.mk (Kd.V_below HVl.out hpre)
            replace HVn := Aside0.mk (Kd.V_below HVn.out hpre)
            replace HVa := Aside0.mk (Kd.V_below HVa.out hpre)
            have KXa : Aside0 ((w16.alloc (.cells #[.slice Aa l.length ca, .int .i64 kp] 24)).heap[w16.heap.size]? = some (.cells #[.slice Aa l.length ca, .int .i64 kp] 24 (0, 0))) := ⟨alloc_new w16 _⟩
            clear hpre
            obtain ⟨w17, hw_⟩ : ∃ w_, (w16.alloc (.cells #[.slice Aa l.length ca, .int .i64 kp] 24)) = w_ := ⟨_, rfl⟩
            rw [hw_]
            rw [hw_] at HB KXh KXn HVl HVn HVa KXa
            clear hw_
            refine (assartref05_Same.calls 10000 Aa ca l kp (some ax) c l kp true w17 (Kd.V_reads' HVa.out).2.2 (Kd.V_reads' HVa.out).2.1 (Kd.V_reads' HVl.out).2.2 (Kd.V_reads' HVl.out).2.1 HSM.out).mono ?_
            rintro e w18 ⟨rfl, hb⟩
            replace HB := Aside0.mk (HB.out.trans (hb.mono HB.out.size))
            replace KXh := Aside0.mk (blk_below KXh.out hb)
            replace KXn := Aside0.mk (blk_below KXn.out hb)
            replace HVl := Aside0.mk (Kd.V_below HVl.out hb)
            replace HVn := Aside0.mk (Kd.V_below HVn.out hb)
            replace HVa := Aside0.mk (Kd.V_below HVa.out hb)
            replace KXa := Aside0.mk (blk_below KXa.out hb)
            go_wp2
            go_ret
            exact ⟨rfl, HB.out⟩
          · have xh_0 : w16.cell? ⟨w.heap.size, 0, none⟩ = some (.slice (some ax) l.length c) := (blk_cell KXh.out 0).trans rfl
            have xh_1 : w16.cell? ⟨w.heap.size, 1, none⟩ = some (.int .i64 kp) := (blk_cell KXh.out 1).trans rfl
            have lh : w.heap.size < w16.heap.size := blk_lt KXh.out
            have xn_0 : w16.cell? ⟨w.heap.size + 1, 0, none⟩ = some (.bool leaf) := (blk_cell KXn.out 0).trans rfl
            have xn_1 : w16.cell? ⟨w.heap.size + 1, 1, none⟩ = some (.slice A1 it.length c1) := (blk_cell KXn.out 1).trans rfl
            have ln : w.heap.size + 1 < w16.heap.size := blk_lt KXn.out
            go_wp2_with fail
            clear xh_0 xh_1 lh xn_0 xn_1 ln
            have hpre : Below w16.heap.size w16 (w16.alloc (.cells #[.slice Aa l.length ca, .int .i64 kp] 24)) := (Below.refl w16.heap.size w16).alloc (Nat.le_refl _) _
            replace HB := Aside0.mk (HB.out.trans (hpre.mono HB.out.size))
            replace KXh := Aside0.mk (blk_below KXh.out hpre)
            replace KXn := Aside0.mk (blk_below KXn.out hpre)
            replace HVl := Aside0.mk (Kd.V_below HVl.out hpre)
            replace HVn := Aside0.mk (Kd.V_below HVn.out hpre)
            replace HVa := Aside0.mk (Kd.V_below HVa.out hpre)
            have KXa : Aside0 ((w16.alloc (.cells #[.slice Aa l.length ca, .int .i64 kp] 24)).heap[w16.heap.size]? = some (.cells #[.slice Aa l.length ca, .int .i64 kp] 24 (0, 0))) := ⟨alloc_new w16 _⟩
            clear hpre
            obtain ⟨w17, hw_⟩ : ∃ w_, (w16.alloc (.cells #[.slice Aa l.length ca, .int .i64 kp] 24)) = w_ := ⟨_, rfl⟩
            rw [hw_]
            rw [hw_] at HB KXh KXn HVl HVn HVa KXa
            clear hw_
            refine (assartref05_Same.calls 10000 Aa ca l kp (some ax) c l kp true w17 (Kd.V_reads' HVa.out).2.2 (Kd.V_reads' HVa.out).2.1 (Kd.V_reads' HVl.out).2.2 (Kd.V_reads' HVl.out).2.1 HSM.out).mono ?_
            rintro e w18 ⟨rfl, hb⟩
            replace HB := Aside0.mk (HB.out.trans (hb.mono HB.out.size))
            replace KXh := Aside0.mk (blk_below KXh.out hb)
            replace KXn := Aside0.mk (blk_below KXn.out hb)
            replace HVl := Aside0.mk (Kd.V_below HVl.out hb)
            replace HVn := Aside0.mk (Kd.V_below HVn.out hb)
            replace HVa := Aside0.mk (Kd.V_below HVa.out hb)
            replace KXa := Aside0.mk (blk_below KXa.out hb)
            have xh_0 : w18.cell? ⟨w.heap.size, 0, none⟩ = some (.slice (some ax) l.length c) := (blk_cell KXh.out 0).trans rfl
            have xh_1 : w18.cell? ⟨w.heap.size, 1, none⟩ = some (.int .i64 kp) := (blk_cell KXh.out 1).trans rfl
            have lh : w.heap.size < w18.heap.size := blk_lt KXh.out
            go_wp2_with fail
            clear xh_0 xh_1 lh
            refine (assartref05_Free.calls 10000 (some ax) c l kp 0 w18 (Kd.V_reads' HVl.out).2.2 (Kd.V_reads' HVl.out).2.1 (by rw [refFree_val l kp (by omega) (by omega), hfree]; rfl)).mono ?_
            rintro e w19 ⟨rfl, hb⟩
            replace HB := Aside0.mk (HB.out.trans (hb.mono HB.out.size))
            replace KXh := Aside0.mk (blk_below KXh.out hb)
            replace KXn := Aside0.mk (blk_below KXn.out hb)
            replace HVl := Aside0.mk (Kd.V_below HVl.out hb)
            replace HVn := Aside0.mk (Kd.V_below HVn.out hb)
            replace HVa := Aside0.mk (Kd.V_below HVa.out hb)
            replace KXa := Aside0.mk (blk_below KXa.out hb)
            go_wp2
            go_ret
            exact ⟨rfl, HB.out⟩
        · have HLEN := Aside0.mk hlen
          clear hlen
          refine (heap_Alloc.calls (fun _ => True) (some ax) c l kp leaf (fun _ => True) A1 c1 it none 0 [] l' kp (ad : Int) 0 wcu13 (V_base (Kd.V_mono HVl.out (fun _ _ => trivial))) (V_base (Kd.V_mono HVn.out (fun _ _ => trivial))) (Kd.C_nil _ _) (Nat.le_refl _) hal).mono ?_
          rintro e w20 ⟨v_, rfl, hv, hb⟩
          obtain ⟨Aa, ca, ev⟩ := Kd.V_slice hv
          subst ev
          replace HB := Aside0.mk (HB.out.trans (hb.mono HB.out.size))
          replace KXh := Aside0.mk (blk_below KXh.out hb)
          replace KXn := Aside0.mk (blk_below KXn.out hb)
          replace HVl := Aside0.mk (Kd.V_below HVl.out hb)
          replace HVn := Aside0.mk (Kd.V_below HVn.out hb)
          have HVa : Aside0 (Kd.V k55 55 w20 0 (fun _ => True) (.slice Aa l'.length ca) l') := ⟨V_base (Kd.V_mono hv (fun _ _ => trivial))⟩
          clear hv hb hal
          have xh_0 : w20.cell? ⟨w.heap.size, 0, none⟩ = some (.slice (some ax) l.length c) := (blk_cell KXh.out 0).trans rfl
          have xh_1 : w20.cell? ⟨w.heap.size, 1, none⟩ = some (.int .i64 kp) := (blk_cell KXh.out 1).trans rfl
          have lh : w.heap.size < w20.heap.size := blk_lt KXh.out
          have xn_0 : w20.cell? ⟨w.heap.size + 1, 0, none⟩ = some (.bool leaf) := (blk_cell KXn.out 0).trans rfl
          have xn_1 : w20.cell? ⟨w.heap.size + 1, 1, none⟩ = some (.slice A1 it.length c1) := (blk_cell KXn.out 1).trans rfl
          have ln : w.heap.size + 1 < w20.heap.size := blk_lt KXn.out
          go_wp2_with fail
          clear xh_0 xh_1 lh xn_0 xn_1 ln
          have hpre : Below w20.heap.size w20 (w20.alloc (.cells #[.slice Aa l'.length ca, .int .i64 kp] 24)) := (Below.refl w20.heap.size w20).alloc (Nat.le_refl _) _
          replace HB := Aside0.mk (HB.out.trans (hpre.mono HB.out.size))
          replace KXh := Aside0.mk (blk_below KXh.out hpre)
          replace KXn := Aside0.mk (blk_below KXn.out hpre)
          replace HVl := Aside0.mk (Kd.V_below HVl.out hpre)
          replace HVn := Aside0.mk (Kd.V_below HVn.out hpre)
          replace HVa := Aside0.mk (Kd.V_below HVa.out hpre)
          have KXa : Aside0 ((w20.alloc (.cells #[.slice Aa l'.length ca, .int .i64 kp] 24)).heap[w20.heap.size]? = some (.cells #[.slice Aa l'.length ca, .int .i64 kp] 24 (0, 0))) := ⟨alloc_new w20 _⟩
          clear hpre
          obtain ⟨w21, hw_⟩ : ∃ w_, (w20.alloc (.cells #[.slice Aa l'.length ca, .int .i64 kp] 24)) = w_ := ⟨_, rfl⟩
          rw [hw_]
          rw [hw_] at HB KXh KXn HVl HVn HVa KXa
          clear hw_
          obtain ⟨aa, Ai, ci, e3, y0, y1, y2, y3, hli, hci⟩ := at_T55 (Kd.V_reads' HVa.out).2.2 (ad : Int) (by omega) (by have := HLEN.out; omega)
          cases e3
          rw [Int.toNat_natCast, hrd'] at y0 y2 y3
          rw [hrd'] at hli hci
          clear y1
          have HCI := Aside0.mk hci
          have HLI := Aside0.mk hli
          clear hci hli
          have Z0 : Aside0 (w21.cell? ⟨w.heap.size, 0, none⟩ = some (.slice (some ax) l.length c)) := ⟨(blk_cell KXh.out 0).trans rfl⟩
          have Z1 : Aside0 (w21.cell? ⟨w.heap.size, 1, none⟩ = some (.int .i64 kp)) := ⟨(blk_cell KXh.out 1).trans rfl⟩
          have Z2 : Aside0 (w21.cell? ⟨w20.heap.size, 0, none⟩ = some (.slice (some aa) l'.length ca)) := ⟨(blk_cell KXa.out 0).trans rfl⟩
          have Z3 : Aside0 (w21.cell? ⟨w20.heap.size, 1, none⟩ = some (.int .i64 kp)) := ⟨(blk_cell KXa.out 1).trans rfl⟩
          have Z4 : Aside0 (w21.cell? ⟨w.heap.size + 1, 0, none⟩ = some (.bool leaf)) := ⟨(blk_cell KXn.out 0).trans rfl⟩
          have Z5 : Aside0 (w21.cell? ⟨w.heap.size + 1, 1, none⟩ = some (.slice A1 it.length c1)) := ⟨(blk_cell KXn.out 1).trans rfl⟩
          have Z6 : Aside0 (w21.cell? (aa.add (ad * 4)) = some (.int .i64 1)) := ⟨y0⟩
          have Z7 : Aside0 (w21.cell? ⟨(aa.add (ad * 4)).block, (aa.add (ad * 4)).off + 2, none⟩ = some (.bool leaf)) := ⟨y2⟩
          have Z8 : Aside0 (w21.cell? ⟨(aa.add (ad * 4)).block, (aa.add (ad * 4)).off + 3, none⟩ = some (.slice Ai it.length ci)) := ⟨y3⟩
          clear y0 y2 y3
          have p1 : (ad : Int) < (l'.length : Int) := by have := HLEN.out; omega
          replace p1 := eq_true p1
          have p2 : decide ((l.length : Int) ≤ (ad : Int)) = false := decide_eq_false (by omega)
          have p3 : (l.length ≤ ad) = False := eq_false (by omega)
          have HLN : Aside0 (((l'.length : Int) != (l.length : Int)) = false) := ⟨by rw [HLEN.out]; exact bne_self_eq_false _⟩
          have HNE2 := Aside0.mk (back_ne2 (freeN l') (freeN l) hfr (by have := freeN_le l; omega))
          have HRF : Aside0 (assartref05_Right.f 10000 l' kp = some true) := ⟨by rw [right05_val l' kp 10000 (.inl (by omega)), decide_eq_true hR']⟩
          have HSN : Aside0 (assartref04_Same.f 10000 leaf it leaf it = some true) := ⟨by rw [refSame04_val' 10000 leaf leaf it it (by omega) (by omega)]; simp⟩
          have HFA : Aside0 (assartref05_Free.f 10000 l' kp = some (freeN l' : Int)) := ⟨refFree_val l' kp (by have := HLEN.out; omega) (by have := HLEN.out; omega)⟩
          have HFL : Aside0 (assartref05_Free.f 10000 l kp = some (freeN l : Int)) := ⟨refFree_val l kp (by omega) (by omega)⟩
          clear hfr hR' hrd'
          replace Z0 : Aside0 (w21.drew.cell? ⟨w.heap.size, 0, none⟩ = some (.slice (some ax) l.length c)) := ⟨Z0.out⟩
          replace Z1 : Aside0 (w21.drew.cell? ⟨w.heap.size, 1, none⟩ = some (.int .i64 kp)) := ⟨Z1.out⟩
          replace Z2 : Aside0 (w21.drew.cell? ⟨w20.heap.size, 0, none⟩ = some (.slice (some aa) l'.length ca)) := ⟨Z2.out⟩
          replace Z3 : Aside0 (w21.drew.cell? ⟨w20.heap.size, 1, none⟩ = some (.int .i64 kp)) := ⟨Z3.out⟩
          replace Z4 : Aside0 (w21.drew.cell? ⟨w.heap.size + 1, 0, none⟩ = some (.bool leaf)) := ⟨Z4.out⟩
          replace Z5 : Aside0 (w21.drew.cell? ⟨w.heap.size + 1, 1, none⟩ = some (.slice A1 it.length c1)) := ⟨Z5.out⟩
          replace Z6 : Aside0 (w21.drew.cell? (aa.add (ad * 4)) = some (.int .i64 1)) := ⟨Z6.out⟩
          replace Z7 : Aside0 (w21.drew.cell? ⟨(aa.add (ad * 4)).block, (aa.add (ad * 4)).off + 2, none⟩ = some (.bool leaf)) := ⟨Z7.out⟩
          replace Z8 : Aside0 (w21.drew.cell? ⟨(aa.add (ad * 4)).block, (aa.add (ad * 4)).off + 3, none⟩ = some (.slice Ai it.length ci)) := ⟨Z8.out⟩
          replace HB := Aside0.mk (below_drew HB.out)
          replace KXh := Aside0.mk (blk_drew KXh.out)
          replace KXn := Aside0.mk (blk_drew KXn.out)
          replace HVl := Aside0.mk (Kd.V_drew HVl.out)
          replace HVn := Aside0.mk (Kd.V_drew HVn.out)
          replace HVa := Aside0.mk (Kd.V_drew HVa.out)
          replace KXa := Aside0.mk (blk_drew KXa.out)
          replace HCI := Aside0.mk (Kd.C_drew HCI.out)
          refine start_ (n := 51) (S := fun w' => w'.cell? ⟨w.heap.size, 0, none⟩ = some (.slice (some ax) l.length c) ∧ w'.cell? ⟨w.heap.size, 1, none⟩ = some (.int .i64 kp) ∧ w'.cell? ⟨w20.heap.size, 0, none⟩ = some (.slice (some aa) l'.length ca) ∧ w'.cell? ⟨w20.heap.size, 1, none⟩ = some (.int .i64 kp) ∧ w'.cell? ⟨w.heap.size + 1, 0, none⟩ = some (.bool leaf) ∧ w'.cell? ⟨w.heap.size + 1, 1, none⟩ = some (.slice A1 it.length c1) ∧ w'.cell? (aa.add (ad * 4)) = some (.int .i64 1) ∧ w'.cell? ⟨(aa.add (ad * 4)).block, (aa.add (ad * 4)).off + 2, none⟩ = some (.bool leaf) ∧ w'.cell? ⟨(aa.add (ad * 4)).block, (aa.add (ad * 4)).off + 3, none⟩ = some (.slice Ai it.length ci)) (ds := []) #[false, false, false, false, false, false, false, false, false, false, false, false, false, false, false, false, false, false, false, false, false, false, false, false, false, false, false, false, false, false, false, false, false, false, false, false, false, false, false, false, false, false, false, false, false, false, false, false, false, false, false] (by kernel_rfl) rfl rfl ⟨Z0.out, Z1.out, Z2.out, Z3.out, Z4.out, Z5.out, Z6.out, Z7.out, Z8.out⟩ (fun hHeld => ?_)
          refine with_tabW hBack.tab13 hBack.bits13 (fun HT_ HW_ => ?_)
          generalize w21.drew = wda13 at Z0 Z1 Z2 Z3 Z4 Z5 Z6 Z7 Z8 HB KXh KXn HVl HVn HVa KXa HCI hHeld ⊢
          refine pure_ (i := 0) (N := some 108) (v := ?_) (a' := ?_) #[true, false, false, false, false, false, false, false, false, false, false, false, false, false, false, false, false, false, false, false, false, false, false, false, false, false, false, false, false, false, false, false, false, false, false, false, false, false, false, false, false, false, false, false, false, false, false, false, false, false, false] rfl rfl (any_of HT_.out (by kernel_rfl)) (fun _ _ _ h => h) (Or.inl ⟨by rfl, ?_⟩) ?_ ?_
          rotate_left
          · intro w'
            go_simp
            with_reducible rfl
          rotate_left
          · simp only [Act.put, List.setIfInBounds_toArray, List.set_cons_zero, List.set_cons_succ, i64_w, i32_w]
            rfl
          refine pure_ (i := 1) (N := some 109) (v := ?_) (a' := ?_) #[true, true, false, false, false, false, false, false, false, false, false, false, false, false, false, false, false, false, false, false, false, false, false, false, false, false, false, false, false, false, false, false, false, false, false, false, false, false, false, false, false, false, false, false, false, false, false, false, false, false, false] rfl rfl (any_of HT_.out (by kernel_rfl)) (fun _ _ _ h => h) (Or.inl ⟨by rfl, ?_⟩) ?_ ?_
          rotate_left
          · intro w'
            go_simp
            with_reducible rfl
          rotate_left
          · simp only [Act.put, List.setIfInBounds_toArray, List.set_cons_zero, List.set_cons_succ, i64_w, i32_w]
            rfl
          refine pure_ (i := 2) (N := some 110) (v := ?_) (a' := ?_) #[true, true, true, false, false, false, false, false, false, false, false, false, false, false, false, false, false, false, false, false, false, false, false, false, false, false, false, false, false, false, false, false, false, false, false, false, false, false, false, false, false, false, false, false, false, false, false, false, false, false, false] rfl rfl (any_of HT_.out (by kernel_rfl)) (fun _ _ _ h => h) (Or.inl ⟨by rfl, ?_⟩) ?_ ?_
          rotate_left
          · intro w'
            go_simp
            with_reducible rfl
          rotate_left
          · simp only [Act.put, List.setIfInBounds_toArray, List.set_cons_zero, List.set_cons_succ, i64_w, i32_w]
            rfl
          refine pure_ (i := 3) (N := some 111) (v := ?_) (a' := ?_) #[true, true, true, true, false, false, false, false, false, false, false, false, false, false, false, false, false, false, false, false, false, false, false, false, false, false, false, false, false, false, false, false, false, false, false, false, false, false, false, false, false, false, false, false, false, false, false, false, false, false, false] rfl rfl (any_of HT_.out (by kernel_rfl)) (fun _ _ _ h => h) (Or.inl ⟨by rfl, ?_⟩) ?_ ?_
          rotate_left
          · intro w'
            go_simp
            with_reducible rfl
          rotate_left
          · simp only [Act.put, List.setIfInBounds_toArray, List.set_cons_zero, List.set_cons_succ, i64_w, i32_w]
            rfl
          refine pure_ (i := 4) (N := some 112) (v := ?_) (a' := ?_) #[true, true, true, true, true, false, false, false, false, false, false, false, false, false, false, false, false, false, false, false, false, false, false, false, false, false, false, false, false, false, false, false, false, false, false, false, false, false, false, false, false, false, false, false, false, false, false, false, false, false, false] rfl rfl (any_of HT_.out (by kernel_rfl)) (fun _ _ _ h => h) (Or.inl ⟨by rfl, ?_⟩) ?_ ?_
          rotate_left
          · intro w'
            go_simp
            with_reducible rfl
          rotate_left
          · simp only [Act.put, List.setIfInBounds_toArray, List.set_cons_zero, List.set_cons_succ, i64_w, i32_w]
            rfl
          refine take_ (i := 5) (N := some 113) (v := ?_) (a' := ?_) #[true, true, true, true, true, true, false, false, false, false, false, false, false, false, false, false, false, false, false, false, false, false, false, false, false, false, false, false, false, false, false, false, false, false, false, false, false, false, false, false, false, false, false, false, false, false, false, false, false, false, false] rfl rfl (take_ofW HT_.out HW_.out (by kernel_rfl)) (fun _ _ _ h => h) (Or.inl ⟨by rfl, ?_⟩) hHeld ?_ ?_
          rotate_left
          · rintro w' ⟨s0, s1, s2, s3, s4, s5, s6, s7, s8⟩
            go_simp
            with_reducible rfl
          rotate_left
          · simp only [Act.put, List.setIfInBounds_toArray, List.set_cons_zero, List.set_cons_succ, i64_w, i32_w]
            rfl
          refine pure_ (i := 6) (N := some 114) (v := ?_) (a' := ?_) #[true, true, true, true, true, true, true, false, false, false, false, false, false, false, false, false, false, false, false, false, false, false, false, false, false, false, false, false, false, false, false, false, false, false, false, false, false, false, false, false, false, false, false, false, false, false, false, false, false, false, false] rfl rfl (any_of HT_.out (by kernel_rfl)) (fun _ _ _ h => h) (Or.inl ⟨by rfl, ?_⟩) ?_ ?_
          rotate_left
          · intro w'
            go_simp
            with_reducible rfl
          rotate_left
          · simp only [Act.put, List.setIfInBounds_toArray, List.set_cons_zero, List.set_cons_succ, i64_w, i32_w]
            rfl
          refine pure_ (i := 7) (N := some 115) (v := ?_) (a' := ?_) #[true, true, true, true, true, true, true, true, false, false, false, false, false, false, false, false, false, false, false, false, false, false, false, false, false, false, false, false, false, false, false, false, false, false, false, false, false, false, false, false, false, false, false, false, false, false, false, false, false, false, false] rfl rfl (any_of HT_.out (by kernel_rfl)) (fun _ _ _ h => h) (Or.inl ⟨by rfl, ?_⟩) ?_ ?_
          rotate_left
          · intro w'
            go_simp
            with_reducible rfl
          rotate_left
          · simp only [Act.put, List.setIfInBounds_toArray, List.set_cons_zero, List.set_cons_succ, i64_w, i32_w]
            rfl
          refine pure_ (i := 8) (N := some 116) (v := ?_) (a' := ?_) #[true, true, true, true, true, true, true, true, true, false, false, false, false, false, false, false, false, false, false, false, false, false, false, false, false, false, false, false, false, false, false, false, false, false, false, false, false, false, false, false, false, false, false, false, false, false, false, false, false, false, false] rfl rfl (any_of HT_.out (by kernel_rfl)) (fun _ _ _ h => h) (Or.inl ⟨by rfl, ?_⟩) ?_ ?_
          rotate_left
          · intro w'
            go_simp
            with_reducible rfl
          rotate_left
          · simp only [Act.put, List.setIfInBounds_toArray, List.set_cons_zero, List.set_cons_succ, i64_w, i32_w]
            rfl
          refine pure_ (i := 9) (N := some 117) (v := ?_) (a' := ?_) #[true, true, true, true, true, true, true, true, true, true, false, false, false, false, false, false, false, false, false, false, false, false, false, false, false, false, false, false, false, false, false, false, false, false, false, false, false, false, false, false, false, false, false, false, false, false, false, false, false, false, false] rfl rfl (any_of HT_.out (by kernel_rfl)) (fun _ _ _ h => h) (Or.inl ⟨by rfl, ?_⟩) ?_ ?_
          rotate_left
          · intro w'
            go_simp
            with_reducible rfl
          rotate_left
          · simp only [Act.put, List.setIfInBounds_toArray, List.set_cons_zero, List.set_cons_succ, i64_w, i32_w]
            rfl
          refine pure_ (i := 10) (N := some 118) (v := ?_) (a' := ?_) #[true, true, true, true, true, true, true, true, true, true, true, false, false, false, false, false, false, false, false, false, false, false, false, false, false, false, false, false, false, false, false, false, false, false, false, false, false, false, false, false, false, false, false, false, false, false, false, false, false, false, false] rfl rfl (any_of HT_.out (by kernel_rfl)) (fun _ _ _ h => h) (Or.inl ⟨by rfl, ?_⟩) ?_ ?_
          rotate_left
          · intro w'
            go_simp
            with_reducible rfl
          rotate_left
          · simp only [Act.put, List.setIfInBounds_toArray, List.set_cons_zero, List.set_cons_succ, i64_w, i32_w]
            rfl
          refine take_ (i := 11) (N := some 119) (v := ?_) (a' := ?_) #[true, true, true, true, true, true, true, true, true, true, true, true, false, false, false, false, false, false, false, false, false, false, false, false, false, false, false, false, false, false, false, false, false, false, false, false, false, false, false, false, false, false, false, false, false, false, false, false, false, false, false] rfl rfl (take_ofW HT_.out HW_.out (by kernel_rfl)) (fun _ _ _ h => h) (Or.inl ⟨by rfl, ?_⟩) hHeld ?_ ?_
          rotate_left
          · rintro w' ⟨s0, s1, s2, s3, s4, s5, s6, s7, s8⟩
            go_simp
            with_reducible rfl
          rotate_left
          · simp only [Act.put, List.setIfInBounds_toArray, List.set_cons_zero, List.set_cons_succ, i64_w, i32_w]
            rfl
          refine pure_ (i := 12) (N := some 120) (v := ?_) (a' := ?_) #[true, true, true, true, true, true, true, true, true, true, true, true, true, false, false, false, false, false, false, false, false, false, false, false, false, false, false, false, false, false, false, false, false, false, false, false, false, false, false, false, false, false, false, false, false, false, false, false, false, false, false] rfl rfl (any_of HT_.out (by kernel_rfl)) (fun _ _ _ h => h) (Or.inl ⟨by rfl, ?_⟩) ?_ ?_
          rotate_left
          · intro w'
            go_simp
            with_reducible rfl
          rotate_left
          · simp only [Act.put, List.setIfInBounds_toArray, List.set_cons_zero, List.set_cons_succ, i64_w, i32_w]
            rfl
          refine pure_ (i := 13) (N := some 121) (v := ?_) (a' := ?_) #[true, true, true, true, true, true, true, true, true, true, true, true, true, true, false, false, false, false, false, false, false, false, false, false, false, false, false, false, false, false, false, false, false, false, false, false, false, false, false, false, false, false, false, false, false, false, false, false, false, false, false] rfl rfl (any_of HT_.out (by kernel_rfl)) (fun _ _ _ h => h) (Or.inl ⟨by rfl, ?_⟩) ?_ ?_
          rotate_left
          · intro w'
            go_simp
            with_reducible rfl
          rotate_left
          · simp only [Act.put, List.setIfInBounds_toArray, List.set_cons_zero, List.set_cons_succ, i64_w, i32_w]
            rfl
          refine take_ (i := 14) (N := some 122) (v := ?_) (a' := ?_) #[true, true, true, true, true, true, true, true, true, true, true, true, true, true, true, false, false, false, false, false, false, false, false, false, false, false, false, false, false, false, false, false, false, false, false, false, false, false, false, false, false, false, false, false, false, false, false, false, false, false, false] rfl rfl (take_ofW HT_.out HW_.out (by kernel_rfl)) (fun _ _ _ h => h) (Or.inl ⟨by rfl, ?_⟩) hHeld ?_ ?_
          rotate_left
          · rintro w' ⟨s0, s1, s2, s3, s4, s5, s6, s7, s8⟩
            go_simp
            with_reducible rfl
          rotate_left
          · simp only [Act.put, List.setIfInBounds_toArray, List.set_cons_zero, List.set_cons_succ, i64_w, i32_w]
            rfl
          refine pure_ (i := 15) (N := some 123) (v := ?_) (a' := ?_) #[true, true, true, true, true, true, true, true, true, true, true, true, true, true, true, true, false, false, false, false, false, false, false, false, false, false, false, false, false, false, false, false, false, false, false, false, false, false, false, false, false, false, false, false, false, false, false, false, false, false, false] rfl rfl (any_of HT_.out (by kernel_rfl)) (fun _ _ _ h => h) (Or.inl ⟨by rfl, ?_⟩) ?_ ?_
          rotate_left
          · intro w'
            go_simp
            with_reducible rfl
          rotate_left
          · simp only [Act.put, List.setIfInBounds_toArray, List.set_cons_zero, List.set_cons_succ, i64_w, i32_w]
            rfl
          refine pure_ (i := 16) (N := some 124) (v := ?_) (a' := ?_) #[true, true, true, true, true, true, true, true, true, true, true, true, true, true, true, true, true, false, false, false, false, false, false, false, false, false, false, false, false, false, false, false, false, false, false, false, false, false, false, false, false, false, false, false, false, false, false, false, false, false, false] rfl rfl (any_of HT_.out (by kernel_rfl)) (fun _ _ _ h => h) (Or.inl ⟨by rfl, ?_⟩) ?_ ?_
          rotate_left
          · intro w'
            go_simp
            with_reducible rfl
          rotate_left
          · simp only [Act.put, List.setIfInBounds_toArray, List.set_cons_zero, List.set_cons_succ, i64_w, i32_w]
            rfl
          rw [HLN.out]
          refine pure_ (i := 17) (N := some 125) (v := ?_) (a' := ?_) #[true, true, true, true, true, true, true, true, true, true, true, true, true, true, true, true, true, true, false, false, false, false, false, false, false, false, false, false, false, false, false, false, false, false, false, false, false, false, false, false, false, false, false, false, false, false, false, false, false, false, false] rfl rfl (any_of HT_.out (by kernel_rfl)) (fun _ _ _ h => h) (Or.inl ⟨by rfl, ?_⟩) ?_ ?_
          rotate_left
          · intro w'
            go_simp
            with_reducible rfl
          rotate_left
          · simp only [Act.put, List.setIfInBounds_toArray, List.set_cons_zero, List.set_cons_succ, i64_w, i32_w]
            rfl
          refine pure_ (i := 18) (N := some 126) (v := ?_) (a' := ?_) #[true, true, true, true, true, true, true, true, true, true, true, true, true, true, true, true, true, true, true, false, false, false, false, false, false, false, false, false, false, false, false, false, false, false, false, false, false, false, false, false, false, false, false, false, false, false, false, false, false, false, false] rfl rfl (any_of HT_.out (by kernel_rfl)) (fun _ _ _ h => h) (Or.inl ⟨by rfl, ?_⟩) ?_ ?_
          rotate_left
          · intro w'
            go_simp
            with_reducible rfl
          rotate_left
          · simp only [Act.put, List.setIfInBounds_toArray, List.set_cons_zero, List.set_cons_succ, i64_w, i32_w]
            rfl
          refine take_ (i := 19) (N := some 127) (v := ?_) (a' := ?_) #[true, true, true, true, true, true, true, true, true, true, true, true, true, true, true, true, true, true, true, true, false, false, false, false, false, false, false, false, false, false, false, false, false, false, false, false, false, false, false, false, false, false, false, false, false, false, false, false, false, false, false] rfl rfl (take_ofW HT_.out HW_.out (by kernel_rfl)) (fun _ _ _ h => h) (Or.inl ⟨by rfl, ?_⟩) hHeld ?_ ?_
          rotate_left
          · rintro w' ⟨s0, s1, s2, s3, s4, s5, s6, s7, s8⟩
            go_simp
            with_reducible rfl
          rotate_left
          · simp only [Act.put, List.setIfInBounds_toArray, List.set_cons_zero, List.set_cons_succ, i64_w, i32_w]
            rfl
          refine one_ (i := 20) (N := some 128) #[true, true, true, true, true, true, true, true, true, true, true, true, true, true, true, true, true, true, true, true, true, false, false, false, false, false, false, false, false, false, false, false, false, false, false, false, false, false, false, false, false, false, false, false, false, false, false, false, false, false, false] rfl rfl (one_of HT_.out (by kernel_rfl)) (by decide) (fun K hK => ?_)
          refine goes_ Try.func32 (by kernel_rfl) rfl #[.agg #[.slice (some aa) l'.length ca, .int .i64 kp]] (by rfl) rfl rfl (by (try simp only [List.map_toArray, List.map_cons, List.map_nil]); first | done | rfl | (simp only [List.length_drop, List.length_take]; rfl)) ?_
          with_reducible refine (assartref05_Right.calls 10000 (some aa) ca l' kp true _ (Kd.V_reads' HVa.out).2.2 (Kd.V_reads' HVa.out).2.1 HRF.out).mono ?_
          rintro e wca20 ⟨rfl, hb⟩
          refine ⟨_, rfl, ?_⟩
          replace Z0 : Aside0 (wca20.cell? ⟨w.heap.size, 0, none⟩ = some (.slice (some ax) l.length c)) := ⟨(hb.cell (World.block_lt_of_cell? wda13 _ Z0.out)).trans Z0.out⟩
          replace Z1 : Aside0 (wca20.cell? ⟨w.heap.size, 1, none⟩ = some (.int .i64 kp)) := ⟨(hb.cell (World.block_lt_of_cell? wda13 _ Z1.out)).trans Z1.out⟩
          replace Z2 : Aside0 (wca20.cell? ⟨w20.heap.size, 0, none⟩ = some (.slice (some aa) l'.length ca)) := ⟨(hb.cell (World.block_lt_of_cell? wda13 _ Z2.out)).trans Z2.out⟩
          replace Z3 : Aside0 (wca20.cell? ⟨w20.heap.size, 1, none⟩ = some (.int .i64 kp)) := ⟨(hb.cell (World.block_lt_of_cell? wda13 _ Z3.out)).trans Z3.out⟩
          replace Z4 : Aside0 (wca20.cell? ⟨w.heap.size + 1, 0, none⟩ = some (.bool leaf)) := ⟨(hb.cell (World.block_lt_of_cell? wda13 _ Z4.out)).trans Z4.out⟩
          replace Z5 : Aside0 (wca20.cell? ⟨w.heap.size + 1, 1, none⟩ = some (.slice A1 it.length c1)) := ⟨(hb.cell (World.block_lt_of_cell? wda13 _ Z5.out)).trans Z5.out⟩
          replace Z6 : Aside0 (wca20.cell? (aa.add (ad * 4)) = some (.int .i64 1)) := ⟨(hb.cell (World.block_lt_of_cell? wda13 _ Z6.out)).trans Z6.out⟩
          replace Z7 : Aside0 (wca20.cell? ⟨(aa.add (ad * 4)).block, (aa.add (ad * 4)).off + 2, none⟩ = some (.bool leaf)) := ⟨(hb.cell (World.block_lt_of_cell? wda13 _ Z7.out)).trans Z7.out⟩
          replace Z8 : Aside0 (wca20.cell? ⟨(aa.add (ad * 4)).block, (aa.add (ad * 4)).off + 3, none⟩ = some (.slice Ai it.length ci)) := ⟨(hb.cell (World.block_lt_of_cell? wda13 _ Z8.out)).trans Z8.out⟩
          replace HB := Aside0.mk (HB.out.trans (hb.mono HB.out.size))
          replace KXh := Aside0.mk (blk_below KXh.out hb)
          replace KXn := Aside0.mk (blk_below KXn.out hb)
          replace HVl := Aside0.mk (Kd.V_below HVl.out hb)
          replace HVn := Aside0.mk (Kd.V_below HVn.out hb)
          replace HVa := Aside0.mk (Kd.V_below HVa.out hb)
          replace KXa := Aside0.mk (blk_below KXa.out hb)
          replace HCI := Aside0.mk (Kd.C_below HCI.out hb)
          clear hb hHeld
          refine hK.out _ _ ⟨Z0.out, Z1.out, Z2.out, Z3.out, Z4.out, Z5.out, Z6.out, Z7.out, Z8.out⟩ (fun hHeld => ?_)
          clear hK K
          refine norm_ (a' := ?_) ?_ ?_
          rotate_left
          · show Act.put _ (some 128) _ = _
            simp only [Act.put, List.setIfInBounds_toArray, List.set_cons_zero, List.set_cons_succ, i64_w, i32_w]
            rfl
          refine pure_ (i := 21) (N := some 129) (v := ?_) (a' := ?_) #[true, true, true, true, true, true, true, true, true, true, true, true, true, true, true, true, true, true, true, true, true, true, false, false, false, false, false, false, false, false, false, false, false, false, false, false, false, false, false, false, false, false, false, false, false, false, false, false, false, false, false] rfl rfl (any_of HT_.out (by kernel_rfl)) (fun _ _ _ h => h) (Or.inl ⟨by rfl, ?_⟩) ?_ ?_
          rotate_left
          · intro w'
            go_simp
            with_reducible rfl
          rotate_left
          · simp only [Act.put, List.setIfInBounds_toArray, List.set_cons_zero, List.set_cons_succ, i64_w, i32_w]
            rfl
          refine pure_ (i := 22) (N := some 130) (v := ?_) (a' := ?_) #[true, true, true, true, true, true, true, true, true, true, true, true, true, true, true, true, true, true, true, true, true, true, true, false, false, false, false, false, false, false, false, false, false, false, false, false, false, false, false, false, false, false, false, false, false, false, false, false, false, false, false] rfl rfl (any_of HT_.out (by kernel_rfl)) (fun _ _ _ h => h) (Or.inl ⟨by rfl, ?_⟩) ?_ ?_
          rotate_left
          · intro w'
            go_simp
            with_reducible rfl
          rotate_left
          · simp only [Act.put, List.setIfInBounds_toArray, List.set_cons_zero, List.set_cons_succ, i64_w, i32_w]
            rfl
          refine pure_ (i := 23) (N := some 131) (v := ?_) (a' := ?_) #[true, true, true, true, true, true, true, true, true, true, true, true, true, true, true, true, true, true, true, true, true, true, true, true, false, false, false, false, false, false, false, false, false, false, false, false, false, false, false, false, false, false, false, false, false, false, false, false, false, false, false] rfl rfl (any_of HT_.out (by kernel_rfl)) (fun _ _ _ h => h) (Or.inl ⟨by rfl, ?_⟩) ?_ ?_
          rotate_left
          · intro w'
            go_simp
            with_reducible rfl
          rotate_left
          · simp only [Act.put, List.setIfInBounds_toArray, List.set_cons_zero, List.set_cons_succ, i64_w, i32_w]
            rfl
          refine pure_ (i := 24) (N := some 132) (v := ?_) (a' := ?_) #[true, true, true, true, true, true, true, true, true, true, true, true, true, true, true, true, true, true, true, true, true, true, true, true, true, false, false, false, false, false, false, false, false, false, false, false, false, false, false, false, false, false, false, false, false, false, false, false, false, false, false] rfl rfl (any_of HT_.out (by kernel_rfl)) (fun _ _ _ h => h) (Or.inl ⟨by rfl, ?_⟩) ?_ ?_
          rotate_left
          · intro w'
            go_simp
            with_reducible rfl
          rotate_left
          · simp only [Act.put, List.setIfInBounds_toArray, List.set_cons_zero, List.set_cons_succ, i64_w, i32_w]
            rfl
          refine take_ (i := 25) (N := some 133) (v := ?_) (a' := ?_) #[true, true, true, true, true, true, true, true, true, true, true, true, true, true, true, true, true, true, true, true, true, true, true, true, true, true, false, false, false, false, false, false, false, false, false, false, false, false, false, false, false, false, false, false, false, false, false, false, false, false, false] rfl rfl (take_ofW HT_.out HW_.out (by kernel_rfl)) (fun _ _ _ h => h) (Or.inl ⟨by rfl, ?_⟩) hHeld ?_ ?_
          rotate_left
          · rintro w' ⟨s0, s1, s2, s3, s4, s5, s6, s7, s8⟩
            go_simp
            with_reducible rfl
          rotate_left
          · simp only [Act.put, List.setIfInBounds_toArray, List.set_cons_zero, List.set_cons_succ, i64_w, i32_w]
            rfl
          refine pure_ (i := 26) (N := some 134) (v := ?_) (a' := ?_) #[true, true, true, true, true, true, true, true, true, true, true, true, true, true, true, true, true, true, true, true, true, true, true, true, true, true, true, false, false, false, false, false, false, false, false, false, false, false, false, false, false, false, false, false, false, false, false, false, false, false, false] rfl rfl (any_of HT_.out (by kernel_rfl)) (fun _ _ _ h => h) (Or.inl ⟨by rfl, ?_⟩) ?_ ?_
          rotate_left
          · intro w'
            go_simp
            with_reducible rfl
          rotate_left
          · simp only [Act.put, List.setIfInBounds_toArray, List.set_cons_zero, List.set_cons_succ, i64_w, i32_w]
            rfl
          refine pure_ (i := 27) (N := some 135) (v := ?_) (a' := ?_) #[true, true, true, true, true, true, true, true, true, true, true, true, true, true, true, true, true, true, true, true, true, true, true, true, true, true, true, true, false, false, false, false, false, false, false, false, false, false, false, false, false, false, false, false, false, false, false, false, false, false, false] rfl rfl (any_of HT_.out (by kernel_rfl)) (fun _ _ _ h => h) (Or.inl ⟨by rfl, ?_⟩) ?_ ?_
          rotate_left
          · intro w'
            go_simp
            with_reducible rfl
          rotate_left
          · simp only [Act.put, List.setIfInBounds_toArray, List.set_cons_zero, List.set_cons_succ, i64_w, i32_w]
            rfl
          refine pure_ (i := 28) (N := some 136) (v := ?_) (a' := ?_) #[true, true, true, true, true, true, true, true, true, true, true, true, true, true, true, true, true, true, true, true, true, true, true, true, true, true, true, true, true, false, false, false, false, false, false, false, false, false, false, false, false, false, false, false, false, false, false, false, false, false, false] rfl rfl (any_of HT_.out (by kernel_rfl)) (fun _ _ _ h => h) (Or.inl ⟨by rfl, ?_⟩) ?_ ?_
          rotate_left
          · intro w'
            go_simp
            with_reducible rfl
          rotate_left
          · simp only [Act.put, List.setIfInBounds_toArray, List.set_cons_zero, List.set_cons_succ, i64_w, i32_w]
            rfl
          refine take_ (i := 29) (N := some 137) (v := ?_) (a' := ?_) #[true, true, true, true, true, true, true, true, true, true, true, true, true, true, true, true, true, true, true, true, true, true, true, true, true, true, true, true, true, true, false, false, false, false, false, false, false, false, false, false, false, false, false, false, false, false, false, false, false, false, false] rfl rfl (take_ofW HT_.out HW_.out (by kernel_rfl)) (fun _ _ _ h => h) (Or.inl ⟨by rfl, ?_⟩) hHeld ?_ ?_
          rotate_left
          · rintro w' ⟨s0, s1, s2, s3, s4, s5, s6, s7, s8⟩
            go_simp
            with_reducible rfl
          rotate_left
          · simp only [Act.put, List.setIfInBounds_toArray, List.set_cons_zero, List.set_cons_succ, i64_w, i32_w]
            rfl
          refine pure_ (i := 30) (N := some 138) (v := ?_) (a' := ?_) #[true, true, true, true, true, true, true, true, true, true, true, true, true, true, true, true, true, true, true, true, true, true, true, true, true, true, true, true, true, true, true, false, false, false, false, false, false, false, false, false, false, false, false, false, false, false, false, false, false, false, false] rfl rfl (any_of HT_.out (by kernel_rfl)) (fun _ _ _ h => h) (Or.inl ⟨by rfl, ?_⟩) ?_ ?_
          rotate_left
          · intro w'
            go_simp
            with_reducible rfl
          rotate_left
          · simp only [Act.put, List.setIfInBounds_toArray, List.set_cons_zero, List.set_cons_succ, i64_w, i32_w]
            rfl
          refine pure_ (i := 31) (N := some 139) (v := ?_) (a' := ?_) #[true, true, true, true, true, true, true, true, true, true, true, true, true, true, true, true, true, true, true, true, true, true, true, true, true, true, true, true, true, true, true, true, false, false, false, false, false, false, false, false, false, false, false, false, false, false, false, false, false, false, false] rfl rfl (any_of HT_.out (by kernel_rfl)) (fun _ _ _ h => h) (Or.inl ⟨by rfl, ?_⟩) ?_ ?_
          rotate_left
          · intro w'
            go_simp
            with_reducible rfl
          rotate_left
          · simp only [Act.put, List.setIfInBounds_toArray, List.set_cons_zero, List.set_cons_succ, i64_w, i32_w]
            rfl
          refine pure_ (i := 32) (N := some 140) (v := ?_) (a' := ?_) #[true, true, true, true, true, true, true, true, true, true, true, true, true, true, true, true, true, true, true, true, true, true, true, true, true, true, true, true, true, true, true, true, true, false, false, false, false, false, false, false, false, false, false, false, false, false, false, false, false, false, false] rfl rfl (any_of HT_.out (by kernel_rfl)) (fun _ _ _ h => h) (Or.inl ⟨by rfl, ?_⟩) ?_ ?_
          rotate_left
          · intro w'
            go_simp
            with_reducible rfl
          rotate_left
          · simp only [Act.put, List.setIfInBounds_toArray, List.set_cons_zero, List.set_cons_succ, i64_w, i32_w]
            rfl
          refine pure_ (i := 33) (N := some 141) (v := ?_) (a' := ?_) #[true, true, true, true, true, true, true, true, true, true, true, true, true, true, true, true, true, true, true, true, true, true, true, true, true, true, true, true, true, true, true, true, true, true, false, false, false, false, false, false, false, false, false, false, false, false, false, false, false, false, false] rfl rfl (any_of HT_.out (by kernel_rfl)) (fun _ _ _ h => h) (Or.inl ⟨by rfl, ?_⟩) ?_ ?_
          rotate_left
          · intro w'
            go_simp
            with_reducible rfl
          rotate_left
          · simp only [Act.put, List.setIfInBounds_toArray, List.set_cons_zero, List.set_cons_succ, i64_w, i32_w]
            rfl
          refine take_ (i := 34) (N := some 142) (v := ?_) (a' := ?_) #[true, true, true, true, true, true, true, true, true, true, true, true, true, true, true, true, true, true, true, true, true, true, true, true, true, true, true, true, true, true, true, true, true, true, true, false, false, false, false, false, false, false, false, false, false, false, false, false, false, false, false] rfl rfl (take_ofW HT_.out HW_.out (by kernel_rfl)) (fun _ _ _ h => h) (Or.inl ⟨by rfl, ?_⟩) hHeld ?_ ?_
          rotate_left
          · rintro w' ⟨s0, s1, s2, s3, s4, s5, s6, s7, s8⟩
            go_simp
            with_reducible rfl
          rotate_left
          · simp only [Act.put, List.setIfInBounds_toArray, List.set_cons_zero, List.set_cons_succ, i64_w, i32_w]
            rfl
          refine pure_ (i := 35) (N := some 143) (v := ?_) (a' := ?_) #[true, true, true, true, true, true, true, true, true, true, true, true, true, true, true, true, true, true, true, true, true, true, true, true, true, true, true, true, true, true, true, true, true, true, true, true, false, false, false, false, false, false, false, false, false, false, false, false, false, false, false] rfl rfl (any_of HT_.out (by kernel_rfl)) (fun _ _ _ h => h) (Or.inl ⟨by rfl, ?_⟩) ?_ ?_
          rotate_left
          · intro w'
            go_simp
            with_reducible rfl
          rotate_left
          · simp only [Act.put, List.setIfInBounds_toArray, List.set_cons_zero, List.set_cons_succ, i64_w, i32_w]
            rfl
          refine pure_ (i := 36) (N := some 144) (v := ?_) (a' := ?_) #[true, true, true, true, true, true, true, true, true, true, true, true, true, true, true, true, true, true, true, true, true, true, true, true, true, true, true, true, true, true, true, true, true, true, true, true, true, false, false, false, false, false, false, false, false, false, false, false, false, false, false] rfl rfl (any_of HT_.out (by kernel_rfl)) (fun _ _ _ h => h) (Or.inl ⟨by rfl, ?_⟩) ?_ ?_
          rotate_left
          · intro w'
            go_simp
            with_reducible rfl
          rotate_left
          · simp only [Act.put, List.setIfInBounds_toArray, List.set_cons_zero, List.set_cons_succ, i64_w, i32_w]
            rfl
          refine pure_ (i := 37) (N := some 145) (v := ?_) (a' := ?_) #[true, true, true, true, true, true, true, true, true, true, true, true, true, true, true, true, true, true, true, true, true, true, true, true, true, true, true, true, true, true, true, true, true, true, true, true, true, true, false, false, false, false, false, false, false, false, false, false, false, false, false] rfl rfl (any_of HT_.out (by kernel_rfl)) (fun _ _ _ h => h) (Or.inl ⟨by rfl, ?_⟩) ?_ ?_
          rotate_left
          · intro w'
            go_simp
            with_reducible rfl
          rotate_left
          · simp only [Act.put, List.setIfInBounds_toArray, List.set_cons_zero, List.set_cons_succ, i64_w, i32_w]
            rfl
          refine take_ (i := 38) (N := some 146) (v := ?_) (a' := ?_) #[true, true, true, true, true, true, true, true, true, true, true, true, true, true, true, true, true, true, true, true, true, true, true, true, true, true, true, true, true, true, true, true, true, true, true, true, true, true, true, false, false, false, false, false, false, false, false, false, false, false, false] rfl rfl (take_ofW HT_.out HW_.out (by kernel_rfl)) (fun _ _ _ h => h) (Or.inl ⟨by rfl, ?_⟩) hHeld ?_ ?_
          rotate_left
          · rintro w' ⟨s0, s1, s2, s3, s4, s5, s6, s7, s8⟩
            go_simp
            with_reducible rfl
          rotate_left
          · simp only [Act.put, List.setIfInBounds_toArray, List.set_cons_zero, List.set_cons_succ, i64_w, i32_w]
            rfl
          refine take_ (i := 39) (N := some 147) (v := ?_) (a' := ?_) #[true, true, true, true, true, true, true, true, true, true, true, true, true, true, true, true, true, true, true, true, true, true, true, true, true, true, true, true, true, true, true, true, true, true, true, true, true, true, true, true, false, false, false, false, false, false, false, false, false, false, false] rfl rfl (take_ofW HT_.out HW_.out (by kernel_rfl)) (fun _ _ _ h => h) (Or.inl ⟨by rfl, ?_⟩) hHeld ?_ ?_
          rotate_left
          · rintro w' ⟨s0, s1, s2, s3, s4, s5, s6, s7, s8⟩
            go_simp
            with_reducible rfl
          rotate_left
          · simp only [Act.put, List.setIfInBounds_toArray, List.set_cons_zero, List.set_cons_succ, i64_w, i32_w]
            rfl
          refine one_ (i := 40) (N := some 148) #[true, true, true, true, true, true, true, true, true, true, true, true, true, true, true, true, true, true, true, true, true, true, true, true, true, true, true, true, true, true, true, true, true, true, true, true, true, true, true, true, true, false, false, false, false, false, false, false, false, false, false] rfl rfl (one_of HT_.out (by kernel_rfl)) (by decide) (fun K hK => ?_)
          refine goes_ Try.func53 (by kernel_rfl) rfl #[.agg #[.bool leaf, .slice Ai it.length ci], .agg #[.bool leaf, .slice A1 it.length c1]] (by rfl) rfl rfl (by (try simp only [List.map_toArray, List.map_cons, List.map_nil]); first | done | rfl | (simp only [List.length_drop, List.length_take]; rfl)) ?_
          with_reducible refine (assartref04_Same.calls 10000 leaf Ai ci it leaf A1 c1 it true _ HCI.out HLI.out (Kd.V_reads' HVn.out).2.2 (Kd.V_reads' HVn.out).2.1 HSN.out).mono ?_
          rintro e wca40 ⟨rfl, hb⟩
          refine ⟨_, rfl, ?_⟩
          replace Z0 : Aside0 (wca40.cell? ⟨w.heap.size, 0, none⟩ = some (.slice (some ax) l.length c)) := ⟨(hb.cell (World.block_lt_of_cell? wca20 _ Z0.out)).trans Z0.out⟩
          replace Z1 : Aside0 (wca40.cell? ⟨w.heap.size, 1, none⟩ = some (.int .i64 kp)) := ⟨(hb.cell (World.block_lt_of_cell? wca20 _ Z1.out)).trans Z1.out⟩
          replace Z2 : Aside0 (wca40.cell? ⟨w20.heap.size, 0, none⟩ = some (.slice (some aa) l'.length ca)) := ⟨(hb.cell (World.block_lt_of_cell? wca20 _ Z2.out)).trans Z2.out⟩
          replace Z3 : Aside0 (wca40.cell? ⟨w20.heap.size, 1, none⟩ = some (.int .i64 kp)) := ⟨(hb.cell (World.block_lt_of_cell? wca20 _ Z3.out)).trans Z3.out⟩
          replace Z4 : Aside0 (wca40.cell? ⟨w.heap.size + 1, 0, none⟩ = some (.bool leaf)) := ⟨(hb.cell (World.block_lt_of_cell? wca20 _ Z4.out)).trans Z4.out⟩
          replace Z5 : Aside0 (wca40.cell? ⟨w.heap.size + 1, 1, none⟩ = some (.slice A1 it.length c1)) := ⟨(hb.cell (World.block_lt_of_cell? wca20 _ Z5.out)).trans Z5.out⟩
          replace Z6 : Aside0 (wca40.cell? (aa.add (ad * 4)) = some (.int .i64 1)) := ⟨(hb.cell (World.block_lt_of_cell? wca20 _ Z6.out)).trans Z6.out⟩
          replace Z7 : Aside0 (wca40.cell? ⟨(aa.add (ad * 4)).block, (aa.add (ad * 4)).off + 2, none⟩ = some (.bool leaf)) := ⟨(hb.cell (World.block_lt_of_cell? wca20 _ Z7.out)).trans Z7.out⟩
          replace Z8 : Aside0 (wca40.cell? ⟨(aa.add (ad * 4)).block, (aa.add (ad * 4)).off + 3, none⟩ = some (.slice Ai it.length ci)) := ⟨(hb.cell (World.block_lt_of_cell? wca20 _ Z8.out)).trans Z8.out⟩
          replace HB := Aside0.mk (HB.out.trans (hb.mono HB.out.size))
          replace KXh := Aside0.mk (blk_below KXh.out hb)
          replace KXn := Aside0.mk (blk_below KXn.out hb)
          replace HVl := Aside0.mk (Kd.V_below HVl.out hb)
          replace HVn := Aside0.mk (Kd.V_below HVn.out hb)
          replace HVa := Aside0.mk (Kd.V_below HVa.out hb)
          replace KXa := Aside0.mk (blk_below KXa.out hb)
          replace HCI := Aside0.mk (Kd.C_below HCI.out hb)
          clear hb hHeld
          refine hK.out _ _ ⟨Z0.out, Z1.out, Z2.out, Z3.out, Z4.out, Z5.out, Z6.out, Z7.out, Z8.out⟩ (fun hHeld => ?_)
          clear hK K
          refine norm_ (a' := ?_) ?_ ?_
          rotate_left
          · show Act.put _ (some 148) _ = _
            simp only [Act.put, List.setIfInBounds_toArray, List.set_cons_zero, List.set_cons_succ, i64_w, i32_w]
            rfl
          refine pure_ (i := 41) (N := some 149) (v := ?_) (a' := ?_) #[true, true, true, true, true, true, true, true, true, true, true, true, true, true, true, true, true, true, true, true, true, true, true, true, true, true, true, true, true, true, true, true, true, true, true, true, true, true, true, true, true, true, false, false, false, false, false, false, false, false, false] rfl rfl (any_of HT_.out (by kernel_rfl)) (fun _ _ _ h => h) (Or.inl ⟨by rfl, ?_⟩) ?_ ?_
          rotate_left
          · intro w'
            go_simp
            with_reducible rfl
          rotate_left
          · simp only [Act.put, List.setIfInBounds_toArray, List.set_cons_zero, List.set_cons_succ, i64_w, i32_w]
            rfl
          refine pure_ (i := 42) (N := some 150) (v := ?_) (a' := ?_) #[true, true, true, true, true, true, true, true, true, true, true, true, true, true, true, true, true, true, true, true, true, true, true, true, true, true, true, true, true, true, true, true, true, true, true, true, true, true, true, true, true, true, true, false, false, false, false, false, false, false, false] rfl rfl (any_of HT_.out (by kernel_rfl)) (fun _ _ _ h => h) (Or.inl ⟨by rfl, ?_⟩) ?_ ?_
          rotate_left
          · intro w'
            go_simp
            with_reducible rfl
          rotate_left
          · simp only [Act.put, List.setIfInBounds_toArray, List.set_cons_zero, List.set_cons_succ, i64_w, i32_w]
            rfl
          refine pure_ (i := 43) (N := some 151) (v := ?_) (a' := ?_) #[true, true, true, true, true, true, true, true, true, true, true, true, true, true, true, true, true, true, true, true, true, true, true, true, true, true, true, true, true, true, true, true, true, true, true, true, true, true, true, true, true, true, true, true, false, false, false, false, false, false, false] rfl rfl (any_of HT_.out (by kernel_rfl)) (fun _ _ _ h => h) (Or.inl ⟨by rfl, ?_⟩) ?_ ?_
          rotate_left
          · intro w'
            go_simp
            with_reducible rfl
          rotate_left
          · simp only [Act.put, List.setIfInBounds_toArray, List.set_cons_zero, List.set_cons_succ, i64_w, i32_w]
            rfl
          refine take_ (i := 44) (N := some 152) (v := ?_) (a' := ?_) #[true, true, true, true, true, true, true, true, true, true, true, true, true, true, true, true, true, true, true, true, true, true, true, true, true, true, true, true, true, true, true, true, true, true, true, true, true, true, true, true, true, true, true, true, true, false, false, false, false, false, false] rfl rfl (take_ofW HT_.out HW_.out (by kernel_rfl)) (fun _ _ _ h => h) (Or.inl ⟨by rfl, ?_⟩) hHeld ?_ ?_
          rotate_left
          · rintro w' ⟨s0, s1, s2, s3, s4, s5, s6, s7, s8⟩
            go_simp
            with_reducible rfl
          rotate_left
          · simp only [Act.put, List.setIfInBounds_toArray, List.set_cons_zero, List.set_cons_succ, i64_w, i32_w]
            rfl
          refine take_ (i := 46) (N := some 154) (v := ?_) (a' := ?_) #[true, true, true, true, true, true, true, true, true, true, true, true, true, true, true, true, true, true, true, true, true, true, true, true, true, true, true, true, true, true, true, true, true, true, true, true, true, true, true, true, true, true, true, true, true, false, true, false, false, false, false] rfl rfl (take_ofW HT_.out HW_.out (by kernel_rfl)) (fun _ _ _ h => h) (Or.inl ⟨by rfl, ?_⟩) hHeld ?_ ?_
          rotate_left
          · rintro w' ⟨s0, s1, s2, s3, s4, s5, s6, s7, s8⟩
            go_simp
            with_reducible rfl
          rotate_left
          · simp only [Act.put, List.setIfInBounds_toArray, List.set_cons_zero, List.set_cons_succ, i64_w, i32_w]
            rfl
          refine one_ (i := 45) (N := some 153) #[true, true, true, true, true, true, true, true, true, true, true, true, true, true, true, true, true, true, true, true, true, true, true, true, true, true, true, true, true, true, true, true, true, true, true, true, true, true, true, true, true, true, true, true, true, true, true, false, false, false, false] rfl rfl (one_of HT_.out (by kernel_rfl)) (by decide) (fun K hK => ?_)
          refine goes_ Try.func41 (by kernel_rfl) rfl #[.agg #[.slice (some aa) l'.length ca, .int .i64 kp]] (by rfl) rfl rfl (by (try simp only [List.map_toArray, List.map_cons, List.map_nil]); first | done | rfl | (simp only [List.length_drop, List.length_take]; rfl)) ?_
          with_reducible refine (assartref05_Free.calls 10000 (some aa) ca l' kp (freeN l' : Int) _ (Kd.V_reads' HVa.out).2.2 (Kd.V_reads' HVa.out).2.1 HFA.out).mono ?_
          rintro e wca45 ⟨rfl, hb⟩
          refine ⟨_, rfl, ?_⟩
          replace Z0 : Aside0 (wca45.cell? ⟨w.heap.size, 0, none⟩ = some (.slice (some ax) l.length c)) := ⟨(hb.cell (World.block_lt_of_cell? wca40 _ Z0.out)).trans Z0.out⟩
          replace Z1 : Aside0 (wca45.cell? ⟨w.heap.size, 1, none⟩ = some (.int .i64 kp)) := ⟨(hb.cell (World.block_lt_of_cell? wca40 _ Z1.out)).trans Z1.out⟩
          replace Z2 : Aside0 (wca45.cell? ⟨w20.heap.size, 0, none⟩ = some (.slice (some aa) l'.length ca)) := ⟨(hb.cell (World.block_lt_of_cell? wca40 _ Z2.out)).trans Z2.out⟩
          replace Z3 : Aside0 (wca45.cell? ⟨w20.heap.size, 1, none⟩ = some (.int .i64 kp)) := ⟨(hb.cell (World.block_lt_of_cell? wca40 _ Z3.out)).trans Z3.out⟩
          replace Z4 : Aside0 (wca45.cell? ⟨w.heap.size + 1, 0, none⟩ = some (.bool leaf)) := ⟨(hb.cell (World.block_lt_of_cell? wca40 _ Z4.out)).trans Z4.out⟩
          replace Z5 : Aside0 (wca45.cell? ⟨w.heap.size + 1, 1, none⟩ = some (.slice A1 it.length c1)) := ⟨(hb.cell (World.block_lt_of_cell? wca40 _ Z5.out)).trans Z5.out⟩
          replace Z6 : Aside0 (wca45.cell? (aa.add (ad * 4)) = some (.int .i64 1)) := ⟨(hb.cell (World.block_lt_of_cell? wca40 _ Z6.out)).trans Z6.out⟩
          replace Z7 : Aside0 (wca45.cell? ⟨(aa.add (ad * 4)).block, (aa.add (ad * 4)).off + 2, none⟩ = some (.bool leaf)) := ⟨(hb.cell (World.block_lt_of_cell? wca40 _ Z7.out)).trans Z7.out⟩
          replace Z8 : Aside0 (wca45.cell? ⟨(aa.add (ad * 4)).block, (aa.add (ad * 4)).off + 3, none⟩ = some (.slice Ai it.length ci)) := ⟨(hb.cell (World.block_lt_of_cell? wca40 _ Z8.out)).trans Z8.out⟩
          replace HB := Aside0.mk (HB.out.trans (hb.mono HB.out.size))
          replace KXh := Aside0.mk (blk_below KXh.out hb)
          replace KXn := Aside0.mk (blk_below KXn.out hb)
          replace HVl := Aside0.mk (Kd.V_below HVl.out hb)
          replace HVn := Aside0.mk (Kd.V_below HVn.out hb)
          replace HVa := Aside0.mk (Kd.V_below HVa.out hb)
          replace KXa := Aside0.mk (blk_below KXa.out hb)
          replace HCI := Aside0.mk (Kd.C_below HCI.out hb)
          clear hb hHeld
          refine hK.out _ _ ⟨Z0.out, Z1.out, Z2.out, Z3.out, Z4.out, Z5.out, Z6.out, Z7.out, Z8.out⟩ (fun hHeld => ?_)
          clear hK K
          refine norm_ (a' := ?_) ?_ ?_
          rotate_left
          · show Act.put _ (some 153) _ = _
            simp only [Act.put, List.setIfInBounds_toArray, List.set_cons_zero, List.set_cons_succ, i64_w, i32_w]
            rfl
          refine one_ (i := 47) (N := some 155) #[true, true, true, true, true, true, true, true, true, true, true, true, true, true, true, true, true, true, true, true, true, true, true, true, true, true, true, true, true, true, true, true, true, true, true, true, true, true, true, true, true, true, true, true, true, true, true, true, false, false, false] rfl rfl (one_of HT_.out (by kernel_rfl)) (by decide) (fun K hK => ?_)
          refine goes_ Try.func41 (by kernel_rfl) rfl #[.agg #[.slice (some ax) l.length c, .int .i64 kp]] (by rfl) rfl rfl (by (try simp only [List.map_toArray, List.map_cons, List.map_nil]); first | done | rfl | (simp only [List.length_drop, List.length_take]; rfl)) ?_
          with_reducible refine (assartref05_Free.calls 10000 (some ax) c l kp (freeN l : Int) _ (Kd.V_reads' HVl.out).2.2 (Kd.V_reads' HVl.out).2.1 HFL.out).mono ?_
          rintro e wca47 ⟨rfl, hb⟩
          refine ⟨_, rfl, ?_⟩
          replace Z0 : Aside0 (wca47.cell? ⟨w.heap.size, 0, none⟩ = some (.slice (some ax) l.length c)) := ⟨(hb.cell (World.block_lt_of_cell? wca45 _ Z0.out)).trans Z0.out⟩
          replace Z1 : Aside0 (wca47.cell? ⟨w.heap.size, 1, none⟩ = some (.int .i64 kp)) := ⟨(hb.cell (World.block_lt_of_cell? wca45 _ Z1.out)).trans Z1.out⟩
          replace Z2 : Aside0 (wca47.cell? ⟨w20.heap.size, 0, none⟩ = some (.slice (some aa) l'.length ca)) := ⟨(hb.cell (World.block_lt_of_cell? wca45 _ Z2.out)).trans Z2.out⟩
          replace Z3 : Aside0 (wca47.cell? ⟨w20.heap.size, 1, none⟩ = some (.int .i64 kp)) := ⟨(hb.cell (World.block_lt_of_cell? wca45 _ Z3.out)).trans Z3.out⟩
          replace Z4 : Aside0 (wca47.cell? ⟨w.heap.size + 1, 0, none⟩ = some (.bool leaf)) := ⟨(hb.cell (World.block_lt_of_cell? wca45 _ Z4.out)).trans Z4.out⟩
          replace Z5 : Aside0 (wca47.cell? ⟨w.heap.size + 1, 1, none⟩ = some (.slice A1 it.length c1)) := ⟨(hb.cell (World.block_lt_of_cell? wca45 _ Z5.out)).trans Z5.out⟩
          replace Z6 : Aside0 (wca47.cell? (aa.add (ad * 4)) = some (.int .i64 1)) := ⟨(hb.cell (World.block_lt_of_cell? wca45 _ Z6.out)).trans Z6.out⟩
          replace Z7 : Aside0 (wca47.cell? ⟨(aa.add (ad * 4)).block, (aa.add (ad * 4)).off + 2, none⟩ = some (.bool leaf)) := ⟨(hb.cell (World.block_lt_of_cell? wca45 _ Z7.out)).trans Z7.out⟩
          replace Z8 : Aside0 (wca47.cell? ⟨(aa.add (ad * 4)).block, (aa.add (ad * 4)).off + 3, none⟩ = some (.slice Ai it.length ci)) := ⟨(hb.cell (World.block_lt_of_cell? wca45 _ Z8.out)).trans Z8.out⟩
          replace HB := Aside0.mk (HB.out.trans (hb.mono HB.out.size))
          replace KXh := Aside0.mk (blk_below KXh.out hb)
          replace KXn := Aside0.mk (blk_below KXn.out hb)
          replace HVl := Aside0.mk (Kd.V_below HVl.out hb)
          replace HVn := Aside0.mk (Kd.V_below HVn.out hb)
          replace HVa := Aside0.mk (Kd.V_below HVa.out hb)
          replace KXa := Aside0.mk (blk_below KXa.out hb)
          replace HCI := Aside0.mk (Kd.C_below HCI.out hb)
          clear hb hHeld
          refine hK.out _ _ ⟨Z0.out, Z1.out, Z2.out, Z3.out, Z4.out, Z5.out, Z6.out, Z7.out, Z8.out⟩ (fun hHeld => ?_)
          clear hK K
          refine norm_ (a' := ?_) ?_ ?_
          rotate_left
          · show Act.put _ (some 155) _ = _
            simp only [Act.put, List.setIfInBounds_toArray, List.set_cons_zero, List.set_cons_succ, i64_w, i32_w]
            rfl
          refine pure_ (i := 48) (N := some 156) (v := ?_) (a' := ?_) #[true, true, true, true, true, true, true, true, true, true, true, true, true, true, true, true, true, true, true, true, true, true, true, true, true, true, true, true, true, true, true, true, true, true, true, true, true, true, true, true, true, true, true, true, true, true, true, true, true, false, false] rfl rfl (any_of HT_.out (by kernel_rfl)) (fun _ _ _ h => h) (Or.inl ⟨by rfl, ?_⟩) ?_ ?_
          rotate_left
          · intro w'
            go_simp
            with_reducible rfl
          rotate_left
          · simp only [Act.put, List.setIfInBounds_toArray, List.set_cons_zero, List.set_cons_succ, i64_w, i32_w]
            rfl
          refine pure_ (i := 49) (N := some 157) (v := ?_) (a' := ?_) #[true, true, true, true, true, true, true, true, true, true, true, true, true, true, true, true, true, true, true, true, true, true, true, true, true, true, true, true, true, true, true, true, true, true, true, true, true, true, true, true, true, true, true, true, true, true, true, true, true, true, false] rfl rfl (any_of HT_.out (by kernel_rfl)) (fun _ _ _ h => h) (Or.inl ⟨by rfl, ?_⟩) ?_ ?_
          rotate_left
          · intro w'
            go_simp
            with_reducible rfl
          rotate_left
          · simp only [Act.put, List.setIfInBounds_toArray, List.set_cons_zero, List.set_cons_succ, i64_w, i32_w]
            rfl
          rw [HNE2.out]
          refine pure_ (i := 50) (N := some 158) (v := ?_) (a' := ?_) #[true, true, true, true, true, true, true, true, true, true, true, true, true, true, true, true, true, true, true, true, true, true, true, true, true, true, true, true, true, true, true, true, true, true, true, true, true, true, true, true, true, true, true, true, true, true, true, true, true, true, true] rfl rfl (any_of HT_.out (by kernel_rfl)) (fun _ _ _ h => h) (Or.inl ⟨by rfl, ?_⟩) ?_ ?_
          rotate_left
          · intro w'
            go_simp
            with_reducible rfl
          rotate_left
          · simp only [Act.put, List.setIfInBounds_toArray, List.set_cons_zero, List.set_cons_succ, i64_w, i32_w]
            rfl
          refine done_ (done_of HT_.out (by kernel_rfl)) ?_
          clear hHeld HT_ HW_
          clear Z0 Z1 Z2 Z3 Z4 Z5 Z6 Z7 Z8 p1 p2 p3 HLN HNE2 HRF HSN HFA HFL HCI HLI
          go_wp2
          go_loopg [15] (ad + 1) (fun kx s wr => ∃ (j : Nat), s = .int .i64 j ∧ j ≤ ad + 1 ∧ ad + 1 - j ≤ kx ∧ Aside0 (wca47 = wr))
          case atStart => exact ⟨0, rfl, Nat.zero_le _, by omega, ⟨rfl⟩⟩
          case round =>
            obtain ⟨j, rfl, hj, hgk, HW_⟩ := hrel
            obtain rfl := HW_.out
            clear HW_
            by_cases hlt : j ≤ ad
            · obtain ⟨aj, A_3, c_3, e4, z0, z1, -⟩ := at_T55 (Kd.V_reads' HVl.out).2.2 (j : Int) (by omega) (by omega)
              cases e4
              rw [Int.toNat_natCast] at z0 z1
              have x0 : wca47.cell? ⟨w.heap.size, 0, none⟩ = some (.slice (some ax) l.length c) := (blk_cell KXh.out 0).trans rfl
              have x1 : wca47.cell? ⟨w.heap.size, 1, none⟩ = some (.int .i64 kp) := (blk_cell KXh.out 1).trans rfl
              have p1 : (j : Int) < (l.length : Int) := by omega
              replace p1 := eq_true p1
              have p2 : (j : Int) ≤ (ad : Int) := by omega
              have p3 := decide_eq_true p2
              by_cases hja : j = ad
              · subst hja
                unfold isFreeB at hfa
                rw [Bool.and_eq_true, beq_iff_eq, Bool.not_eq_true'] at hfa
                rw [hfa.1] at z0
                rw [hfa.2] at z1
                go_wp2
                go_roundg (j + 1 - (j + 1))
                case measure => omega
                case rel => exact ⟨j + 1, by simp, by omega, Nat.le_refl _, ⟨rfl⟩⟩
              · have hf := hfb j (by omega)
                unfold isFreeB at hf
                have q1 : ((j : Int) = (ad : Int)) = False := eq_false (by omega)
                have q2 : (j = ad) = False := eq_false hja
                have q3 : ((j : Int) == (ad : Int)) = false := beq_eq_false_iff_ne.2 (by omega)
                by_cases hz : (rd_T55 l (j : Nat)).f0 = 0
                · rw [hz, Bool.and_eq_false_iff] at hf
                  have hp : (rd_T55 l (j : Nat)).f1 = true := by
                    rcases hf with h | h
                    · simp at h
                    · simpa using h
                  rw [hz] at z0
                  rw [hp] at z1
                  clear hf hz hp
                  go_wp2
                  go_roundg (ad + 1 - (j + 1))
                  case measure => omega
                  case rel => exact ⟨j + 1, by simp, by omega, Nat.le_refl _, ⟨rfl⟩⟩
                · clear hf
                  generalize (rd_T55 l (j : Nat)).f0 = rf at z0 hz
                  have q4 : (rf == 0) = false := beq_eq_false_iff_ne.2 hz
                  have q5 : (rf = 0) = False := eq_false hz
                  go_wp2
                  go_roundg (ad + 1 - (j + 1))
                  case measure => omega
                  case rel => exact ⟨j + 1, by simp, by omega, Nat.le_refl _, ⟨rfl⟩⟩
            · obtain rfl : j = ad + 1 := by omega
              have p3 : decide (((ad + 1 : Nat) : Int) ≤ (ad : Int)) = false := decide_eq_false (by omega)
              have p4 : ((ad : Int) + 1 ≤ (ad : Int)) = False := eq_false (by omega)
              have xa_0 : wca47.cell? ⟨w20.heap.size, 0, none⟩ = some (.slice (some aa) l'.length ca) := (blk_cell KXa.out 0).trans rfl
              have xa_1 : wca47.cell? ⟨w20.heap.size, 1, none⟩ = some (.int .i64 kp) := (blk_cell KXa.out 1).trans rfl
              have la : w20.heap.size < wca47.heap.size := blk_lt KXa.out
              go_wp2_with fail
              clear p3 p4 xa_0 xa_1 la
              have HLF := Aside0.mk (heap_Loose.fresh (fun _ => True) (some aa) ca l' kp (ad : Int) l2 wca47 (V_base HVa.out) (by have := HLEN.out; omega) hus hlo (by omega))
              clear hus hlo
              refine HLF.out.mono ?_
              rintro e wL ⟨g, rfl, hgg, hrw, hb⟩
              clear HLF
              have HGG : Aside0 (w.heap.size + 1 < g) := ⟨by have := blk_lt KXn.out; omega⟩
              have HBL := Aside0.mk hb
              have HG2 := Aside0.mk hgg
              replace HB := Aside0.mk (HB.out.trans (hb.mono HB.out.size))
              replace KXh := Aside0.mk (blk_below KXh.out hb)
              replace KXn := Aside0.mk (blk_below KXn.out hb)
              replace HVl := Aside0.mk (Kd.V_below HVl.out hb)
              replace HVn := Aside0.mk (Kd.V_below HVn.out hb)
              replace HVa := Aside0.mk (Kd.V_below HVa.out hb)
              replace KXa := Aside0.mk (blk_below KXa.out hb)
              have HRW := Aside0.mk hrw
              clear hb hgg hrw
              obtain ⟨cs, hcc, hcs⟩ := HRW.out.blk
              have fz := blk_frozen hcc (ad * 4 + 1)
              obtain ⟨-, z1, -, -⟩ := HRW.out.row ad (by omega)
              rw [hpin] at z1
              have lg : g < wL.heap.size := HRW.out.lt
              have n1 : w.heap.size ≠ g := by have := HGG.out; omega
              have n2 : g ≠ w.heap.size := fun e => n1 e.symm
              have p1 : (ad : Int) < (l.length : Int) := by omega
              replace p1 := eq_true p1
              have xh_0 : wL.cell? ⟨w.heap.size, 0, none⟩ = some (.slice (some ax) l.length c) := (blk_cell KXh.out 0).trans rfl
              have xh_1 : wL.cell? ⟨w.heap.size, 1, none⟩ = some (.int .i64 kp) := (blk_cell KXh.out 1).trans rfl
              have lh : w.heap.size < wL.heap.size := blk_lt KXh.out
              go_wp2_with fail
              clear fz z1 p1 xh_0 xh_1 lh
              have HS1 := HRW.out.setPin (i := ad) (by omega) false
              rw [hset] at HS1
              have HS2 := HS1.same (W' := (wL.setCell ⟨g, ad * 4 + 1, none⟩ (.bool false)).alloc (.cells #[.slice (some ⟨g, 0, none⟩) l.length l.length, .int .i64 kp] 24)) (Below.heap_alloc _ _ _ (by simpa [World.setCell] using lg))
              have HVF := Kd.V_alloc (Kd.V_far (p := ⟨g, ad * 4 + 1, none⟩) HVl.out (fun k hk => by have := HGG.out; simp only []; omega) (.bool false)) (.cells #[.slice (some ⟨g, 0, none⟩) l.length l.length, .int .i64 kp] 24)
              have HBF := below_alloc (below_set (j := ad * 4 + 1) (v := .bool false) HB.out (show w.heap.size ≤ g by have := HGG.out; omega)) (.cells #[.slice (some ⟨g, 0, none⟩) l.length l.length, .int .i64 kp] 24)
              refine (assartref05_Same.calls 10000 (some ⟨g, 0, none⟩) l.length l kp (some ax) c l kp true _ (HS2.C (fun k _ hk => ?_) (by omega)) (Nat.le_refl _) (Kd.V_reads' HVF).2.2 (Kd.V_reads' HVF).2.1 (by rw [refSame_val l l kp kp (by omega) (fun x hx => by have := hi1 x hx; omega) (by omega)]; simp)).mono ?_
              · exact (Below.heap_alloc _ _ k (by have := HBL.out.size; simp only [World.setCell, Array.size_modify]; omega)).trans ((Below.heap_setCell wL _ _ k (by have := HG2.out; simp only []; omega)).trans (HBL.out.block k hk))
              rintro e wF ⟨rfl, hb⟩
              have HBZ := HBF.trans (hb.mono HBF.size)
              clear HS1 HS2 HVF HBF hb
              go_wp2
              go_ret
              exact ⟨rfl, HBZ⟩
      · have hu' : usedB l p = false := by rwa [Bool.not_eq_true] at hu
        have HFh : Aside0 (heap_Hold.f l kp p = some (l, kp, 4)) := ⟨by unfold heap_Hold.f; rw [if_pos (by omega), if_neg hu]⟩
        have HFl : Aside0 (heap_Loose.f l kp p = some (l, kp, 4)) := ⟨by unfold heap_Loose.f; rw [if_pos (by omega), if_neg hu]⟩
        refine (heap_Hold.calls (fun _ => True) A c l kp p _ kp 4 w2 (V_base (Kd.V_mono HVl.out (fun _ _ => trivial))) HFh.out).mono ?_
        rintro e w41 ⟨v_, rfl, hv, hb⟩
        obtain ⟨Ac, cc, ev⟩ := Kd.V_slice hv
        subst ev
        replace HB := Aside0.mk (HB.out.trans (hb.mono HB.out.size))
        replace KXh := Aside0.mk (blk_below KXh.out hb)
        replace KXn := Aside0.mk (blk_below KXn.out hb)
        replace HVl := Aside0.mk (Kd.V_below HVl.out hb)
        replace HVn := Aside0.mk (Kd.V_below HVn.out hb)
        have HVc : Aside0 (Kd.V k55 55 w41 0 (fun _ => True) (.slice Ac l.length cc) l) := ⟨V_base (Kd.V_mono hv (fun _ _ => trivial))⟩
        clear hv hb HFh
        have xh_0 : w41.cell? ⟨w.heap.size, 0, none⟩ = some (.slice A l.length c) := (blk_cell KXh.out 0).trans rfl
        have xh_1 : w41.cell? ⟨w.heap.size, 1, none⟩ = some (.int .i64 kp) := (blk_cell KXh.out 1).trans rfl
        have lh : w.heap.size < w41.heap.size := blk_lt KXh.out
        go_wp2_with fail
        clear xh_0 xh_1 lh
        have hpre : Below w41.heap.size w41 (w41.alloc (.cells #[.slice Ac l.length cc, .int .i64 kp] 24)) := (Below.refl w41.heap.size w41).alloc (Nat.le_refl _) _
        replace HB := Aside0.mk (HB.out.trans (hpre.mono HB.out.size))
        replace KXh := Aside0.mk (blk_below KXh.out hpre)
        replace KXn := Aside0.mk (blk_below KXn.out hpre)
        replace HVl := Aside0.mk (Kd.V_below HVl.out hpre)
        replace HVn := Aside0.mk (Kd.V_below HVn.out hpre)
        replace HVc := Aside0.mk (Kd.V_below HVc.out hpre)
        have KXc : Aside0 ((w41.alloc (.cells #[.slice Ac l.length cc, .int .i64 kp] 24)).heap[w41.heap.size]? = some (.cells #[.slice Ac l.length cc, .int .i64 kp] 24 (0, 0))) := ⟨alloc_new w41 _⟩
        clear hpre
        obtain ⟨w42, hw_⟩ : ∃ w_, (w41.alloc (.cells #[.slice Ac l.length cc, .int .i64 kp] 24)) = w_ := ⟨_, rfl⟩
        rw [hw_]
        rw [hw_] at HB KXh KXn HVl HVn HVc KXc
        clear hw_
        refine (assartref05_Used.calls A c l kp p false w42 (Kd.V_reads' HVl.out).2.2 (Kd.V_reads' HVl.out).2.1 (by rw [used_val, hu'])).mono ?_
        rintro e w43 ⟨rfl, hb⟩
        replace HB := Aside0.mk (HB.out.trans (hb.mono HB.out.size))
        replace KXh := Aside0.mk (blk_below KXh.out hb)
        replace KXn := Aside0.mk (blk_below KXn.out hb)
        replace HVl := Aside0.mk (Kd.V_below HVl.out hb)
        replace HVn := Aside0.mk (Kd.V_below HVn.out hb)
        replace HVc := Aside0.mk (Kd.V_below HVc.out hb)
        replace KXc := Aside0.mk (blk_below KXc.out hb)
        clear hb
        have xh_0 : w43.cell? ⟨w.heap.size, 0, none⟩ = some (.slice A l.length c) := (blk_cell KXh.out 0).trans rfl
        have xh_1 : w43.cell? ⟨w.heap.size, 1, none⟩ = some (.int .i64 kp) := (blk_cell KXh.out 1).trans rfl
        have lh : w.heap.size < w43.heap.size := blk_lt KXh.out
        have xc_0 : w43.cell? ⟨w41.heap.size, 0, none⟩ = some (.slice Ac l.length cc) := (blk_cell KXc.out 0).trans rfl
        have xc_1 : w43.cell? ⟨w41.heap.size, 1, none⟩ = some (.int .i64 kp) := (blk_cell KXc.out 1).trans rfl
        have lc : w41.heap.size < w43.heap.size := blk_lt KXc.out
        go_wp2_with fail
        clear xh_0 xh_1 lh xc_0 xc_1 lc
        refine (heap_Loose.calls (fun _ => True) Ac cc l kp p _ kp 4 w43 (V_base HVc.out) HFl.out).mono ?_
        rintro e w44 ⟨v_, rfl, hv, hb⟩
        obtain ⟨Ad, cd, ev⟩ := Kd.V_slice hv
        subst ev
        replace HB := Aside0.mk (HB.out.trans (hb.mono HB.out.size))
        replace KXh := Aside0.mk (blk_below KXh.out hb)
        replace KXn := Aside0.mk (blk_below KXn.out hb)
        replace HVl := Aside0.mk (Kd.V_below HVl.out hb)
        replace HVn := Aside0.mk (Kd.V_below HVn.out hb)
        replace HVc := Aside0.mk (Kd.V_below HVc.out hb)
        replace KXc := Aside0.mk (blk_below KXc.out hb)
        have HVd : Aside0 (Kd.V k55 55 w44 0 (fun _ => True) (.slice Ad l.length cd) l) := ⟨V_base (Kd.V_mono hv (fun _ _ => trivial))⟩
        clear hv hb HFl
        have xh_0 : w44.cell? ⟨w.heap.size, 0, none⟩ = some (.slice A l.length c) := (blk_cell KXh.out 0).trans rfl
        have xh_1 : w44.cell? ⟨w.heap.size, 1, none⟩ = some (.int .i64 kp) := (blk_cell KXh.out 1).trans rfl
        have lh : w.heap.size < w44.heap.size := blk_lt KXh.out
        have xc_0 : w44.cell? ⟨w41.heap.size, 0, none⟩ = some (.slice Ac l.length cc) := (blk_cell KXc.out 0).trans rfl
        have xc_1 : w44.cell? ⟨w41.heap.size, 1, none⟩ = some (.int .i64 kp) := (blk_cell KXc.out 1).trans rfl
        have lc : w41.heap.size < w44.heap.size := blk_lt KXc.out
        go_wp2_with fail
        clear xh_0 xh_1 lh xc_0 xc_1 lc
        have hpre : Below w44.heap.size w44 (w44.alloc (.cells #[.slice Ad l.length cd, .int .i64 kp] 24)) := (Below.refl w44.heap.size w44).alloc (Nat.le_refl _) _
        replace HB := Aside0.mk (HB.out.trans (hpre.mono HB.out.size))
        replace KXh := Aside0.mk (blk_below KXh.out hpre)
        replace KXn := Aside0.mk (blk_below KXn.out hpre)
        replace HVl := Aside0.mk (Kd.V_below HVl.out hpre)
        replace HVn := Aside0.mk (Kd.V_below HVn.out hpre)
        replace HVc := Aside0.mk (Kd.V_below HVc.out hpre)
        replace KXc := Aside0.mk (blk_below KXc.out hpre)
        replace HVd := Aside0.mk (Kd.V_below HVd.out hpre)
        have KXd : Aside0 ((w44.alloc (.cells #[.slice Ad l.length cd, .int .i64 kp] 24)).heap[w44.heap.size]? = some (.cells #[.slice Ad l.length cd, .int .i64 kp] 24 (0, 0))) := ⟨alloc_new w44 _⟩
        clear hpre
        obtain ⟨w45, hw_⟩ : ∃ w_, (w44.alloc (.cells #[.slice Ad l.length cd, .int .i64 kp] 24)) = w_ := ⟨_, rfl⟩
        rw [hw_]
        rw [hw_] at HB KXh KXn HVl HVn HVc KXc HVd KXd
        clear hw_
        have Z0 : Aside0 (w45.cell? ⟨w.heap.size, 0, none⟩ = some (.slice A l.length c)) := ⟨(blk_cell KXh.out 0).trans rfl⟩
        replace Z0 : Aside0 (w45.drew.cell? ⟨w.heap.size, 0, none⟩ = some (.slice A l.length c)) := ⟨Z0.out⟩
        replace HB := Aside0.mk (below_drew HB.out)
        replace KXh := Aside0.mk (blk_drew KXh.out)
        replace KXn := Aside0.mk (blk_drew KXn.out)
        replace HVl := Aside0.mk (Kd.V_drew HVl.out)
        replace HVn := Aside0.mk (Kd.V_drew HVn.out)
        replace HVc := Aside0.mk (Kd.V_drew HVc.out)
        replace KXc := Aside0.mk (blk_drew KXc.out)
        replace HVd := Aside0.mk (Kd.V_drew HVd.out)
        replace KXd := Aside0.mk (blk_drew KXd.out)
        refine start_ (n := 33) (S := fun w' => w'.cell? ⟨w.heap.size, 0, none⟩ = some (.slice A l.length c)) (ds := []) #[false, false, false, false, false, false, false, false, false, false, false, false, false, false, false, false, false, false, false, false, false, false, false, false, false, false, false, false, false, false, false, false, false] (by kernel_rfl) rfl rfl Z0.out (fun hHeld => ?_)
        refine with_tabW hBack.tab8 hBack.bits8 (fun HT_ HW_ => ?_)
        generalize w45.drew = wdv8 at Z0 HB KXh KXn HVl HVn HVc KXc HVd KXd hHeld ⊢
        refine pure_ (i := 0) (N := some 47) (v := ?_) (a' := ?_) #[true, false, false, false, false, false, false, false, false, false, false, false, false, false, false, false, false, false, false, false, false, false, false, false, false, false, false, false, false, false, false, false, false] rfl rfl (any_of HT_.out (by kernel_rfl)) (fun _ _ _ h => h) (Or.inl ⟨by rfl, ?_⟩) ?_ ?_
        rotate_left
        · intro w'
          go_simp
          with_reducible rfl
        rotate_left
        · simp only [Act.put, List.setIfInBounds_toArray, List.set_cons_zero, List.set_cons_succ, i64_w, i32_w]
          rfl
        refine pure_ (i := 1) (N := some 48) (v := ?_) (a' := ?_) #[true, true, false, false, false, false, false, false, false, false, false, false, false, false, false, false, false, false, false, false, false, false, false, false, false, false, false, false, false, false, false, false, false] rfl rfl (any_of HT_.out (by kernel_rfl)) (fun _ _ _ h => h) (Or.inl ⟨by rfl, ?_⟩) ?_ ?_
        rotate_left
        · intro w'
          go_simp
          with_reducible rfl
        rotate_left
        · simp only [Act.put, List.setIfInBounds_toArray, List.set_cons_zero, List.set_cons_succ, i64_w, i32_w]
          rfl
        refine pure_ (i := 2) (N := some 49) (v := ?_) (a' := ?_) #[true, true, true, false, false, false, false, false, false, false, false, false, false, false, false, false, false, false, false, false, false, false, false, false, false, false, false, false, false, false, false, false, false] rfl rfl (any_of HT_.out (by kernel_rfl)) (fun _ _ _ h => h) (Or.inl ⟨by rfl, ?_⟩) ?_ ?_
        rotate_left
        · intro w'
          go_simp
          with_reducible rfl
        rotate_left
        · simp only [Act.put, List.setIfInBounds_toArray, List.set_cons_zero, List.set_cons_succ, i64_w, i32_w]
          rfl
        refine pure_ (i := 3) (N := some 50) (v := undef) (a' := ?_) #[true, true, true, true, false, false, false, false, false, false, false, false, false, false, false, false, false, false, false, false, false, false, false, false, false, false, false, false, false, false, false, false, false] rfl rfl (any_of HT_.out (by kernel_rfl)) (fun _ _ _ h => h) (Or.inr ⟨by rfl, rfl⟩) ?_ ?_
        rotate_left
        · simp only [Act.put, List.setIfInBounds_toArray, List.set_cons_zero, List.set_cons_succ, i64_w, i32_w]
          rfl
        refine pure_ (i := 4) (N := some 51) (v := undef) (a' := ?_) #[true, true, true, true, true, false, false, false, false, false, false, false, false, false, false, false, false, false, false, false, false, false, false, false, false, false, false, false, false, false, false, false, false] rfl rfl (any_of HT_.out (by kernel_rfl)) (fun _ _ _ h => h) (Or.inr ⟨by rfl, rfl⟩) ?_ ?_
        rotate_left
        · simp only [Act.put, List.setIfInBounds_toArray, List.set_cons_zero, List.set_cons_succ, i64_w, i32_w]
          rfl
        refine pure_ (i := 5) (N := some 52) (v := undef) (a' := ?_) #[true, true, true, true, true, true, false, false, false, false, false, false, false, false, false, false, false, false, false, false, false, false, false, false, false, false, false, false, false, false, false, false, false] rfl rfl (any_of HT_.out (by kernel_rfl)) (fun _ _ _ h => h) (Or.inr ⟨by rfl, rfl⟩) ?_ ?_
        rotate_left
        · simp only [Act.put, List.setIfInBounds_toArray, List.set_cons_zero, List.set_cons_succ, i64_w, i32_w]
          rfl
        refine pure_ (i := 6) (N := some 53) (v := undef) (a' := ?_) #[true, true, true, true, true, true, true, false, false, false, false, false, false, false, false, false, false, false, false, false, false, false, false, false, false, false, false, false, false, false, false, false, false] rfl rfl (any_of HT_.out (by kernel_rfl)) (fun _ _ _ h => h) (Or.inr ⟨by rfl, rfl⟩) ?_ ?_
        rotate_left
        · simp only [Act.put, List.setIfInBounds_toArray, List.set_cons_zero, List.set_cons_succ, i64_w, i32_w]
          rfl
        refine pure_ (i := 7) (N := some 54) (v := undef) (a' := ?_) #[true, true, true, true, true, true, true, true, false, false, false, false, false, false, false, false, false, false, false, false, false, false, false, false, false, false, false, false, false, false, false, false, false] rfl rfl (any_of HT_.out (by kernel_rfl)) (fun _ _ _ h => h) (Or.inr ⟨by rfl, rfl⟩) ?_ ?_
        rotate_left
        · simp only [Act.put, List.setIfInBounds_toArray, List.set_cons_zero, List.set_cons_succ, i64_w, i32_w]
          rfl
        refine pure_ (i := 8) (N := some 55) (v := undef) (a' := ?_) #[true, true, true, true, true, true, true, true, true, false, false, false, false, false, false, false, false, false, false, false, false, false, false, false, false, false, false, false, false, false, false, false, false] rfl rfl (any_of HT_.out (by kernel_rfl)) (fun _ _ _ h => h) (Or.inr ⟨by rfl, rfl⟩) ?_ ?_
        rotate_left
        · simp only [Act.put, List.setIfInBounds_toArray, List.set_cons_zero, List.set_cons_succ, i64_w, i32_w]
          rfl
        refine pure_ (i := 9) (N := some 56) (v := undef) (a' := ?_) #[true, true, true, true, true, true, true, true, true, true, false, false, false, false, false, false, false, false, false, false, false, false, false, false, false, false, false, false, false, false, false, false, false] rfl rfl (any_of HT_.out (by kernel_rfl)) (fun _ _ _ h => h) (Or.inr ⟨by rfl, rfl⟩) ?_ ?_
        rotate_left
        · simp only [Act.put, List.setIfInBounds_toArray, List.set_cons_zero, List.set_cons_succ, i64_w, i32_w]
          rfl
        refine pure_ (i := 10) (N := some 57) (v := undef) (a' := ?_) #[true, true, true, true, true, true, true, true, true, true, true, false, false, false, false, false, false, false, false, false, false, false, false, false, false, false, false, false, false, false, false, false, false] rfl rfl (any_of HT_.out (by kernel_rfl)) (fun _ _ _ h => h) (Or.inr ⟨by rfl, rfl⟩) ?_ ?_
        rotate_left
        · simp only [Act.put, List.setIfInBounds_toArray, List.set_cons_zero, List.set_cons_succ, i64_w, i32_w]
          rfl
        refine pure_ (i := 11) (N := some 58) (v := undef) (a' := ?_) #[true, true, true, true, true, true, true, true, true, true, true, true, false, false, false, false, false, false, false, false, false, false, false, false, false, false, false, false, false, false, false, false, false] rfl rfl (any_of HT_.out (by kernel_rfl)) (fun _ _ _ h => h) (Or.inr ⟨by rfl, rfl⟩) ?_ ?_
        rotate_left
        · simp only [Act.put, List.setIfInBounds_toArray, List.set_cons_zero, List.set_cons_succ, i64_w, i32_w]
          rfl
        refine pure_ (i := 12) (N := some 59) (v := undef) (a' := ?_) #[true, true, true, true, true, true, true, true, true, true, true, true, true, false, false, false, false, false, false, false, false, false, false, false, false, false, false, false, false, false, false, false, false] rfl rfl (any_of HT_.out (by kernel_rfl)) (fun _ _ _ h => h) (Or.inr ⟨by rfl, rfl⟩) ?_ ?_
        rotate_left
        · simp only [Act.put, List.setIfInBounds_toArray, List.set_cons_zero, List.set_cons_succ, i64_w, i32_w]
          rfl
        refine pure_ (i := 13) (N := some 60) (v := undef) (a' := ?_) #[true, true, true, true, true, true, true, true, true, true, true, true, true, true, false, false, false, false, false, false, false, false, false, false, false, false, false, false, false, false, false, false, false] rfl rfl (any_of HT_.out (by kernel_rfl)) (fun _ _ _ h => h) (Or.inr ⟨by rfl, rfl⟩) ?_ ?_
        rotate_left
        · simp only [Act.put, List.setIfInBounds_toArray, List.set_cons_zero, List.set_cons_succ, i64_w, i32_w]
          rfl
        refine pure_ (i := 14) (N := some 61) (v := undef) (a' := ?_) #[true, true, true, true, true, true, true, true, true, true, true, true, true, true, true, false, false, false, false, false, false, false, false, false, false, false, false, false, false, false, false, false, false] rfl rfl (any_of HT_.out (by kernel_rfl)) (fun _ _ _ h => h) (Or.inr ⟨by rfl, rfl⟩) ?_ ?_
        rotate_left
        · simp only [Act.put, List.setIfInBounds_toArray, List.set_cons_zero, List.set_cons_succ, i64_w, i32_w]
          rfl
        refine pure_ (i := 15) (N := some 62) (v := undef) (a' := ?_) #[true, true, true, true, true, true, true, true, true, true, true, true, true, true, true, true, false, false, false, false, false, false, false, false, false, false, false, false, false, false, false, false, false] rfl rfl (any_of HT_.out (by kernel_rfl)) (fun _ _ _ h => h) (Or.inr ⟨by rfl, rfl⟩) ?_ ?_
        rotate_left
        · simp only [Act.put, List.setIfInBounds_toArray, List.set_cons_zero, List.set_cons_succ, i64_w, i32_w]
          rfl
        refine pure_ (i := 16) (N := some 63) (v := undef) (a' := ?_) #[true, true, true, true, true, true, true, true, true, true, true, true, true, true, true, true, true, false, false, false, false, false, false, false, false, false, false, false, false, false, false, false, false] rfl rfl (any_of HT_.out (by kernel_rfl)) (fun _ _ _ h => h) (Or.inr ⟨by rfl, rfl⟩) ?_ ?_
        rotate_left
        · simp only [Act.put, List.setIfInBounds_toArray, List.set_cons_zero, List.set_cons_succ, i64_w, i32_w]
          rfl
        refine pure_ (i := 17) (N := some 64) (v := undef) (a' := ?_) #[true, true, true, true, true, true, true, true, true, true, true, true, true, true, true, true, true, true, false, false, false, false, false, false, false, false, false, false, false, false, false, false, false] rfl rfl (any_of HT_.out (by kernel_rfl)) (fun _ _ _ h => h) (Or.inr ⟨by rfl, rfl⟩) ?_ ?_
        rotate_left
        · simp only [Act.put, List.setIfInBounds_toArray, List.set_cons_zero, List.set_cons_succ, i64_w, i32_w]
          rfl
        refine pure_ (i := 18) (N := some 65) (v := undef) (a' := ?_) #[true, true, true, true, true, true, true, true, true, true, true, true, true, true, true, true, true, true, true, false, false, false, false, false, false, false, false, false, false, false, false, false, false] rfl rfl (any_of HT_.out (by kernel_rfl)) (fun _ _ _ h => h) (Or.inr ⟨by rfl, rfl⟩) ?_ ?_
        rotate_left
        · simp only [Act.put, List.setIfInBounds_toArray, List.set_cons_zero, List.set_cons_succ, i64_w, i32_w]
          rfl
        refine pure_ (i := 19) (N := some 66) (v := undef) (a' := ?_) #[true, true, true, true, true, true, true, true, true, true, true, true, true, true, true, true, true, true, true, true, false, false, false, false, false, false, false, false, false, false, false, false, false] rfl rfl (any_of HT_.out (by kernel_rfl)) (fun _ _ _ h => h) (Or.inr ⟨by rfl, rfl⟩) ?_ ?_
        rotate_left
        · simp only [Act.put, List.setIfInBounds_toArray, List.set_cons_zero, List.set_cons_succ, i64_w, i32_w]
          rfl
        refine pure_ (i := 20) (N := some 67) (v := undef) (a' := ?_) #[true, true, true, true, true, true, true, true, true, true, true, true, true, true, true, true, true, true, true, true, true, false, false, false, false, false, false, false, false, false, false, false, false] rfl rfl (any_of HT_.out (by kernel_rfl)) (fun _ _ _ h => h) (Or.inr ⟨by rfl, rfl⟩) ?_ ?_
        rotate_left
        · simp only [Act.put, List.setIfInBounds_toArray, List.set_cons_zero, List.set_cons_succ, i64_w, i32_w]
          rfl
        refine pure_ (i := 21) (N := some 68) (v := undef) (a' := ?_) #[true, true, true, true, true, true, true, true, true, true, true, true, true, true, true, true, true, true, true, true, true, true, false, false, false, false, false, false, false, false, false, false, false] rfl rfl (any_of HT_.out (by kernel_rfl)) (fun _ _ _ h => h) (Or.inr ⟨by rfl, rfl⟩) ?_ ?_
        rotate_left
        · simp only [Act.put, List.setIfInBounds_toArray, List.set_cons_zero, List.set_cons_succ, i64_w, i32_w]
          rfl
        refine pure_ (i := 22) (N := some 69) (v := undef) (a' := ?_) #[true, true, true, true, true, true, true, true, true, true, true, true, true, true, true, true, true, true, true, true, true, true, true, false, false, false, false, false, false, false, false, false, false] rfl rfl (any_of HT_.out (by kernel_rfl)) (fun _ _ _ h => h) (Or.inr ⟨by rfl, rfl⟩) ?_ ?_
        rotate_left
        · simp only [Act.put, List.setIfInBounds_toArray, List.set_cons_zero, List.set_cons_succ, i64_w, i32_w]
          rfl
        refine pure_ (i := 23) (N := some 70) (v := undef) (a' := ?_) #[true, true, true, true, true, true, true, true, true, true, true, true, true, true, true, true, true, true, true, true, true, true, true, true, false, false, false, false, false, false, false, false, false] rfl rfl (any_of HT_.out (by kernel_rfl)) (fun _ _ _ h => h) (Or.inr ⟨by rfl, rfl⟩) ?_ ?_
        rotate_left
        · simp only [Act.put, List.setIfInBounds_toArray, List.set_cons_zero, List.set_cons_succ, i64_w, i32_w]
          rfl
        refine pure_ (i := 24) (N := some 71) (v := undef) (a' := ?_) #[true, true, true, true, true, true, true, true, true, true, true, true, true, true, true, true, true, true, true, true, true, true, true, true, true, false, false, false, false, false, false, false, false] rfl rfl (any_of HT_.out (by kernel_rfl)) (fun _ _ _ h => h) (Or.inr ⟨by rfl, rfl⟩) ?_ ?_
        rotate_left
        · simp only [Act.put, List.setIfInBounds_toArray, List.set_cons_zero, List.set_cons_succ, i64_w, i32_w]
          rfl
        refine pure_ (i := 25) (N := some 72) (v := undef) (a' := ?_) #[true, true, true, true, true, true, true, true, true, true, true, true, true, true, true, true, true, true, true, true, true, true, true, true, true, true, false, false, false, false, false, false, false] rfl rfl (any_of HT_.out (by kernel_rfl)) (fun _ _ _ h => h) (Or.inr ⟨by rfl, rfl⟩) ?_ ?_
        rotate_left
        · simp only [Act.put, List.setIfInBounds_toArray, List.set_cons_zero, List.set_cons_succ, i64_w, i32_w]
          rfl
        refine pure_ (i := 26) (N := some 73) (v := undef) (a' := ?_) #[true, true, true, true, true, true, true, true, true, true, true, true, true, true, true, true, true, true, true, true, true, true, true, true, true, true, true, false, false, false, false, false, false] rfl rfl (any_of HT_.out (by kernel_rfl)) (fun _ _ _ h => h) (Or.inr ⟨by rfl, rfl⟩) ?_ ?_
        rotate_left
        · simp only [Act.put, List.setIfInBounds_toArray, List.set_cons_zero, List.set_cons_succ, i64_w, i32_w]
          rfl
        refine pure_ (i := 27) (N := some 74) (v := undef) (a' := ?_) #[true, true, true, true, true, true, true, true, true, true, true, true, true, true, true, true, true, true, true, true, true, true, true, true, true, true, true, true, false, false, false, false, false] rfl rfl (any_of HT_.out (by kernel_rfl)) (fun _ _ _ h => h) (Or.inr ⟨by rfl, rfl⟩) ?_ ?_
        rotate_left
        · simp only [Act.put, List.setIfInBounds_toArray, List.set_cons_zero, List.set_cons_succ, i64_w, i32_w]
          rfl
        refine pure_ (i := 28) (N := some 75) (v := undef) (a' := ?_) #[true, true, true, true, true, true, true, true, true, true, true, true, true, true, true, true, true, true, true, true, true, true, true, true, true, true, true, true, true, false, false, false, false] rfl rfl (any_of HT_.out (by kernel_rfl)) (fun _ _ _ h => h) (Or.inr ⟨by rfl, rfl⟩) ?_ ?_
        rotate_left
        · simp only [Act.put, List.setIfInBounds_toArray, List.set_cons_zero, List.set_cons_succ, i64_w, i32_w]
          rfl
        refine pure_ (i := 29) (N := some 76) (v := undef) (a' := ?_) #[true, true, true, true, true, true, true, true, true, true, true, true, true, true, true, true, true, true, true, true, true, true, true, true, true, true, true, true, true, true, false, false, false] rfl rfl (any_of HT_.out (by kernel_rfl)) (fun _ _ _ h => h) (Or.inr ⟨by rfl, rfl⟩) ?_ ?_
        rotate_left
        · simp only [Act.put, List.setIfInBounds_toArray, List.set_cons_zero, List.set_cons_succ, i64_w, i32_w]
          rfl
        refine pure_ (i := 30) (N := some 77) (v := undef) (a' := ?_) #[true, true, true, true, true, true, true, true, true, true, true, true, true, true, true, true, true, true, true, true, true, true, true, true, true, true, true, true, true, true, true, false, false] rfl rfl (any_of HT_.out (by kernel_rfl)) (fun _ _ _ h => h) (Or.inr ⟨by rfl, rfl⟩) ?_ ?_
        rotate_left
        · simp only [Act.put, List.setIfInBounds_toArray, List.set_cons_zero, List.set_cons_succ, i64_w, i32_w]
          rfl
        refine pure_ (i := 31) (N := some 78) (v := undef) (a' := ?_) #[true, true, true, true, true, true, true, true, true, true, true, true, true, true, true, true, true, true, true, true, true, true, true, true, true, true, true, true, true, true, true, true, false] rfl rfl (any_of HT_.out (by kernel_rfl)) (fun _ _ _ h => h) (Or.inr ⟨by rfl, rfl⟩) ?_ ?_
        rotate_left
        · simp only [Act.put, List.setIfInBounds_toArray, List.set_cons_zero, List.set_cons_succ, i64_w, i32_w]
          rfl
        refine pure_ (i := 32) (N := some 79) (v := ?_) (a' := ?_) #[true, true, true, true, true, true, true, true, true, true, true, true, true, true, true, true, true, true, true, true, true, true, true, true, true, true, true, true, true, true, true, true, true] rfl rfl (any_of HT_.out (by kernel_rfl)) (fun _ _ _ h => h) (Or.inl ⟨by rfl, ?_⟩) ?_ ?_
        rotate_left
        · intro w'
          go_simp
          with_reducible rfl
        rotate_left
        · simp only [Act.put, List.setIfInBounds_toArray, List.set_cons_zero, List.set_cons_succ, i64_w, i32_w]
          rfl
        refine done_ (done_of HT_.out (by kernel_rfl)) ?_
        clear hHeld HT_ HW_
        clear Z0
        clear KXc KXd HVc HVd
        have xh_0 : wdv8.cell? ⟨w.heap.size, 0, none⟩ = some (.slice A l.length c) := (blk_cell KXh.out 0).trans rfl
        have xh_1 : wdv8.cell? ⟨w.heap.size, 1, none⟩ = some (.int .i64 kp) := (blk_cell KXh.out 1).trans rfl
        have lh : w.heap.size < wdv8.heap.size := blk_lt KXh.out
        have xn_0 : wdv8.cell? ⟨w.heap.size + 1, 0, none⟩ = some (.bool leaf) := (blk_cell KXn.out 0).trans rfl
        have xn_1 : wdv8.cell? ⟨w.heap.size + 1, 1, none⟩ = some (.slice A1 it.length c1) := (blk_cell KXn.out 1).trans rfl
        have ln : w.heap.size + 1 < wdv8.heap.size := blk_lt KXn.out
        go_wp2_with fail
        clear xh_0 xh_1 lh xn_0 xn_1 ln
        rcases back_alloc l kp leaf it hl60 hit h1.2.1 h1.2.2 with ⟨code, hcode, hal⟩ | ⟨l', l2, ad, hal, hlen, had, hrd', hR', hfr, hi2, hfa, hfb, hus, hlo, hl2, hpin, hset⟩
        · refine (heap_Alloc.calls (fun _ => True) A c l kp leaf (fun _ => True) A1 c1 it none 0 [] l kp 0 code wdv8 (V_base (Kd.V_mono HVl.out (fun _ _ => trivial))) (V_base (Kd.V_mono HVn.out (fun _ _ => trivial))) (Kd.C_nil _ _) (Nat.le_refl _) hal).mono ?_
          rintro e w46 ⟨v_, rfl, hv, hb⟩
          obtain ⟨Aa, ca, ev⟩ := Kd.V_slice hv
          subst ev
          replace HB := Aside0.mk (HB.out.trans (hb.mono HB.out.size))
          replace KXh := Aside0.mk (blk_below KXh.out hb)
          replace KXn := Aside0.mk (blk_below KXn.out hb)
          replace HVl := Aside0.mk (Kd.V_below HVl.out hb)
          replace HVn := Aside0.mk (Kd.V_below HVn.out hb)
          have HVa : Aside0 (Kd.V k55 55 w46 0 (fun _ => True) (.slice Aa l.length ca) l) := ⟨V_base (Kd.V_mono hv (fun _ _ => trivial))⟩
          clear hv hb hal
          have HSM : Aside0 (assartref05_Same.f 10000 l kp l kp = some true) := ⟨by rw [refSame_val l l kp kp (by omega) (fun x hx => by have := hi1 x hx; omega) (by omega)]; simp⟩
          rcases hcode with rfl | ⟨rfl, hfree⟩
          · have xh_0 : w46.cell? ⟨w.heap.size, 0, none⟩ = some (.slice A l.length c) := (blk_cell KXh.out 0).trans rfl
            have xh_1 : w46.cell? ⟨w.heap.size, 1, none⟩ = some (.int .i64 kp) := (blk_cell KXh.out 1).trans rfl
            have lh : w.heap.size < w46.heap.size := blk_lt KXh.out
            have xn_0 : w46.cell? ⟨w.heap.size + 1, 0, none⟩ = some (.bool leaf) := (blk_cell KXn.out 0).trans rfl
            have xn_1 : w46.cell? ⟨w.heap.size + 1, 1, none⟩ = some (.slice A1 it.length c1) := (blk_cell KXn.out 1).trans rfl
            have ln : w.heap.size + 1 < w46.heap.size := blk_lt KXn.out
            go_wp2_with fail
            clear xh_0 xh_1 lh xn_0 xn_1 ln
            have hpre : Below w46.heap.size w46 (w46.alloc (.cells #[.slice Aa l.length ca, .int .i64 kp] 24)) := (Below.refl w46.heap.size w46).alloc (Nat.le_refl _) _
            replace HB := Aside0.mk (HB.out.trans (hpre.mono HB.out.size))
            replace KXh := Aside0.mk (blk_below KXh.out hpre)
            replace KXn := Aside0.mk (blk_below KXn.out hpre)
            replace HVl := Aside0.mk (Kd.V_below HVl.out hpre)
            replace HVn := Aside0.mk (Kd.V_below HVn.out hpre)
            replace HVa := Aside0.mk (Kd.V_below HVa.out hpre)
            have KXa : Aside0 ((w46.alloc (.cells #[.slice Aa l.length ca, .int .i64 kp] 24)).heap[w46.heap.size]? = some (.cells #[.slice Aa l.length ca, .int .i64 kp] 24 (0, 0))) := ⟨alloc_new w46 _⟩
            clear hpre
            obtain ⟨w47, hw_⟩ : ∃ w_, (w46.alloc (.cells #[.slice Aa l.length ca, .int .i64 kp] 24)) = w_ := ⟨_, rfl⟩
            rw [hw_]
            rw [hw_] at HB KXh KXn HVl HVn HVa KXa
            clear hw_
            refine (assartref05_Same.calls 10000 Aa ca l kp A c l kp true w47 (Kd.V_reads' HVa.out).2.2 (Kd.V_reads' HVa.out).2.1 (Kd.V_reads' HVl.out).2.2 (Kd.V_reads' HVl.out).2.1 HSM.out).mono ?_
            rintro e w48 ⟨rfl, hb⟩
            replace HB := Aside0.mk (HB.out.trans (hb.mono HB.out.size))
            replace KXh := Aside0.mk (blk_below KXh.out hb)
            replace KXn := Aside0.mk (blk_below KXn.out hb)
            replace HVl := Aside0.mk (Kd.V_below HVl.out hb)
            replace HVn := Aside0.mk (Kd.V_below HVn.out hb)
            replace HVa := Aside0.mk (Kd.V_below HVa.out hb)
            replace KXa := Aside0.mk (blk_below KXa.out hb)
            go_wp2
            go_ret
            exact ⟨rfl, HB.out⟩
          · have xh_0 : w46.cell? ⟨w.heap.size, 0, none⟩ = some (.slice A l.length c) := (blk_cell KXh.out 0).trans rfl
            have xh_1 : w46.cell? ⟨w.heap.size, 1, none⟩ = some (.int .i64 kp) := (blk_cell KXh.out 1).trans rfl
            have lh : w.heap.size < w46.heap.size := blk_lt KXh.out
            have xn_0 : w46.cell? ⟨w.heap.size + 1, 0, none⟩ = some (.bool leaf) := (blk_cell KXn.out 0).trans rfl
            have xn_1 : w46.cell? ⟨w.heap.size + 1, 1, none⟩ = some (.slice A1 it.length c1) := (blk_cell KXn.out 1).trans rfl
            have ln : w.heap.size + 1 < w46.heap.size := blk_lt KXn.out
            go_wp2_with fail
            clear xh_0 xh_1 lh xn_0 xn_1 ln
            have hpre : Below w46.heap.size w46 (w46.alloc (.cells #[.slice Aa l.length ca, .int .i64 kp] 24)) := (Below.refl w46.heap.size w46).alloc (Nat.le_refl _) _
            replace HB := Aside0.mk (HB.out.trans (hpre.mono HB.out.size))
            replace KXh := Aside0.mk (blk_below KXh.out hpre)
            replace KXn := Aside0.mk (blk_below KXn.out hpre)
            replace HVl := Aside0.mk (Kd.V_below HVl.out hpre)
            replace HVn := Aside0.mk (Kd.V_below HVn.out hpre)
            replace HVa := Aside0.mk (Kd.V_below HVa.out hpre)
            have KXa : Aside0 ((w46.alloc (.cells #[.slice Aa l.length ca, .int .i64 kp] 24)).heap[w46.heap.size]? = some (.cells #[.slice Aa l.length ca, .int .i64 kp] 24 (0, 0))) := ⟨alloc_new w46 _⟩
            clear hpre
            obtain ⟨w47, hw_⟩ : ∃ w_, (w46.alloc (.cells #[.slice Aa l.length ca, .int .i64 kp] 24)) = w_ := ⟨_, rfl⟩
            rw [hw_]
            rw [hw_] at HB KXh KXn HVl HVn HVa KXa
            clear hw_
            refine (assartref05_Same.calls 10000 Aa ca l kp A c l kp true w47 (Kd.V_reads' HVa.out).2.2 (Kd.V_reads' HVa.out).2.1 (Kd.V_reads' HVl.out).2.2 (Kd.V_reads' HVl.out).2.1 HSM.out).mono ?_
            rintro e w48 ⟨rfl, hb⟩
            replace HB := Aside0.mk (HB.out.trans (hb.mono HB.out.size))
            replace KXh := Aside0.mk (blk_below KXh.out hb)
            replace KXn := Aside0.mk (blk_below KXn.out hb)
            replace HVl := Aside0.mk (Kd.V_below HVl.out hb)
            replace HVn := Aside0.mk (Kd.V_below HVn.out hb)
            replace HVa := Aside0.mk (Kd.V_below HVa.out hb)
            replace KXa := Aside0.mk (blk_below KXa.out hb)
            have xh_0 : w48.cell? ⟨w.heap.size, 0, none⟩ = some (.slice A l.length c) := (blk_cell KXh.out 0).trans rfl
            have xh_1 : w48.cell? ⟨w.heap.size, 1, none⟩ = some (.int .i64 kp) := (blk_cell KXh.out 1).trans rfl
            have lh : w.heap.size < w48.heap.size := blk_lt KXh.out
            go_wp2_with fail
            clear xh_0 xh_1 lh
            refine (assartref05_Free.calls 10000 A c l kp 0 w48 (Kd.V_reads' HVl.out).2.2 (Kd.V_reads' HVl.out).2.1 (by rw [refFree_val l kp (by omega) (by omega), hfree]; rfl)).mono ?_
            rintro e w49 ⟨rfl, hb⟩
            replace HB := Aside0.mk (HB.out.trans (hb.mono HB.out.size))
            replace KXh := Aside0.mk (blk_below KXh.out hb)
            replace KXn := Aside0.mk (blk_below KXn.out hb)
            replace HVl := Aside0.mk (Kd.V_below HVl.out hb)
            replace HVn := Aside0.mk (Kd.V_below HVn.out hb)
            replace HVa := Aside0.mk (Kd.V_below HVa.out hb)
            replace KXa := Aside0.mk (blk_below KXa.out hb)
            go_wp2
            go_ret
            exact ⟨rfl, HB.out⟩
        · have HLEN := Aside0.mk hlen
          clear hlen
          refine (heap_Alloc.calls (fun _ => True) A c l kp leaf (fun _ => True) A1 c1 it none 0 [] l' kp (ad : Int) 0 wdv8 (V_base (Kd.V_mono HVl.out (fun _ _ => trivial))) (V_base (Kd.V_mono HVn.out (fun _ _ => trivial))) (Kd.C_nil _ _) (Nat.le_refl _) hal).mono ?_
          rintro e w50 ⟨v_, rfl, hv, hb⟩
          obtain ⟨Aa, ca, ev⟩ := Kd.V_slice hv
          subst ev
          replace HB := Aside0.mk (HB.out.trans (hb.mono HB.out.size))
          replace KXh := Aside0.mk (blk_below KXh.out hb)
          replace KXn := Aside0.mk (blk_below KXn.out hb)
          replace HVl := Aside0.mk (Kd.V_below HVl.out hb)
          replace HVn := Aside0.mk (Kd.V_below HVn.out hb)
          have HVa : Aside0 (Kd.V k55 55 w50 0 (fun _ => True) (.slice Aa l'.length ca) l') := ⟨V_base (Kd.V_mono hv (fun _ _ => trivial))⟩
          clear hv hb hal
          have xh_0 : w50.cell? ⟨w.heap.size, 0, none⟩ = some (.slice A l.length c) := (blk_cell KXh.out 0).trans rfl
          have xh_1 : w50.cell? ⟨w.heap.size, 1, none⟩ = some (.int .i64 kp) := (blk_cell KXh.out 1).trans rfl
          have lh : w.heap.size < w50.heap.size := blk_lt KXh.out
          have xn_0 : w50.cell? ⟨w.heap.size + 1, 0, none⟩ = some (.bool leaf) := (blk_cell KXn.out 0).trans rfl
          have xn_1 : w50.cell? ⟨w.heap.size + 1, 1, none⟩ = some (.slice A1 it.length c1) := (blk_cell KXn.out 1).trans rfl
          have ln : w.heap.size + 1 < w50.heap.size := blk_lt KXn.out
          go_wp2_with fail
          clear xh_0 xh_1 lh xn_0 xn_1 ln
          have hpre : Below w50.heap.size w50 (w50.alloc (.cells #[.slice Aa l'.length ca, .int .i64 kp] 24)) := (Below.refl w50.heap.size w50).alloc (Nat.le_refl _) _
          replace HB := Aside0.mk (HB.out.trans (hpre.mono HB.out.size))
          replace KXh := Aside0.mk (blk_below KXh.out hpre)
          replace KXn := Aside0.mk (blk_below KXn.out hpre)
          replace HVl := Aside0.mk (Kd.V_below HVl.out hpre)
          replace HVn := Aside0.mk (Kd.V_below HVn.out hpre)
          replace HVa := Aside0.mk (Kd.V_below HVa.out hpre)
          have KXa : Aside0 ((w50.alloc (.cells #[.slice Aa l'.length ca, .int .i64 kp] 24)).heap[w50.heap.size]? = some (.cells #[.slice Aa l'.length ca, .int .i64 kp] 24 (0, 0))) := ⟨alloc_new w50 _⟩
          clear hpre
          obtain ⟨w51, hw_⟩ : ∃ w_, (w50.alloc (.cells #[.slice Aa l'.length ca, .int .i64 kp] 24)) = w_ := ⟨_, rfl⟩
          rw [hw_]
          rw [hw_] at HB KXh KXn HVl HVn HVa KXa
          clear hw_
          obtain ⟨ax, A_', c_', e2, -⟩ := at_T55 (Kd.V_reads' HVl.out).2.2 (ad : Int) (by omega) (by omega)
          cases e2
          obtain ⟨aa, Ai, ci, e3, y0, y1, y2, y3, hli, hci⟩ := at_T55 (Kd.V_reads' HVa.out).2.2 (ad : Int) (by omega) (by have := HLEN.out; omega)
          cases e3
          rw [Int.toNat_natCast, hrd'] at y0 y2 y3
          rw [hrd'] at hli hci
          clear y1
          have HCI := Aside0.mk hci
          have HLI := Aside0.mk hli
          clear hci hli
          have Z0 : Aside0 (w51.cell? ⟨w.heap.size, 0, none⟩ = some (.slice (some ax) l.length c)) := ⟨(blk_cell KXh.out 0).trans rfl⟩
          have Z1 : Aside0 (w51.cell? ⟨w.heap.size, 1, none⟩ = some (.int .i64 kp)) := ⟨(blk_cell KXh.out 1).trans rfl⟩
          have Z2 : Aside0 (w51.cell? ⟨w50.heap.size, 0, none⟩ = some (.slice (some aa) l'.length ca)) := ⟨(blk_cell KXa.out 0).trans rfl⟩
          have Z3 : Aside0 (w51.cell? ⟨w50.heap.size, 1, none⟩ = some (.int .i64 kp)) := ⟨(blk_cell KXa.out 1).trans rfl⟩
          have Z4 : Aside0 (w51.cell? ⟨w.heap.size + 1, 0, none⟩ = some (.bool leaf)) := ⟨(blk_cell KXn.out 0).trans rfl⟩
          have Z5 : Aside0 (w51.cell? ⟨w.heap.size + 1, 1, none⟩ = some (.slice A1 it.length c1)) := ⟨(blk_cell KXn.out 1).trans rfl⟩
          have Z6 : Aside0 (w51.cell? (aa.add (ad * 4)) = some (.int .i64 1)) := ⟨y0⟩
          have Z7 : Aside0 (w51.cell? ⟨(aa.add (ad * 4)).block, (aa.add (ad * 4)).off + 2, none⟩ = some (.bool leaf)) := ⟨y2⟩
          have Z8 : Aside0 (w51.cell? ⟨(aa.add (ad * 4)).block, (aa.add (ad * 4)).off + 3, none⟩ = some (.slice Ai it.length ci)) := ⟨y3⟩
          clear y0 y2 y3
          have p1 : (ad : Int) < (l'.length : Int) := by have := HLEN.out; omega
          replace p1 := eq_true p1
          have p2 : decide ((l.length : Int) ≤ (ad : Int)) = false := decide_eq_false (by omega)
          have p3 : (l.length ≤ ad) = False := eq_false (by omega)
          have HLN : Aside0 (((l'.length : Int) != (l.length : Int)) = false) := ⟨by rw [HLEN.out]; exact bne_self_eq_false _⟩
          have HNE2 := Aside0.mk (back_ne2 (freeN l') (freeN l) hfr (by have := freeN_le l; omega))
          have HRF : Aside0 (assartref05_Right.f 10000 l' kp = some true) := ⟨by rw [right05_val l' kp 10000 (.inl (by omega)), decide_eq_true hR']⟩
          have HSN : Aside0 (assartref04_Same.f 10000 leaf it leaf it = some true) := ⟨by rw [refSame04_val' 10000 leaf leaf it it (by omega) (by omega)]; simp⟩
          have HFA : Aside0 (assartref05_Free.f 10000 l' kp = some (freeN l' : Int)) := ⟨refFree_val l' kp (by have := HLEN.out; omega) (by have := HLEN.out; omega)⟩
          have HFL : Aside0 (assartref05_Free.f 10000 l kp = some (freeN l : Int)) := ⟨refFree_val l kp (by omega) (by omega)⟩
          clear hfr hR' hrd'
          replace Z0 : Aside0 (w51.drew.cell? ⟨w.heap.size, 0, none⟩ = some (.slice (some ax) l.length c)) := ⟨Z0.out⟩
          replace Z1 : Aside0 (w51.drew.cell? ⟨w.heap.size, 1, none⟩ = some (.int .i64 kp)) := ⟨Z1.out⟩
          replace Z2 : Aside0 (w51.drew.cell? ⟨w50.heap.size, 0, none⟩ = some (.slice (some aa) l'.length ca)) := ⟨Z2.out⟩
          replace Z3 : Aside0 (w51.drew.cell? ⟨w50.heap.size, 1, none⟩ = some (.int .i64 kp)) := ⟨Z3.out⟩
          replace Z4 : Aside0 (w51.drew.cell? ⟨w.heap.size + 1, 0, none⟩ = some (.bool leaf)) := ⟨Z4.out⟩
          replace Z5 : Aside0 (w51.drew.cell? ⟨w.heap.size + 1, 1, none⟩ = some (.slice A1 it.length c1)) := ⟨Z5.out⟩
          replace Z6 : Aside0 (w51.drew.cell? (aa.add (ad * 4)) = some (.int .i64 1)) := ⟨Z6.out⟩
          replace Z7 : Aside0 (w51.drew.cell? ⟨(aa.add (ad * 4)).block, (aa.add (ad * 4)).off + 2, none⟩ = some (.bool leaf)) := ⟨Z7.out⟩
          replace Z8 : Aside0 (w51.drew.cell? ⟨(aa.add (ad * 4)).block, (aa.add (ad * 4)).off + 3, none⟩ = some (.slice Ai it.length ci)) := ⟨Z8.out⟩
          replace HB := Aside0.mk (below_drew HB.out)
          replace KXh := Aside0.mk (blk_drew KXh.out)
          replace KXn := Aside0.mk (blk_drew KXn.out)
          replace HVl := Aside0.mk (Kd.V_drew HVl.out)
          replace HVn := Aside0.mk (Kd.V_drew HVn.out)
          replace HVa := Aside0.mk (Kd.V_drew HVa.out)
          replace KXa := Aside0.mk (blk_drew KXa.out)
          replace HCI := Aside0.mk (Kd.C_drew HCI.out)
          refine start_ (n := 51) (S := fun w' => w'.cell? ⟨w.heap.size, 0, none⟩ = some (.slice (some ax) l.length c) ∧ w'.cell? ⟨w.heap.size, 1, none⟩ = some (.int .i64 kp) ∧ w'.cell? ⟨w50.heap.size, 0, none⟩ = some (.slice (some aa) l'.length ca) ∧ w'.cell? ⟨w50.heap.size, 1, none⟩ = some (.int .i64 kp) ∧ w'.cell? ⟨w.heap.size + 1, 0, none⟩ = some (.bool leaf) ∧ w'.cell? ⟨w.heap.size + 1, 1, none⟩ = some (.slice A1 it.length c1) ∧ w'.cell? (aa.add (ad * 4)) = some (.int .i64 1) ∧ w'.cell? ⟨(aa.add (ad * 4)).block, (aa.add (ad * 4)).off + 2, none⟩ = some (.bool leaf) ∧ w'.cell? ⟨(aa.add (ad * 4)).block, (aa.add (ad * 4)).off + 3, none⟩ = some (.slice Ai it.length ci)) (ds := []) #[false, false, false, false, false, false, false, false, false, false, false, false, false, false, false, false, false, false, false, false, false, false, false, false, false, false, false, false, false, false, false, false, false, false, false, false, false, false, false, false, false, false, false, false, false, false, false, false, false, false, false] (by kernel_rfl) rfl rfl ⟨Z0.out, Z1.out, Z2.out, Z3.out, Z4.out, Z5.out, Z6.out, Z7.out, Z8.out⟩ (fun hHeld => ?_)
          refine with_tabW hBack.tab13 hBack.bits13 (fun HT_ HW_ => ?_)
          generalize w51.drew = wdb13 at Z0 Z1 Z2 Z3 Z4 Z5 Z6 Z7 Z8 HB KXh KXn HVl HVn HVa KXa HCI hHeld ⊢
          refine pure_ (i := 0) (N := some 108) (v := ?_) (a' := ?_) #[true, false, false, false, false, false, false, false, false, false, false, false, false, false, false, false, false, false, false, false, false, false, false, false, false, false, false, false, false, false, false, false, false, false, false, false, false, false, false, false, false, false, false, false, false, false, false, false, false, false, false] rfl rfl (any_of HT_.out (by kernel_rfl)) (fun _ _ _ h => h) (Or.inl ⟨by rfl, ?_⟩) ?_ ?_
          rotate_left
          · intro w'
            go_simp
            with_reducible rfl
          rotate_left
          · simp only [Act.put, List.setIfInBounds_toArray, List.set_cons_zero, List.set_cons_succ, i64_w, i32_w]
            rfl
          refine pure_ (i := 1) (N := some 109) (v := ?_) (a' := ?_) #[true, true, false, false, false, false, false, false, false, false, false, false, false, false, false, false, false, false, false, false, false, false, false, false, false, false, false, false, false, false, false, false, false, false, false, false, false, false, false, false, false, false, false, false, false, false, false, false, false, false, false] rfl rfl (any_of HT_.out (by kernel_rfl)) (fun _ _ _ h => h) (Or.inl ⟨by rfl, ?_⟩) ?_ ?_
          rotate_left
          · intro w'
            go_simp
            with_reducible rfl
          rotate_left
          · simp only [Act.put, List.setIfInBounds_toArray, List.set_cons_zero, List.set_cons_succ, i64_w, i32_w]
            rfl
          refine pure_ (i := 2) (N := some 110) (v := ?_) (a' := ?_) #[true, true, true, false, false, false, false, false, false, false, false, false, false, false, false, false, false, false, false, false, false, false, false, false, false, false, false, false, false, false, false, false, false, false, false, false, false, false, false, false, false, false, false, false, false, false, false, false, false, false, false] rfl rfl (any_of HT_.out (by kernel_rfl)) (fun _ _ _ h => h) (Or.inl ⟨by rfl, ?_⟩) ?_ ?_
          rotate_left
          · intro w'
            go_simp
            with_reducible rfl
          rotate_left
          · simp only [Act.put, List.setIfInBounds_toArray, List.set_cons_zero, List.set_cons_succ, i64_w, i32_w]
            rfl
          refine pure_ (i := 3) (N := some 111) (v := ?_) (a' := ?_) #[true, true, true, true, false, false, false, false, false, false, false, false, false, false, false, false, false, false, false, false, false, false, false, false, false, false, false, false, false, false, false, false, false, false, false, false, false, false, false, false, false, false, false, false, false, false, false, false, false, false, false] rfl rfl (any_of HT_.out (by kernel_rfl)) (fun _ _ _ h => h) (Or.inl ⟨by rfl, ?_⟩) ?_ ?_
          rotate_left
          · intro w'
            go_simp
            with_reducible rfl
          rotate_left
          · simp only [Act.put, List.setIfInBounds_toArray, List.set_cons_zero, List.set_cons_succ, i64_w, i32_w]
            rfl
          refine pure_ (i := 4) (N := some 112) (v := ?_) (a' := ?_) #[true, true, true, true, true, false, false, false, false, false, false, false, false, false, false, false, false, false, false, false, false, false, false, false, false, false, false, false, false, false, false, false, false, false, false, false, false, false, false, false, false, false, false, false, false, false, false, false, false, false, false] rfl rfl (any_of HT_.out (by kernel_rfl)) (fun _ _ _ h => h) (Or.inl ⟨by rfl, ?_⟩) ?_ ?_
          rotate_left
          · intro w'
            go_simp
            with_reducible rfl
          rotate_left
          · simp only [Act.put, List.setIfInBounds_toArray, List.set_cons_zero, List.set_cons_succ, i64_w, i32_w]
            rfl
          refine take_ (i := 5) (N := some 113) (v := ?_) (a' := ?_) #[true, true, true, true, true, true, false, false, false, false, false, false, false, false, false, false, false, false, false, false, false, false, false, false, false, false, false, false, false, false, false, false, false, false, false, false, false, false, false, false, false, false, false, false, false, false, false, false, false, false, false] rfl rfl (take_ofW HT_.out HW_.out (by kernel_rfl)) (fun _ _ _ h => h) (Or.inl ⟨by rfl, ?_⟩) hHeld ?_ ?_
          rotate_left
          · rintro w' ⟨s0, s1, s2, s3, s4, s5, s6, s7, s8⟩
            go_simp
            with_reducible rfl
          rotate_left
          · simp only [Act.put, List.setIfInBounds_toArray, List.set_cons_zero, List.set_cons_succ, i64_w, i32_w]
            rfl
          refine pure_ (i := 6) (N := some 114) (v := ?_) (a' := ?_) #[true, true, true, true, true, true, true, false, false, false, false, false, false, false, false, false, false, false, false, false, false, false, false, false, false, false, false, false, false, false, false, false, false, false, false, false, false, false, false, false, false, false, false, false, false, false, false, false, false, false, false] rfl rfl (any_of HT_.out (by kernel_rfl)) (fun _ _ _ h => h) (Or.inl ⟨by rfl, ?_⟩) ?_ ?_
          rotate_left
          · intro w'
            go_simp
            with_reducible rfl
          rotate_left
          · simp only [Act.put, List.setIfInBounds_toArray, List.set_cons_zero, List.set_cons_succ, i64_w, i32_w]
            rfl
          refine pure_ (i := 7) (N := some 115) (v := ?_) (a' := ?_) #[true, true, true, true, true, true, true, true, false, false, false, false, false, false, false, false, false, false, false, false, false, false, false, false, false, false, false, false, false, false, false, false, false, false, false, false, false, false, false, false, false, false, false, false, false, false, false, false, false, false, false] rfl rfl (any_of HT_.out (by kernel_rfl)) (fun _ _ _ h => h) (Or.inl ⟨by rfl, ?_⟩) ?_ ?_
          rotate_left
          · intro w'
            go_simp
            with_reducible rfl
          rotate_left
          · simp only [Act.put, List.setIfInBounds_toArray, List.set_cons_zero, List.set_cons_succ, i64_w, i32_w]
            rfl
          refine pure_ (i := 8) (N := some 116) (v := ?_) (a' := ?_) #[true, true, true, true, true, true, true, true, true, false, false, false, false, false, false, false, false, false, false, false, false, false, false, false, false, false, false, false, false, false, false, false, false, false, false, false, false, false, false, false, false, false, false, false, false, false, false, false, false, false, false] rfl rfl (any_of HT_.out (by kernel_rfl)) (fun _ _ _ h => h) (Or.inl ⟨by rfl, ?_⟩) ?_ ?_
          rotate_left
          · intro w'
            go_simp
            with_reducible rfl
          rotate_left
          · simp only [Act.put, List.setIfInBounds_toArray, List.set_cons_zero, List.set_cons_succ, i64_w, i32_w]
            rfl
          refine pure_ (i := 9) (N := some 117) (v := ?_) (a' := ?_) #[true, true, true, true, true, true, true, true, true, true, false, false, false, false, false, false, false, false, false, false, false, false, false, false, false, false, false, false, false, false, false, false, false, false, false, false, false, false, false, false, false, false, false, false, false, false, false, false, false, false, false] rfl rfl (any_of HT_.out (by kernel_rfl)) (fun _ _ _ h => h) (Or.inl ⟨by rfl, ?_⟩) ?_ ?_
          rotate_left
          · intro w'
            go_simp
            with_reducible rfl
          rotate_left
          · simp only [Act.put, List.setIfInBounds_toArray, List.set_cons_zero, List.set_cons_succ, i64_w, i32_w]
            rfl
          refine pure_ (i := 10) (N := some 118) (v := ?_) (a' := ?_) #[true, true, true, true, true, true, true, true, true, true, true, false, false, false, false, false, false, false, false, false, false, false, false, false, false, false, false, false, false, false, false, false, false, false, false, false, false, false, false, false, false, false, false, false, false, false, false, false, false, false, false] rfl rfl (any_of HT_.out (by kernel_rfl)) (fun _ _ _ h => h) (Or.inl ⟨by rfl, ?_⟩) ?_ ?_
          rotate_left
          · intro w'
            go_simp
            with_reducible rfl
          rotate_left
          · simp only [Act.put, List.setIfInBounds_toArray, List.set_cons_zero, List.set_cons_succ, i64_w, i32_w]
            rfl
          refine take_ (i := 11) (N := some 119) (v := ?_) (a' := ?_) #[true, true, true, true, true, true, true, true, true, true, true, true, false, false, false, false, false, false, false, false, false, false, false, false, false, false, false, false, false, false, false, false, false, false, false, false, false, false, false, false, false, false, false, false, false, false, false, false, false, false, false] rfl rfl (take_ofW HT_.out HW_.out (by kernel_rfl)) (fun _ _ _ h => h) (Or.inl ⟨by rfl, ?_⟩) hHeld ?_ ?_
          rotate_left
          · rintro w' ⟨s0, s1, s2, s3, s4, s5, s6, s7, s8⟩
            go_simp
            with_reducible rfl
          rotate_left
          · simp only [Act.put, List.setIfInBounds_toArray, List.set_cons_zero, List.set_cons_succ, i64_w, i32_w]
            rfl
          refine pure_ (i := 12) (N := some 120) (v := ?_) (a' := ?_) #[true, true, true, true, true, true, true, true, true, true, true, true, true, false, false, false, false, false, false, false, false, false, false, false, false, false, false, false, false, false, false, false, false, false, false, false, false, false, false, false, false, false, false, false, false, false, false, false, false, false, false] rfl rfl (any_of HT_.out (by kernel_rfl)) (fun _ _ _ h => h) (Or.inl ⟨by rfl, ?_⟩) ?_ ?_
          rotate_left
          · intro w'
            go_simp
            with_reducible rfl
          rotate_left
          · simp only [Act.put, List.setIfInBounds_toArray, List.set_cons_zero, List.set_cons_succ, i64_w, i32_w]
            rfl
          refine pure_ (i := 13) (N := some 121) (v := ?_) (a' := ?_) #[true, true, true, true, true, true, true, true, true, true, true, true, true, true, false, false, false, false, false, false, false, false, false, false, false, false, false, false, false, false, false, false, false, false, false, false, false, false, false, false, false, false, false, false, false, false, false, false, false, false, false] rfl rfl (any_of HT_.out (by kernel_rfl)) (fun _ _ _ h => h) (Or.inl ⟨by rfl, ?_⟩) ?_ ?_
          rotate_left
          · intro w'
            go_simp
            with_reducible rfl
          rotate_left
          · simp only [Act.put, List.setIfInBounds_toArray, List.set_cons_zero, List.set_cons_succ, i64_w, i32_w]
            rfl
          refine take_ (i := 14) (N := some 122) (v := ?_) (a' := ?_) #[true, true, true, true, true, true, true, true, true, true, true, true, true, true, true, false, false, false, false, false, false, false, false, false, false, false, false, false, false, false, false, false, false, false, false, false, false, false, false, false, false, false, false, false, false, false, false, false, false, false, false] rfl rfl (take_ofW HT_.out HW_.out (by kernel_rfl)) (fun _ _ _ h => h) (Or.inl ⟨by rfl, ?_⟩) hHeld ?_ ?_
          rotate_left
          · rintro w' ⟨s0, s1, s2, s3, s4, s5, s6, s7, s8⟩
            go_simp
            with_reducible rfl
          rotate_left
          · simp only [Act.put, List.setIfInBounds_toArray, List.set_cons_zero, List.set_cons_succ, i64_w, i32_w]
            rfl
          refine pure_ (i := 15) (N := some 123) (v := ?_) (a' := ?_) #[true, true, true, true, true, true, true, true, true, true, true, true, true, true, true, true, false, false, false, false, false, false, false, false, false, false, false, false, false, false, false, false, false, false, false, false, false, false, false, false, false, false, false, false, false, false, false, false, false, false, false] rfl rfl (any_of HT_.out (by kernel_rfl)) (fun _ _ _ h => h) (Or.inl ⟨by rfl, ?_⟩) ?_ ?_
          rotate_left
          · intro w'
            go_simp
            with_reducible rfl
          rotate_left
          · simp only [Act.put, List.setIfInBounds_toArray, List.set_cons_zero, List.set_cons_succ, i64_w, i32_w]
            rfl
          refine pure_ (i := 16) (N := some 124) (v := ?_) (a' := ?_) #[true, true, true, true, true, true, true, true, true, true, true, true, true, true, true, true, true, false, false, false, false, false, false, false, false, false, false, false, false, false, false, false, false, false, false, false, false, false, false, false, false, false, false, false, false, false, false, false, false, false, false] rfl rfl (any_of HT_.out (by kernel_rfl)) (fun _ _ _ h => h) (Or.inl ⟨by rfl, ?_⟩) ?_ ?_
          rotate_left
          · intro w'
            go_simp
            with_reducible rfl
          rotate_left
          · simp only [Act.put, List.setIfInBounds_toArray, List.set_cons_zero, List.set_cons_succ, i64_w, i32_w]
            rfl
          rw [HLN.out]
          refine pure_ (i := 17) (N := some 125) (v := ?_) (a' := ?_) #[true, true, true, true, true, true, true, true, true, true, true, true, true, true, true, true, true, true, false, false, false, false, false, false, false, false, false, false, false, false, false, false, false, false, false, false, false, false, false, false, false, false, false, false, false, false, false, false, false, false, false] rfl rfl (any_of HT_.out (by kernel_rfl)) (fun _ _ _ h => h) (Or.inl ⟨by rfl, ?_⟩) ?_ ?_
          rotate_left
          · intro w'
            go_simp
            with_reducible rfl
          rotate_left
          · simp only [Act.put, List.setIfInBounds_toArray, List.set_cons_zero, List.set_cons_succ, i64_w, i32_w]
            rfl
          refine pure_ (i := 18) (N := some 126) (v := ?_) (a' := ?_) #[true, true, true, true, true, true, true, true, true, true, true, true, true, true, true, true, true, true, true, false, false, false, false, false, false, false, false, false, false, false, false, false, false, false, false, false, false, false, false, false, false, false, false, false, false, false, false, false, false, false, false] rfl rfl (any_of HT_.out (by kernel_rfl)) (fun _ _ _ h => h) (Or.inl ⟨by rfl, ?_⟩) ?_ ?_
          rotate_left
          · intro w'
            go_simp
            with_reducible rfl
          rotate_left
          · simp only [Act.put, List.setIfInBounds_toArray, List.set_cons_zero, List.set_cons_succ, i64_w, i32_w]
            rfl
          refine take_ (i := 19) (N := some 127) (v := ?_) (a' := ?_) #[true, true, true, true, true, true, true, true, true, true, true, true, true, true, true, true, true, true, true, true, false, false, false, false, false, false, false, false, false, false, false, false, false, false, false, false, false, false, false, false, false, false, false, false, false, false, false, false, false, false, false] rfl rfl (take_ofW HT_.out HW_.out (by kernel_rfl)) (fun _ _ _ h => h) (Or.inl ⟨by rfl, ?_⟩) hHeld ?_ ?_
          rotate_left
          · rintro w' ⟨s0, s1, s2, s3, s4, s5, s6, s7, s8⟩
            go_simp
            with_reducible rfl
          rotate_left
          · simp only [Act.put, List.setIfInBounds_toArray, List.set_cons_zero, List.set_cons_succ, i64_w, i32_w]
            rfl
          refine one_ (i := 20) (N := some 128) #[true, true, true, true, true, true, true, true, true, true, true, true, true, true, true, true, true, true, true, true, true, false, false, false, false, false, false, false, false, false, false, false, false, false, false, false, false, false, false, false, false, false, false, false, false, false, false, false, false, false, false] rfl rfl (one_of HT_.out (by kernel_rfl)) (by decide) (fun K hK => ?_)
          refine goes_ Try.func32 (by kernel_rfl) rfl #[.agg #[.slice (some aa) l'.length ca, .int .i64 kp]] (by rfl) rfl rfl (by (try simp only [List.map_toArray, List.map_cons, List.map_nil]); first | done | rfl | (simp only [List.length_drop, List.length_take]; rfl)) ?_
          with_reducible refine (assartref05_Right.calls 10000 (some aa) ca l' kp true _ (Kd.V_reads' HVa.out).2.2 (Kd.V_reads' HVa.out).2.1 HRF.out).mono ?_
          rintro e wcb20 ⟨rfl, hb⟩
          refine ⟨_, rfl, ?_⟩
          replace Z0 : Aside0 (wcb20.cell? ⟨w.heap.size, 0, none⟩ = some (.slice (some ax) l.length c)) := ⟨(hb.cell (World.block_lt_of_cell? wdb13 _ Z0.out)).trans Z0.out⟩
          replace Z1 : Aside0 (wcb20.cell? ⟨w.heap.size, 1, none⟩ = some (.int .i64 kp)) := ⟨(hb.cell (World.block_lt_of_cell? wdb13 _ Z1.out)).trans Z1.out⟩
          replace Z2 : Aside0 (wcb20.cell? ⟨w50.heap.size, 0, none⟩ = some (.slice (some aa) l'.length ca)) := ⟨(hb.cell (World.block_lt_of_cell? wdb13 _ Z2.out)).trans Z2.out⟩
          replace Z3 : Aside0 (wcb20.cell? ⟨w50.heap.size, 1, none⟩ = some (.int .i64 kp)) := ⟨(hb.cell (World.block_lt_of_cell? wdb13 _ Z3.out)).trans Z3.out⟩
          replace Z4 : Aside0 (wcb20.cell? ⟨w.heap.size + 1, 0, none⟩ = some (.bool leaf)) := ⟨(hb.cell (World.block_lt_of_cell? wdb13 _ Z4.out)).trans Z4.out⟩
          replace Z5 : Aside0 (wcb20.cell? ⟨w.heap.size + 1, 1, none⟩ = some (.slice A1 it.length c1)) := ⟨(hb.cell (World.block_lt_of_cell? wdb13 _ Z5.out)).trans Z5.out⟩
          replace Z6 : Aside0 (wcb20.cell? (aa.add (ad * 4)) = some (.int .i64 1)) := ⟨(hb.cell (World.block_lt_of_cell? wdb13 _ Z6.out)).trans Z6.out⟩
          replace Z7 : Aside0 (wcb20.cell? ⟨(aa.add (ad * 4)).block, (aa.add (ad * 4)).off + 2, none⟩ = some (.bool leaf)) := ⟨(hb.cell (World.block_lt_of_cell? wdb13 _ Z7.out)).trans Z7.out⟩
          replace Z8 : Aside0 (wcb20.cell? ⟨(aa.add (ad * 4)).block, (aa.add (ad * 4)).off + 3, none⟩ = some (.slice Ai it.length ci)) := ⟨(hb.cell (World.block_lt_of_cell? wdb13 _ Z8.out)).trans Z8.out⟩
          replace HB := Aside0.mk (HB.out.trans (hb.mono HB.out.size))
          replace KXh := Aside0.mk (blk_below KXh.out hb)
          replace KXn := Aside0.mk (blk_below KXn.out hb)
          replace HVl := Aside0.mk (Kd.V_below HVl.out hb)
          replace HVn := Aside0.mk (Kd.V_below HVn.out hb)
          replace HVa := Aside0.mk (Kd.V_below HVa.out hb)
          replace KXa := Aside0.mk (blk_below KXa.out hb)
          replace HCI := Aside0.mk (Kd.C_below HCI.out hb)
          clear hb hHeld
          refine hK.out _ _ ⟨Z0.out, Z1.out, Z2.out, Z3.out, Z4.out, Z5.out, Z6.out, Z7.out, Z8.out⟩ (fun hHeld => ?_)
          clear hK K
          refine norm_ (a' := ?_) ?_ ?_
          rotate_left
          · show Act.put _ (some 128) _ = _
            simp only [Act.put, List.setIfInBounds_toArray, List.set_cons_zero, List.set_cons_succ, i64_w, i32_w]
            rfl
          refine pure_ (i := 21) (N := some 129) (v := ?_) (a' := ?_) #[true, true, true, true, true, true, true, true, true, true, true, true, true, true, true, true, true, true, true, true, true, true, false, false, false, false, false, false, false, false, false, false, false, false, false, false, false, false, false, false, false, false, false, false, false, false, false, false, false, false, false] rfl rfl (any_of HT_.out (by kernel_rfl)) (fun _ _ _ h => h) (Or.inl ⟨by rfl, ?_⟩) ?_ ?_
          rotate_left
          · intro w'
            go_simp
            with_reducible rfl
          rotate_left
          · simp only [Act.put, List.setIfInBounds_toArray, List.set_cons_zero, List.set_cons_succ, i64_w, i32_w]
            rfl
          refine pure_ (i := 22) (N := some 130) (v := ?_) (a' := ?_) #[true, true, true, true, true, true, true, true, true, true, true, true, true, true, true, true, true, true, true, true, true, true, true, false, false, false, false, false, false, false, false, false, false, false, false, false, false, false, false, false, false, false, false, false, false, false, false, false, false, false, false] rfl rfl (any_of HT_.out (by kernel_rfl)) (fun _ _ _ h => h) (Or.inl ⟨by rfl, ?_⟩) ?_ ?_
          rotate_left
          · intro w'
            go_simp
            with_reducible rfl
          rotate_left
          · simp only [Act.put, List.setIfInBounds_toArray, List.set_cons_zero, List.set_cons_succ, i64_w, i32_w]
            rfl
          refine pure_ (i := 23) (N := some 131) (v := ?_) (a' := ?_) #[true, true, true, true, true, true, true, true, true, true, true, true, true, true, true, true, true, true, true, true, true, true, true, true, false, false, false, false, false, false, false, false, false, false, false, false, false, false, false, false, false, false, false, false, false, false, false, false, false, false, false] rfl rfl (any_of HT_.out (by kernel_rfl)) (fun _ _ _ h => h) (Or.inl ⟨by rfl, ?_⟩) ?_ ?_
          rotate_left
          · intro w'
            go_simp
            with_reducible rfl
          rotate_left
          · simp only [Act.put, List.setIfInBounds_toArray, List.set_cons_zero, List.set_cons_succ, i64_w, i32_w]
            rfl
          refine pure_ (i := 24) (N := some 132) (v := ?_) (a' := ?_) #[true, true, true, true, true, true, true, true, true, true, true, true, true, true, true, true, true, true, true, true, true, true, true, true, true, false, false, false, false, false, false, false, false, false, false, false, false, false, false, false, false, false, false, false, false, false, false, false, false, false, false] rfl rfl (any_of HT_.out (by kernel_rfl)) (fun _ _ _ h => h) (Or.inl ⟨by rfl, ?_⟩) ?_ ?_
          rotate_left
          · intro w'
            go_simp
            with_reducible rfl
          rotate_left
          · simp only [Act.put, List.setIfInBounds_toArray, List.set_cons_zero, List.set_cons_succ, i64_w, i32_w]
            rfl
          refine take_ (i := 25) (N := some 133) (v := ?_) (a' := ?_) #[true, true, true, true, true, true, true, true, true, true, true, true, true, true, true, true, true, true, true, true, true, true, true, true, true, true, false, false, false, false, false, false, false, false, false, false, false, false, false, false, false, false, false, false, false, false, false, false, false, false, false] rfl rfl (take_ofW HT_.out HW_.out (by kernel_rfl)) (fun _ _ _ h => h) (Or.inl ⟨by rfl, ?_⟩) hHeld ?_ ?_
          rotate_left
          · rintro w' ⟨s0, s1, s2, s3, s4, s5, s6, s7, s8⟩
            go_simp
            with_reducible rfl
          rotate_left
          · simp only [Act.put, List.setIfInBounds_toArray, List.set_cons_zero, List.set_cons_succ, i64_w, i32_w]
            rfl
          refine pure_ (i := 26) (N := some 134) (v := ?_) (a' := ?_) #[true, true, true, true, true, true, true, true, true, true, true, true, true, true, true, true, true, true, true, true, true, true, true, true, true, true, true, false, false, false, false, false, false, false, false, false, false, false, false, false, false, false, false, false, false, false, false, false, false, false, false] rfl rfl (any_of HT_.out (by kernel_rfl)) (fun _ _ _ h => h) (Or.inl ⟨by rfl, ?_⟩) ?_ ?_
          rotate_left
          · intro w'
            go_simp
            with_reducible rfl
          rotate_left
          · simp only [Act.put, List.setIfInBounds_toArray, List.set_cons_zero, List.set_cons_succ, i64_w, i32_w]
            rfl
          refine pure_ (i := 27) (N := some 135) (v := ?_) (a' := ?_) #[true, true, true, true, true, true, true, true, true, true, true, true, true, true, true, true, true, true, true, true, true, true, true, true, true, true, true, true, false, false, false, false, false, false, false, false, false, false, false, false, false, false, false, false, false, false, false, false, false, false, false] rfl rfl (any_of HT_.out (by kernel_rfl)) (fun _ _ _ h => h) (Or.inl ⟨by rfl, ?_⟩) ?_ ?_
          rotate_left
          · intro w'
            go_simp
            with_reducible rfl
          rotate_left
          · simp only [Act.put, List.setIfInBounds_toArray, List.set_cons_zero, List.set_cons_succ, i64_w, i32_w]
            rfl
          refine pure_ (i := 28) (N := some 136) (v := ?_) (a' := ?_) #[true, true, true, true, true, true, true, true, true, true, true, true, true, true, true, true, true, true, true, true, true, true, true, true, true, true, true, true, true, false, false, false, false, false, false, false, false, false, false, false, false, false, false, false, false, false, false, false, false, false, false] rfl rfl (any_of HT_.out (by kernel_rfl)) (fun _ _ _ h => h) (Or.inl ⟨by rfl, ?_⟩) ?_ ?_
          rotate_left
          · intro w'
            go_simp
            with_reducible rfl
          rotate_left
          · simp only [Act.put, List.setIfInBounds_toArray, List.set_cons_zero, List.set_cons_succ, i64_w, i32_w]
            rfl
          refine take_ (i := 29) (N := some 137) (v := ?_) (a' := ?_) #[true, true, true, true, true, true, true, true, true, true, true, true, true, true, true, true, true, true, true, true, true, true, true, true, true, true, true, true, true, true, false, false, false, false, false, false, false, false, false, false, false, false, false, false, false, false, false, false, false, false, false] rfl rfl (take_ofW HT_.out HW_.out (by kernel_rfl)) (fun _ _ _ h => h) (Or.inl ⟨by rfl, ?_⟩) hHeld ?_ ?_
          rotate_left
          · rintro w' ⟨s0, s1, s2, s3, s4, s5, s6, s7, s8⟩
            go_simp
            with_reducible rfl
          rotate_left
          · simp only [Act.put, List.setIfInBounds_toArray, List.set_cons_zero, List.set_cons_succ, i64_w, i32_w]
            rfl
          refine pure_ (i := 30) (N := some 138) (v := ?_) (a' := ?_) #[true, true, true, true, true, true, true, true, true, true, true, true, true, true, true, true, true, true, true, true, true, true, true, true, true, true, true, true, true, true, true, false, false, false, false, false, false, false, false, false, false, false, false, false, false, false, false, false, false, false, false] rfl rfl (any_of HT_.out (by kernel_rfl)) (fun _ _ _ h => h) (Or.inl ⟨by rfl, ?_⟩) ?_ ?_
          rotate_left
          · intro w'
            go_simp
            with_reducible rfl
          rotate_left
          · simp only [Act.put, List.setIfInBounds_toArray, List.set_cons_zero, List.set_cons_succ, i64_w, i32_w]
            rfl
          refine pure_ (i := 31) (N := some 139) (v := ?_) (a' := ?_) #[true, true, true, true, true, true, true, true, true, true, true, true, true, true, true, true, true, true, true, true, true, true, true, true, true, true, true, true, true, true, true, true, false, false, false, false, false, false, false, false, false, false, false, false, false, false, false, false, false, false, false] rfl rfl (any_of HT_.out (by kernel_rfl)) (fun _ _ _ h => h) (Or.inl ⟨by rfl, ?_⟩) ?_ ?_
          rotate_left
          · intro w'
            go_simp
            with_reducible rfl
          rotate_left
          · simp only [Act.put, List.setIfInBounds_toArray, List.set_cons_zero, List.set_cons_succ, i64_w, i32_w]
            rfl
          refine pure_ (i := 32) (N := some 140) (v := ?_) (a' := ?_) #[true, true, true, true, true, true, true, true, true, true, true, true, true, true, true, true, true, true, true, true, true, true, true, true, true, true, true, true, true, true, true, true, true, false, false, false, false, false, false, false, false, false, false, false, false, false, false, false, false, false, false] rfl rfl (any_of HT_.out (by kernel_rfl)) (fun _ _ _ h => h) (Or.inl ⟨by rfl, ?_⟩) ?_ ?_
          rotate_left
          · intro w'
            go_simp
            with_reducible rfl
          rotate_left
          · simp only [Act.put, List.setIfInBounds_toArray, List.set_cons_zero, List.set_cons_succ, i64_w, i32_w]
            rfl
          refine pure_ (i := 33) (N := some 141) (v := ?_) (a' := ?_) #[true, true, true, true, true, true, true, true, true, true, true, true, true, true, true, true, true, true, true, true, true, true, true, true, true, true, true, true, true, true, true, true, true, true, false, false, false, false, false, false, false, false, false, false, false, false, false, false, false, false, false] rfl rfl (any_of HT_.out (by kernel_rfl)) (fun _ _ _ h => h) (Or.inl ⟨by rfl, ?_⟩) ?_ ?_
          rotate_left
          · intro w'
            go_simp
            with_reducible rfl
          rotate_left
          · simp only [Act.put, List.setIfInBounds_toArray, List.set_cons_zero, List.set_cons_succ, i64_w, i32_w]
            rfl
          refine take_ (i := 34) (N := some 142) (v := ?_) (a' := ?_) #[true, true, true, true, true, true, true, true, true, true, true, true, true, true, true, true, true, true, true, true, true, true, true, true, true, true, true, true, true, true, true, true, true, true, true, false, false, false, false, false, false, false, false, false, false, false, false, false, false, false, false] rfl rfl (take_ofW HT_.out HW_.out (by kernel_rfl)) (fun _ _ _ h => h) (Or.inl ⟨by rfl, ?_⟩) hHeld ?_ ?_
          rotate_left
          · rintro w' ⟨s0, s1, s2, s3, s4, s5, s6, s7, s8⟩
            go_simp
            with_reducible rfl
          rotate_left
          · simp only [Act.put, List.setIfInBounds_toArray, List.set_cons_zero, List.set_cons_succ, i64_w, i32_w]
            rfl
          refine pure_ (i := 35) (N := some 143) (v := ?_) (a' := ?_) #[true, true, true, true, true, true, true, true, true, true, true, true, true, true, true, true, true, true, true, true, true, true, true, true, true, true, true, true, true, true, true, true, true, true, true, true, false, false, false, false, false, false, false, false, false, false, false, false, false, false, false] rfl rfl (any_of HT_.out (by kernel_rfl)) (fun _ _ _ h => h) (Or.inl ⟨by rfl, ?_⟩) ?_ ?_
          rotate_left
          · intro w'
            go_simp
            with_reducible rfl
          rotate_left
          · simp only [Act.put, List.setIfInBounds_toArray, List.set_cons_zero, List.set_cons_succ, i64_w, i32_w]
            rfl
          refine pure_ (i := 36) (N := some 144) (v := ?_) (a' := ?_) #[true, true, true, true, true, true, true, true, true, true, true, true, true, true, true, true, true, true, true, true, true, true, true, true, true, true, true, true, true, true, true, true, true, true, true, true, true, false, false, false, false, false, false, false, false, false, false, false, false, false, false] rfl rfl (any_of HT_.out (by kernel_rfl)) (fun _ _ _ h => h) (Or.inl ⟨by rfl, ?_⟩) ?_ ?_
          rotate_left
          · intro w'
            go_simp
            with_reducible rfl
          rotate_left
          · simp only [Act.put, List.setIfInBounds_toArray, List.set_cons_zero, List.set_cons_succ, i64_w, i32_w]
            rfl
          refine pure_ (i := 37) (N := some 145) (v := ?_) (a' := ?_) #[true, true, true, true, true, true, true, true, true, true, true, true, true, true, true, true, true, true, true, true, true, true, true, true, true, true, true, true, true, true, true, true, true, true, true, true, true, true, false, false, false, false, false, false, false, false, false, false, false, false, false] rfl rfl (any_of HT_.out (by kernel_rfl)) (fun _ _ _ h => h) (Or.inl ⟨by rfl, ?_⟩) ?_ ?_
          rotate_left
          · intro w'
            go_simp
            with_reducible rfl
          rotate_left
          · simp only [Act.put, List.setIfInBounds_toArray, List.set_cons_zero, List.set_cons_succ, i64_w, i32_w]
            rfl
          refine take_ (i := 38) (N := some 146) (v := ?_) (a' := ?_) #[true, true, true, true, true, true, true, true, true, true, true, true, true, true, true, true, true, true, true, true, true, true, true, true, true, true, true, true, true, true, true, true, true, true, true, true, true, true, true, false, false, false, false, false, false, false, false, false, false, false, false] rfl rfl (take_ofW HT_.out HW_.out (by kernel_rfl)) (fun _ _ _ h => h) (Or.inl ⟨by rfl, ?_⟩) hHeld ?_ ?_
          rotate_left
          · rintro w' ⟨s0, s1, s2, s3, s4, s5, s6, s7, s8⟩
            go_simp
            with_reducible rfl
          rotate_left
          · simp only [Act.put, List.setIfInBounds_toArray, List.set_cons_zero, List.set_cons_succ, i64_w, i32_w]
            rfl
          refine take_ (i := 39) (N := some 147) (v := ?_) (a' := ?_) #[true, true, true, true, true, true, true, true, true, true, true, true, true, true, true, true, true, true, true, true, true, true, true, true, true, true, true, true, true, true, true, true, true, true, true, true, true, true, true, true, false, false, false, false, false, false, false, false, false, false, false] rfl rfl (take_ofW HT_.out HW_.out (by kernel_rfl)) (fun _ _ _ h => h) (Or.inl ⟨by rfl, ?_⟩) hHeld ?_ ?_
          rotate_left
          · rintro w' ⟨s0, s1, s2, s3, s4, s5, s6, s7, s8⟩
            go_simp
            with_reducible rfl
          rotate_left
          · simp only [Act.put, List.setIfInBounds_toArray, List.set_cons_zero, List.set_cons_succ, i64_w, i32_w]
            rfl
          refine one_ (i := 40) (N := some 148) #[true, true, true, true, true, true, true, true, true, true, true, true, true, true, true, true, true, true, true, true, true, true, true, true, true, true, true, true, true, true, true, true, true, true, true, true, true, true, true, true, true, false, false, false, false, false, false, false, false, false, false] rfl rfl (one_of HT_.out (by kernel_rfl)) (by decide) (fun K hK => ?_)
          refine goes_ Try.func53 (by kernel_rfl) rfl #[.agg #[.bool leaf, .slice Ai it.length ci], .agg #[.bool leaf, .slice A1 it.length c1]] (by rfl) rfl rfl (by (try simp only [List.map_toArray, List.map_cons, List.map_nil]); first | done | rfl | (simp only [List.length_drop, List.length_take]; rfl)) ?_
          with_reducible refine (assartref04_Same.calls 10000 leaf Ai ci it leaf A1 c1 it true _ HCI.out HLI.out (Kd.V_reads' HVn.out).2.2 (Kd.V_reads' HVn.out).2.1 HSN.out).mono ?_
          rintro e wcb40 ⟨rfl, hb⟩
          refine ⟨_, rfl, ?_⟩
          replace Z0 : Aside0 (wcb40.cell? ⟨w.heap.size, 0, none⟩ = some (.slice (some ax) l.length c)) := ⟨(hb.cell (World.block_lt_of_cell? wcb20 _ Z0.out)).trans Z0.out⟩
          replace Z1 : Aside0 (wcb40.cell? ⟨w.heap.size, 1, none⟩ = some (.int .i64 kp)) := ⟨(hb.cell (World.block_lt_of_cell? wcb20 _ Z1.out)).trans Z1.out⟩
          replace Z2 : Aside0 (wcb40.cell? ⟨w50.heap.size, 0, none⟩ = some (.slice (some aa) l'.length ca)) := ⟨(hb.cell (World.block_lt_of_cell? wcb20 _ Z2.out)).trans Z2.out⟩
          replace Z3 : Aside0 (wcb40.cell? ⟨w50.heap.size, 1, none⟩ = some (.int .i64 kp)) := ⟨(hb.cell (World.block_lt_of_cell? wcb20 _ Z3.out)).trans Z3.out⟩
          replace Z4 : Aside0 (wcb40.cell? ⟨w.heap.size + 1, 0, none⟩ = some (.bool leaf)) := ⟨(hb.cell (World.block_lt_of_cell? wcb20 _ Z4.out)).trans Z4.out⟩
          replace Z5 : Aside0 (wcb40.cell? ⟨w.heap.size + 1, 1, none⟩ = some (.slice A1 it.length c1)) := ⟨(hb.cell (World.block_lt_of_cell? wcb20 _ Z5.out)).trans Z5.out⟩
          replace Z6 : Aside0 (wcb40.cell? (aa.add (ad * 4)) = some (.int .i64 1)) := ⟨(hb.cell (World.block_lt_of_cell? wcb20 _ Z6.out)).trans Z6.out⟩
          replace Z7 : Aside0 (wcb40.cell? ⟨(aa.add (ad * 4)).block, (aa.add (ad * 4)).off + 2, none⟩ = some (.bool leaf)) := ⟨(hb.cell (World.block_lt_of_cell? wcb20 _ Z7.out)).trans Z7.out⟩
          replace Z8 : Aside0 (wcb40.cell? ⟨(aa.add (ad * 4)).block, (aa.add (ad * 4)).off + 3, none⟩ = some (.slice Ai it.length ci)) := ⟨(hb.cell (World.block_lt_of_cell? wcb20 _ Z8.out)).trans Z8.out⟩
          replace HB := Aside0.mk (HB.out.trans (hb.mono HB.out.size))
          replace KXh := Aside0.mk (blk_below KXh.out hb)
          replace KXn := Aside0.mk (blk_below KXn.out hb)
          replace HVl := Aside0.mk (Kd.V_below HVl.out hb)
          replace HVn := Aside0.mk (Kd.V_below HVn.out hb)
          replace HVa := Aside0.mk (Kd.V_below HVa.out hb)
          replace KXa := Aside0.mk (blk_below KXa.out hb)
          replace HCI := Aside0.mk (Kd.C_below HCI.out hb)
          clear hb hHeld
          refine hK.out _ _ ⟨Z0.out, Z1.out, Z2.out, Z3.out, Z4.out, Z5.out, Z6.out, Z7.out, Z8.out⟩ (fun hHeld => ?_)
          clear hK K
          refine norm_ (a' := ?_) ?_ ?_
          rotate_left
          · show Act.put _ (some 148) _ = _
            simp only [Act.put, List.setIfInBounds_toArray, List.set_cons_zero, List.set_cons_succ, i64_w, i32_w]
            rfl
          refine pure_ (i := 41) (N := some 149) (v := ?_) (a' := ?_) #[true, true, true, true, true, true, true, true, true, true, true, true, true, true, true, true, true, true, true, true, true, true, true, true, true, true, true, true, true, true, true, true, true, true, true, true, true, true, true, true, true, true, false, false, false, false, false, false, false, false, false] rfl rfl (any_of HT_.out (by kernel_rfl)) (fun _ _ _ h => h) (Or.inl ⟨by rfl, ?_⟩) ?_ ?_
          rotate_left
          · intro w'
            go_simp
            with_reducible rfl
          rotate_left
          · simp only [Act.put, List.setIfInBounds_toArray, List.set_cons_zero, List.set_cons_succ, i64_w, i32_w]
            rfl
          refine pure_ (i := 42) (N := some 150) (v := ?_) (a' := ?_) #[true, true, true, true, true, true, true, true, true, true, true, true, true, true, true, true, true, true, true, true, true, true, true, true, true, true, true, true, true, true, true, true, true, true, true, true, true, true, true, true, true, true, true, false, false, false, false, false, false, false, false] rfl rfl (any_of HT_.out (by kernel_rfl)) (fun _ _ _ h => h) (Or.inl ⟨by rfl, ?_⟩) ?_ ?_
          rotate_left
          · intro w'
            go_simp
            with_reducible rfl
          rotate_left
          · simp only [Act.put, List.setIfInBounds_toArray, List.set_cons_zero, List.set_cons_succ, i64_w, i32_w]
            rfl
          refine pure_ (i := 43) (N := some 151) (v := ?_) (a' := ?_) #[true, true, true, true, true, true, true, true, true, true, true, true, true, true, true, true, true, true, true, true, true, true, true, true, true, true, true, true, true, true, true, true, true, true, true, true, true, true, true, true, true, true, true, true, false, false, false, false, false, false, false] rfl rfl (any_of HT_.out (by kernel_rfl)) (fun _ _ _ h => h) (Or.inl ⟨by rfl, ?_⟩) ?_ ?_
          rotate_left
          · intro w'
            go_simp
            with_reducible rfl
          rotate_left
          · simp only [Act.put, List.setIfInBounds_toArray, List.set_cons_zero, List.set_cons_succ, i64_w, i32_w]
            rfl
          refine take_ (i := 44) (N := some 152) (v := ?_) (a' := ?_) #[true, true, true, true, true, true, true, true, true, true, true, true, true, true, true, true, true, true, true, true, true, true, true, true, true, true, true, true, true, true, true, true, true, true, true, true, true, true, true, true, true, true, true, true, true, false, false, false, false, false, false] rfl rfl (take_ofW HT_.out HW_.out (by kernel_rfl)) (fun _ _ _ h => h) (Or.inl ⟨by rfl, ?_⟩) hHeld ?_ ?_
          rotate_left
          · rintro w' ⟨s0, s1, s2, s3, s4, s5, s6, s7, s8⟩
            go_simp
            with_reducible rfl
          rotate_left
          · simp only [Act.put, List.setIfInBounds_toArray, List.set_cons_zero, List.set_cons_succ, i64_w, i32_w]
            rfl
          refine take_ (i := 46) (N := some 154) (v := ?_) (a' := ?_) #[true, true, true, true, true, true, true, true, true, true, true, true, true, true, true, true, true, true, true, true, true, true, true, true, true, true, true, true, true, true, true, true, true, true, true, true, true, true, true, true, true, true, true, true, true, false, true, false, false, false, false] rfl rfl (take_ofW HT_.out HW_.out (by kernel_rfl)) (fun _ _ _ h => h) (Or.inl ⟨by rfl, ?_⟩) hHeld ?_ ?_
          rotate_left
          · rintro w' ⟨s0, s1, s2, s3, s4, s5, s6, s7, s8⟩
            go_simp
            with_reducible rfl
          rotate_left
          · simp only [Act.put, List.setIfInBounds_toArray, List.set_cons_zero, List.set_cons_succ, i64_w, i32_w]
            rfl
          refine one_ (i := 45) (N := some 153) #[true, true, true, true, true, true, true, true, true, true, true, true, true, true, true, true, true, true, true, true, true, true, true, true, true, true, true, true, true, true, true, true, true, true, true, true, true, true, true, true, true, true, true, true, true, true, true, false, false, false, false] rfl rfl (one_of HT_.out (by kernel_rfl)) (by decide) (fun K hK => ?_)
          refine goes_ Try.func41 (by kernel_rfl) rfl #[.agg #[.slice (some aa) l'.length ca, .int .i64 kp]] (by rfl) rfl rfl (by (try simp only [List.map_toArray, List.map_cons, List.map_nil]); first | done | rfl | (simp only [List.length_drop, List.length_take]; rfl)) ?_
          with_reducible refine (assartref05_Free.calls 10000 (some aa) ca l' kp (freeN l' : Int) _ (Kd.V_reads' HVa.out).2.2 (Kd.V_reads' HVa.out).2.1 HFA.out).mono ?_
          rintro e wcb45 ⟨rfl, hb⟩
          refine ⟨_, rfl, ?_⟩
          replace Z0 : Aside0 (wcb45.cell? ⟨w.heap.size, 0, none⟩ = some (.slice (some ax) l.length c)) := ⟨(hb.cell (World.block_lt_of_cell? wcb40 _ Z0.out)).trans Z0.out⟩
          replace Z1 : Aside0 (wcb45.cell? ⟨w.heap.size, 1, none⟩ = some (.int .i64 kp)) := ⟨(hb.cell (World.block_lt_of_cell? wcb40 _ Z1.out)).trans Z1.out⟩
          replace Z2 : Aside0 (wcb45.cell? ⟨w50.heap.size, 0, none⟩ = some (.slice (some aa) l'.length ca)) := ⟨(hb.cell (World.block_lt_of_cell? wcb40 _ Z2.out)).trans Z2.out⟩
          replace Z3 : Aside0 (wcb45.cell? ⟨w50.heap.size, 1, none⟩ = some (.int .i64 kp)) := ⟨(hb.cell (World.block_lt_of_cell? wcb40 _ Z3.out)).trans Z3.out⟩
          replace Z4 : Aside0 (wcb45.cell? ⟨w.heap.size + 1, 0, none⟩ = some (.bool leaf)) := ⟨(hb.cell (World.block_lt_of_cell? wcb40 _ Z4.out)).trans Z4.out⟩
          replace Z5 : Aside0 (wcb45.cell? ⟨w.heap.size + 1, 1, none⟩ = some (.slice A1 it.length c1)) := ⟨(hb.cell (World.block_lt_of_cell? wcb40 _ Z5.out)).trans Z5.out⟩
          replace Z6 : Aside0 (wcb45.cell? (aa.add (ad * 4)) = some (.int .i64 1)) := ⟨(hb.cell (World.block_lt_of_cell? wcb40 _ Z6.out)).trans Z6.out⟩
          replace Z7 : Aside0 (wcb45.cell? ⟨(aa.add (ad * 4)).block, (aa.add (ad * 4)).off + 2, none⟩ = some (.bool leaf)) := ⟨(hb.cell (World.block_lt_of_cell? wcb40 _ Z7.out)).trans Z7.out⟩
          replace Z8 : Aside0 (wcb45.cell? ⟨(aa.add (ad * 4)).block, (aa.add (ad * 4)).off + 3, none⟩ = some (.slice Ai it.length ci)) := ⟨(hb.cell (World.block_lt_of_cell? wcb40 _ Z8.out)).trans Z8.out⟩
          replace HB := Aside0.mk (HB.out.trans (hb.mono HB.out.size))
          replace KXh := Aside0.mk (blk_below KXh.out hb)
          replace KXn := Aside0.mk (blk_below KXn.out hb)
          replace HVl := Aside0.mk (Kd.V_below HVl.out hb)
          replace HVn := Aside0.mk (Kd.V_below HVn.out hb)
          replace HVa := Aside0.mk (Kd.V_below HVa.out hb)
          replace KXa := Aside0.mk (blk_below KXa.out hb)
          replace HCI := Aside0.mk (Kd.C_below HCI.out hb)
          clear hb hHeld
          refine hK.out _ _ ⟨Z0.out, Z1.out, Z2.out, Z3.out, Z4.out, Z5.out, Z6.out, Z7.out, Z8.out⟩ (fun hHeld => ?_)
          clear hK K
          refine norm_ (a' := ?_) ?_ ?_
          rotate_left
          · show Act.put _ (some 153) _ = _
            simp only [Act.put, List.setIfInBounds_toArray, List.set_cons_zero, List.set_cons_succ, i64_w, i32_w]
            rfl
          refine one_ (i := 47) (N := some 155) #[true, true, true, true, true, true, true, true, true, true, true, true, true, true, true, true, true, true, true, true, true, true, true, true, true, true, true, true, true, true, true, true, true, true, true, true, true, true, true, true, true, true, true, true, true, true, true, true, false, false, false] rfl rfl (one_of HT_.out (by kernel_rfl)) (by decide) (fun K hK => ?_)
          refine goes_ Try.func41 (by kernel_rfl) rfl #[.agg #[.slice (some ax) l.length c, .int .i64 kp]] (by rfl) rfl rfl (by (try simp only [List.map_toArray, List.map_cons, List.map_nil]); first | done | rfl | (simp only [List.length_drop, List.length_take]; rfl)) ?_
          with_reducible refine (assartref05_Free.calls 10000 (some ax) c l kp (freeN l : Int) _ (Kd.V_reads' HVl.out).2.2 (Kd.V_reads' HVl.out).2.1 HFL.out).mono ?_
          rintro e wcb47 ⟨rfl, hb⟩
          refine ⟨_, rfl, ?_⟩
          replace Z0 : Aside0 (wcb47.cell? ⟨w.heap.size, 0, none⟩ = some (.slice (some ax) l.length c)) := ⟨(hb.cell (World.block_lt_of_cell? wcb45 _ Z0.out)).trans Z0.out⟩
          replace Z1 : Aside0 (wcb47.cell? ⟨w.heap.size, 1, none⟩ = some (.int .i64 kp)) := ⟨(hb.cell (World.block_lt_of_cell? wcb45 _ Z1.out)).trans Z1.out⟩
          replace Z2 : Aside0 (wcb47.cell? ⟨w50.heap.size, 0, none⟩ = some (.slice (some aa) l'.length ca)) := ⟨(hb.cell (World.block_lt_of_cell? wcb45 _ Z2.out)).trans Z2.out⟩
          replace Z3 : Aside0 (wcb47.cell? ⟨w50.heap.size, 1, none⟩ = some (.int .i64 kp)) := ⟨(hb.cell (World.block_lt_of_cell? wcb45 _ Z3.out)).trans Z3.out⟩
          replace Z4 : Aside0 (wcb47.cell? ⟨w.heap.size + 1, 0, none⟩ = some (.bool leaf)) := ⟨(hb.cell (World.block_lt_of_cell? wcb45 _ Z4.out)).trans Z4.out⟩
          replace Z5 : Aside0 (wcb47.cell? ⟨w.heap.size + 1, 1, none⟩ = some (.slice A1 it.length c1)) := ⟨(hb.cell (World.block_lt_of_cell? wcb45 _ Z5.out)).trans Z5.out⟩
          replace Z6 : Aside0 (wcb47.cell? (aa.add (ad * 4)) = some (.int .i64 1)) := ⟨(hb.cell (World.block_lt_of_cell? wcb45 _ Z6.out)).trans Z6.out⟩
          replace Z7 : Aside0 (wcb47.cell? ⟨(aa.add (ad * 4)).block, (aa.add (ad * 4)).off + 2, none⟩ = some (.bool leaf)) := ⟨(hb.cell (World.block_lt_of_cell? wcb45 _ Z7.out)).trans Z7.out⟩
          replace Z8 : Aside0 (wcb47.cell? ⟨(aa.add (ad * 4)).block, (aa.add (ad * 4)).off + 3, none⟩ = some (.slice Ai it.length ci)) := ⟨(hb.cell (World.block_lt_of_cell? wcb45 _ Z8.out)).trans Z8.out⟩
          replace HB := Aside0.mk (HB.out.trans (hb.mono HB.out.size))
          replace KXh := Aside0.mk (blk_below KXh.out hb)
          replace KXn := Aside0.mk (blk_below KXn.out hb)
          replace HVl := Aside0.mk (Kd.V_below HVl.out hb)
          replace HVn := Aside0.mk (Kd.V_below HVn.out hb)
          replace HVa := Aside0.mk (Kd.V_below HVa.out hb)
          replace KXa := Aside0.mk (blk_below KXa.out hb)
          replace HCI := Aside0.mk (Kd.C_below HCI.out hb)
          clear hb hHeld
          refine hK.out _ _ ⟨Z0.out, Z1.out, Z2.out, Z3.out, Z4.out, Z5.out, Z6.out, Z7.out, Z8.out⟩ (fun hHeld => ?_)
          clear hK K
          refine norm_ (a' := ?_) ?_ ?_
          rotate_left
          · show Act.put _ (some 155) _ = _
            simp only [Act.put, List.setIfInBounds_toArray, List.set_cons_zero, List.set_cons_succ, i64_w, i32_w]
            rfl
          refine pure_ (i := 48) (N := some 156) (v := ?_) (a' := ?_) #[true, true, true, true, true, true, true, true, true, true, true, true, true, true, true, true, true, true, true, true, true, true, true, true, true, true, true, true, true, true, true, true, true, true, true, true, true, true, true, true, true, true, true, true, true, true, true, true, true, false, false] rfl rfl (any_of HT_.out (by kernel_rfl)) (fun _ _ _ h => h) (Or.inl ⟨by rfl, ?_⟩) ?_ ?_
          rotate_left
          · intro w'
            go_simp
            with_reducible rfl
          rotate_left
          · simp only [Act.put, List.setIfInBounds_toArray, List.set_cons_zero, List.set_cons_succ, i64_w, i32_w]
            rfl
          refine pure_ (i := 49) (N := some 157) (v := ?_) (a' := ?_) #[true, true, true, true, true, true, true, true, true, true, true, true, true, true, true, true, true, true, true, true, true, true, true, true, true, true, true, true, true, true, true, true, true, true, true, true, true, true, true, true, true, true, true, true, true, true, true, true, true, true, false] rfl rfl (any_of HT_.out (by kernel_rfl)) (fun _ _ _ h => h) (Or.inl ⟨by rfl, ?_⟩) ?_ ?_
          rotate_left
          · intro w'
            go_simp
            with_reducible rfl
          rotate_left
          · simp only [Act.put, List.setIfInBounds_toArray, List.set_cons_zero, List.set_cons_succ, i64_w, i32_w]
            rfl
          rw [HNE2.out]
          refine pure_ (i := 50) (N := some 158) (v := ?_) (a' := ?_) #[true, true, true, true, true, true, true, true, true, true, true, true, true, true, true, true, true, true, true, true, true, true, true, true, true, true, true, true, true, true, true, true, true, true, true, true, true, true, true, true, true, true, true, true, true, true, true, true, true, true, true] rfl rfl (any_of HT_.out (by kernel_rfl)) (fun _ _ _ h => h) (Or.inl ⟨by rfl, ?_⟩) ?_ ?_
          rotate_left
          · intro w'
            go_simp
            with_reducible rfl
          rotate_left
          · simp only [Act.put, List.setIfInBounds_toArray, List.set_cons_zero, List.set_cons_succ, i64_w, i32_w]
            rfl
          refine done_ (done_of HT_.out (by kernel_rfl)) ?_
          clear hHeld HT_ HW_
          clear Z0 Z1 Z2 Z3 Z4 Z5 Z6 Z7 Z8 p1 p2 p3 HLN HNE2 HRF HSN HFA HFL HCI HLI
          go_wp2
          go_loopg [15] (ad + 1) (fun kx s wr => ∃ (j : Nat), s = .int .i64 j ∧ j ≤ ad + 1 ∧ ad + 1 - j ≤ kx ∧ Aside0 (wcb47 = wr))
          case atStart => exact ⟨0, rfl, Nat.zero_le _, by omega, ⟨rfl⟩⟩
          case round =>
            obtain ⟨j, rfl, hj, hgk, HW_⟩ := hrel
            obtain rfl := HW_.out
            clear HW_
            by_cases hlt : j ≤ ad
            · obtain ⟨aj, A_3, c_3, e4, z0, z1, -⟩ := at_T55 (Kd.V_reads' HVl.out).2.2 (j : Int) (by omega) (by omega)
              cases e4
              rw [Int.toNat_natCast] at z0 z1
              have x0 : wcb47.cell? ⟨w.heap.size, 0, none⟩ = some (.slice (some ax) l.length c) := (blk_cell KXh.out 0).trans rfl
              have x1 : wcb47.cell? ⟨w.heap.size, 1, none⟩ = some (.int .i64 kp) := (blk_cell KXh.out 1).trans rfl
              have p1 : (j : Int) < (l.length : Int) := by omega
              replace p1 := eq_true p1
              have p2 : (j : Int) ≤ (ad : Int) := by omega
              have p3 := decide_eq_true p2
              by_cases hja : j = ad
              · subst hja
                unfold isFreeB at hfa
                rw [Bool.and_eq_true, beq_iff_eq, Bool.not_eq_true'] at hfa
                rw [hfa.1] at z0
                rw [hfa.2] at z1
                go_wp2
                go_roundg (j + 1 - (j + 1))
                case measure => omega
                case rel => exact ⟨j + 1, by simp, by omega, Nat.le_refl _, ⟨rfl⟩⟩
              · have hf := hfb j (by omega)
                unfold isFreeB at hf
                have q1 : ((j : Int) = (ad : Int)) = False := eq_false (by omega)
                have q2 : (j = ad) = False := eq_false hja
                have q3 : ((j : Int) == (ad : Int)) = false := beq_eq_false_iff_ne.2 (by omega)
                by_cases hz : (rd_T55 l (j : Nat)).f0 = 0
                · rw [hz, Bool.and_eq_false_iff] at hf
                  have hp : (rd_T55 l (j : Nat)).f1 = true := by
                    rcases hf with h | h
                    · simp at h
                    · simpa using h
                  rw [hz] at z0
                  rw [hp] at z1
                  clear hf hz hp
                  go_wp2
                  go_roundg (ad + 1 - (j + 1))
                  case measure => omega
                  case rel => exact ⟨j + 1, by simp, by omega, Nat.le_refl _, ⟨rfl⟩⟩
                · clear hf
                  generalize (rd_T55 l (j : Nat)).f0 = rf at z0 hz
                  have q4 : (rf == 0) = false := beq_eq_false_iff_ne.2 hz
                  have q5 : (rf = 0) = False := eq_false hz
                  go_wp2
                  go_roundg (ad + 1 - (j + 1))
                  case measure => omega
                  case rel => exact ⟨j + 1, by simp, by omega, Nat.le_refl _, ⟨rfl⟩⟩
            · obtain rfl : j = ad + 1 := by omega
              have p3 : decide (((ad + 1 : Nat) : Int) ≤ (ad : Int)) = false := decide_eq_false (by omega)
              have p4 : ((ad : Int) + 1 ≤ (ad : Int)) = False := eq_false (by omega)
              have xa_0 : wcb47.cell? ⟨w50.heap.size, 0, none⟩ = some (.slice (some aa) l'.length ca) := (blk_cell KXa.out 0).trans rfl
              have xa_1 : wcb47.cell? ⟨w50.heap.size, 1, none⟩ = some (.int .i64 kp) := (blk_cell KXa.out 1).trans rfl
              have la : w50.heap.size < wcb47.heap.size := blk_lt KXa.out
              go_wp2_with fail
              clear p3 p4 xa_0 xa_1 la
              have HLF := Aside0.mk (heap_Loose.fresh (fun _ => True) (some aa) ca l' kp (ad : Int) l2 wcb47 (V_base HVa.out) (by have := HLEN.out; omega) hus hlo (by omega))
              clear hus hlo
              refine HLF.out.mono ?_
              rintro e wL ⟨g, rfl, hgg, hrw, hb⟩
              clear HLF
              have HGG : Aside0 (w.heap.size + 1 < g) := ⟨by have := blk_lt KXn.out; omega⟩
              have HBL := Aside0.mk hb
              have HG2 := Aside0.mk hgg
              replace HB := Aside0.mk (HB.out.trans (hb.mono HB.out.size))
              replace KXh := Aside0.mk (blk_below KXh.out hb)
              replace KXn := Aside0.mk (blk_below KXn.out hb)
              replace HVl := Aside0.mk (Kd.V_below HVl.out hb)
              replace HVn := Aside0.mk (Kd.V_below HVn.out hb)
              replace HVa := Aside0.mk (Kd.V_below HVa.out hb)
              replace KXa := Aside0.mk (blk_below KXa.out hb)
              have HRW := Aside0.mk hrw
              clear hb hgg hrw
              obtain ⟨cs, hcc, hcs⟩ := HRW.out.blk
              have fz := blk_frozen hcc (ad * 4 + 1)
              obtain ⟨-, z1, -, -⟩ := HRW.out.row ad (by omega)
              rw [hpin] at z1
              have lg : g < wL.heap.size := HRW.out.lt
              have n1 : w.heap.size ≠ g := by have := HGG.out; omega
              have n2 : g ≠ w.heap.size := fun e => n1 e.symm
              have p1 : (ad : Int) < (l.length : Int) := by omega
              replace p1 := eq_true p1
              have xh_0 : wL.cell? ⟨w.heap.size, 0, none⟩ = some (.slice (some ax) l.length c) := (blk_cell KXh.out 0).trans rfl
              have xh_1 : wL.cell? ⟨w.heap.size, 1, none⟩ = some (.int .i64 kp) := (blk_cell KXh.out 1).trans rfl
              have lh : w.heap.size < wL.heap.size := blk_lt KXh.out
              go_wp2_with fail
              clear fz z1 p1 xh_0 xh_1 lh
              have HS1 := HRW.out.setPin (i := ad) (by omega) false
              rw [hset] at HS1
              have HS2 := HS1.same (W' := (wL.setCell ⟨g, ad * 4 + 1, none⟩ (.bool false)).alloc (.cells #[.slice (some ⟨g, 0, none⟩) l.length l.length, .int .i64 kp] 24)) (Below.heap_alloc _ _ _ (by simpa [World.setCell] using lg))
              have HVF := Kd.V_alloc (Kd.V_far (p := ⟨g, ad * 4 + 1, none⟩) HVl.out (fun k hk => by have := HGG.out; simp only []; omega) (.bool false)) (.cells #[.slice (some ⟨g, 0, none⟩) l.length l.length, .int .i64 kp] 24)
              have HBF := below_alloc (below_set (j := ad * 4 + 1) (v := .bool false) HB.out (show w.heap.size ≤ g by have := HGG.out; omega)) (.cells #[.slice (some ⟨g, 0, none⟩) l.length l.length, .int .i64 kp] 24)
              refine (assartref05_Same.calls 10000 (some ⟨g, 0, none⟩) l.length l kp (some ax) c l kp true _ (HS2.C (fun k _ hk => ?_) (by omega)) (Nat.le_refl _) (Kd.V_reads' HVF).2.2 (Kd.V_reads' HVF).2.1 (by rw [refSame_val l l kp kp (by omega) (fun x hx => by have := hi1 x hx; omega) (by omega)]; simp)).mono ?_
              · exact (Below.heap_alloc _ _ k (by have := HBL.out.size; simp only [World.setCell, Array.size_modify]; omega)).trans ((Below.heap_setCell wL _ _ k (by have := HG2.out; simp only []; omega)).trans (HBL.out.block k hk))
              rintro e wF ⟨rfl, hb⟩
              have HBZ := HBF.trans (hb.mono HBF.size)
              clear HS1 HS2 HVF HBF hb
              go_wp2
              go_ret
              exact ⟨rfl, HBZ⟩
    · have hc10 : decide ((it.length : Int) > 10) = true := decide_eq_true (by omega)
      go_wp2_with fail
      go_ret
      exact ⟨rfl, HB.out⟩
  · rw [decide_eq_false h1]
    go_wp2
    go_ret
    exact ⟨rfl, HB.out⟩
end Go.Proofs.Yteiladccdenpbaa.P
end
section
namespace Go.Proofs.Yteiladccdenpbaa.P
open Go.RowKit Go.Proofs.YteiladccdenpbaaW.PrintWords Go.Proofs.YteiladccdenpbaaW.PrintLast Go.Proofs.YteiladccdenpbaaW.PrintMore
set_option linter.unusedVariables false
set_option linter.unusedSimpArgs false
structure Opens {α : Type} (P : Program) (t : TypeId) (d : Kd α) (ok : α → Prop) : Prop where
  sz : P.cellsOf t = d.sz
  op : ∀ {H : Type} {enc : TypeId × Value → H} {W : World} {base : Nat} {spare : Nat → Bool} {held : Bool} {fuel : Nat} {cs : List Value} {y : DataW H × List MemPlace}, DataW.trod enc P W base spare held fuel t cs = some y → (DataW.weights P t y.1).all (· ≤ reachBytes) = true → ∃ x, d.K W x cs ∧ ok x
theorem Opens.int {P : Program} {t : TypeId} {k : IntKind} (h : P.underlying t = some (.int k)) (hs : P.cellsOf t = 1) : Opens P t (Kd.int k) (fun n => (Lit.int k n).wf = true) :=
  ⟨hs, fun hy _ => by
    obtain ⟨n, rfl, _, hw⟩ := DataW.trod_int h hy
    exact ⟨n, rfl, hw⟩⟩
theorem Opens.bool {P : Program} {t : TypeId} (h : P.underlying t = some .bool) (hs : P.cellsOf t = 1) : Opens P t Kd.bool (fun _ => True) :=
  ⟨hs, fun hy _ => by
    obtain ⟨b, rfl, _⟩ := DataW.trod_bool h hy
    exact ⟨b, rfl, trivial⟩⟩
theorem choose_row {α : Type} {R : Nat → α → Prop} : ∀ n, (∀ i, i < n → ∃ x, R i x) → ∃ xs : List α, xs.length = n ∧ ∀ i x, xs[i]? = some x → R i x
  | 0, _ => ⟨[], rfl, fun i x h => by simp at h⟩
  | n + 1, h => by
    obtain ⟨xs, hl, hx⟩ := choose_row n (fun i hi => h i (by omega))
    obtain ⟨x, hr⟩ := h n (by omega)
    refine ⟨xs ++ [x], by simp [hl], fun i z hz => ?_⟩
    by_cases hi : i < n
    · rw [List.getElem?_append_left (by omega)] at hz
      exact hx i z hz
    · rw [List.getElem?_append_right (by omega)] at hz
      have : i - xs.length = 0 := by
        rcases Nat.eq_zero_or_pos (i - xs.length) with h0 | h0
        · exact h0
        · rw [List.getElem?_eq_none (by simp; omega)] at hz; cases hz
      rw [this] at hz
      simp at hz
      subst hz
      have : i = n := by omega
      rw [this]; exact hr
theorem weightsAll_mem {H : Type} {P : Program} {e : TypeId} : ∀ {ds : List (DataW H)}, (DataW.weightsAll P e ds).all (· ≤ reachBytes) = true → ∀ d ∈ ds, (DataW.weights P e d).all (· ≤ reachBytes) = true
  | [], _, d, hd => by cases hd
  | a :: ds, h, d, hd => by
    simp only [DataW.weightsAll, List.all_append, Bool.and_eq_true] at h
    rcases List.mem_cons.1 hd with rfl | hd
    · exact h.1
    · exact weightsAll_mem h.2 d hd
theorem Opens.slice {α : Type} {P : Program} {t e : TypeId} {d : Kd α} {ok : α → Prop} {B : Nat} (h : P.underlying t = some (.slice e)) (hs : P.cellsOf t = 1) (hB : P.bytesOf e = B) (he : Opens P e d ok) : Opens P t (Kd.slice e d) (fun xs => xs.length * B ≤ 140737488351232 ∧ ∀ x ∈ xs, ok x) :=
  ⟨hs, fun {H enc W base spare held fuel cs y} hy hw => by
    rcases DataW.trod_slice h hy with ⟨rfl, rfl⟩ | ⟨a, len, cap, elems, rest, n, rfl, rfl, rfl, hb, hl, hc, hel, hi, _, _⟩
    · exact ⟨[], ⟨none, 0, rfl, Nat.le_refl _, Kd.C_nil _ _⟩, by simp⟩
    · unfold DataW.weights at hw
      rw [h] at hw
      simp only [List.all_cons, List.all_append, Bool.and_eq_true, decide_eq_true_eq, hB, List.length_map] at hw
      obtain ⟨hw0, hw1, _⟩ := hw
      have hx : ∀ i, i < len → ∃ x, ok x ∧ ∃ c, c.length = d.sz ∧ d.K W x c ∧ W.cells? base (a.add (i * d.sz)) d.sz = some c := by
        intro i hlt
        have h1 := hi i hlt
        rw [List.getElem?_eq_getElem (by omega)] at h1
        obtain ⟨c, hc1, hc2⟩ := Option.bind_eq_some_iff.1 h1
        obtain ⟨x, hK, hok⟩ := he.op hc2 (weightsAll_mem hw1 _ (List.mem_map_of_mem (List.getElem_mem _)))
        rw [he.sz] at hc1
        exact ⟨x, hok, c, d.K_len hK, hK, hc1⟩
      obtain ⟨xs, hxl, hxs⟩ := choose_row len hx
      refine ⟨xs, ⟨some a, cap, by rw [hxl], by omega, rfl, ?_, fun hpos => ⟨a, rfl, fun j p hj => ?_⟩⟩, ?_, ?_⟩
      · simp only [maxLen] at hc; omega
      · obtain ⟨_, c, hcl, hK, hcc⟩ := hxs j p hj
        refine ⟨c, hcl, hK, fun i u hu => ?_⟩
        obtain ⟨_, _, hcell⟩ := World.cells?_some hcc
        have hi : i < d.sz := by rw [← hcl]; exact (List.getElem?_eq_some_iff.1 hu).1
        have := hcell i hi
        rw [Addr.add_add] at this
        rw [this, hu]
      · rw [hxl, ← hel]
        refine Nat.le_trans (Nat.mul_le_mul_right _ (Nat.le_add_right _ _)) hw0
      · intro x hx
        obtain ⟨i, hlt, rfl⟩ := List.getElem_of_mem hx
        exact (hxs i _ (List.getElem?_eq_getElem hlt)).1⟩
theorem weights_at {H : Type} {P : Program} : ∀ {ts : List TypeId} {ds : List (DataW H)} {j : Nat} {t : TypeId} {d : DataW H}, (DataW.weightsEach P ts ds).all (· ≤ reachBytes) = true → ts[j]? = some t → ds[j]? = some d → (DataW.weights P t d).all (· ≤ reachBytes) = true
  | [], _, _, _, _, _, ht, _ => by simp at ht
  | _ :: _, [], _, _, _, _, _, hd => by simp at hd
  | t0 :: ts, d0 :: ds, 0, _, _, h, ht, hd => by
    simp only [List.getElem?_cons_zero, Option.some.injEq] at ht hd
    subst ht; subst hd
    simp only [DataW.weightsEach, List.all_append, Bool.and_eq_true] at h
    exact h.1
  | t0 :: ts, d0 :: ds, j + 1, _, _, h, ht, hd => by
    simp only [List.getElem?_cons_succ] at ht hd
    simp only [DataW.weightsEach, List.all_append, Bool.and_eq_true] at h
    exact weights_at h.2 ht hd
structure OpensFs {α : Type} (P : Program) (fs : List Field) (off : Nat) (d : Kd α) (ok : α → Prop) : Prop where
  op : ∀ {H : Type} {enc : TypeId × Value → H} {W : World} {base : Nat} {spare : Nat → Bool} {held : Bool} {fuel : Nat} {cs : List Value} {ys : List (DataW H × List MemPlace)},
    (∀ (i : Nat) (f : Field), fs[i]? = some f → DataW.trod enc P W base spare held fuel f.type ((cs.drop f.offset).take (P.cellsOf f.type)) = ys[i]?) → ys.length = fs.length →
    (DataW.weightsEach P (fs.map (·.type)) (ys.map (·.1))).all (· ≤ reachBytes) = true → cs.length = off + d.sz → ∃ x, d.K W x (cs.drop off) ∧ ok x
theorem OpensFs.one {α : Type} {P : Program} {f : Field} {t : TypeId} {off : Nat} {d : Kd α} {ok : α → Prop} (ht : f.type = t) (hoff : f.offset = off) (h : Opens P t d ok) : OpensFs P [f] off d ok :=
  ⟨fun {H enc W base spare held fuel cs ys} hy hl hw hcs => by
    obtain ⟨y, rfl⟩ : ∃ y, ys = [y] := by
      cases ys with
      | nil => simp at hl
      | cons y ys => cases ys with
        | nil => exact ⟨y, rfl⟩
        | cons => simp at hl
    have h0 := hy 0 f rfl
    simp only [List.getElem?_cons_zero] at h0
    simp only [List.map_cons, List.map_nil, DataW.weightsEach, List.append_nil] at hw
    rw [ht] at h0 hw
    obtain ⟨x, hK, hok⟩ := h.op h0 hw
    rw [hoff, List.take_of_length_le (by rw [List.length_drop, h.sz]; omega)] at hK
    exact ⟨x, hK, hok⟩⟩
theorem OpensFs.cons {α β : Type} {P : Program} {f : Field} {fs : List Field} {t : TypeId} {off n : Nat} {d : Kd α} {d' : Kd β} {ok : α → Prop} {ok' : β → Prop} (ht : f.type = t) (hoff : f.offset = off) (h : Opens P t d ok) (hn : off + d.sz = n) (hr : OpensFs P fs n d' ok') :
    OpensFs P (f :: fs) off (Kd.pair d d') (fun x => ok x.1 ∧ ok' x.2) :=
  ⟨fun {H enc W base spare held fuel cs ys} hy hl hw hcs => by
    cases ys with
    | nil => simp at hl
    | cons y ys =>
      have h0 := hy 0 f rfl
      simp only [List.getElem?_cons_zero] at h0
      simp only [List.map_cons, DataW.weightsEach, List.all_append, Bool.and_eq_true] at hw
      have hw0 := hw.1
      rw [ht] at h0 hw0
      obtain ⟨x, hK, hok⟩ := h.op h0 hw0
      have hsz : (Kd.pair d d').sz = d.sz + d'.sz := rfl
      rw [hsz] at hcs
      obtain ⟨x', hK', hok'⟩ := hr.op (fun i g hg => hy (i + 1) g (by simpa using hg)) (by simpa using hl) hw.2 (by omega)
      refine ⟨(x, x'), ⟨_, _, ?_, hK, hK'⟩, hok, hok'⟩
      rw [hoff, h.sz, ← hn, ← List.drop_drop]
      exact (List.take_append_drop _ _).symm⟩
theorem Opens.struct {α β : Type} {P : Program} {t : TypeId} {fs : Array Field} {fl : List Field} {d : Kd α} {ok : α → Prop} (f : β → α) (g : α → β) (hfg : ∀ x, f (g x) = x) (h : P.underlying t = some (.struct fs)) (hfl : fs.toList = fl) (hs : P.cellsOf t = d.sz) (ho : OpensFs P fl 0 d ok) :
    Opens P t (Kd.iso d f) (fun x => ok (f x)) :=
  ⟨hs, fun {H enc W base spare held fuel cs y} hy hw => by
    obtain ⟨xs, n, rfl, rfl, hcl, hxl, hx⟩ := DataW.trod_struct h hy
    unfold DataW.weights at hw
    rw [h] at hw
    simp only [hfl] at hw
    subst hfl
    obtain ⟨x, hK, hok⟩ := ho.op (ys := xs) (fun i f hf => hx i f (by simpa using hf)) (by simpa using hxl) hw (by omega)
    rw [List.drop_zero] at hK
    refine ⟨g x, ?_, ?_⟩
    · show d.K W (f (g x)) cs
      rw [hfg]; exact hK
    · rw [hfg]; exact hok⟩
end Go.Proofs.Yteiladccdenpbaa.P
end
section
namespace Go.Proofs.Yteiladccdenpbaa.heapBack
open Go.ChangeShapes Go.WideShapes Go.ChangeAt Go.RowKit Go.Proofs.Yteiladccdenpbaa.P Go.Proofs.YteiladccdenpbaaW.PrintWords Go.Proofs.YteiladccdenpbaaW.PrintLast Go.Proofs.YteiladccdenpbaaW.PrintMore
open Go.ChangeMaps (open_string shut_string)
set_option linter.unusedVariables false
set_option linter.unusedSimpArgs false
def ok49 (x : S49) : Prop := (fun x => (Lit.int .i64 x).wf = true) x.f0 ∧ (fun x => (Lit.int .i64 x).wf = true) x.f1
theorem opens49 : Opens Try.prog 49 k49 ok49 := Opens.struct (fs := _) (fun x : S49 => (x.f0, x.f1)) (fun p => ⟨p.1, p.2⟩) (fun _ => rfl) Try.underlying49 rfl (by kernel_rfl) (OpensFs.cons rfl rfl (Opens.int Try.underlying3 (by kernel_rfl)) rfl (OpensFs.one rfl rfl (Opens.int Try.underlying3 (by kernel_rfl))))
def ok53 (x : S53) : Prop := (fun x => True) x.f0 ∧ (fun x => x.length * 16 ≤ 140737488351232 ∧ ∀ y ∈ x, (ok49) y) x.f1
theorem opens53 : Opens Try.prog 53 k53 ok53 := Opens.struct (fs := _) (fun x : S53 => (x.f0, x.f1)) (fun p => ⟨p.1, p.2⟩) (fun _ => rfl) Try.underlying53 rfl (by kernel_rfl) (OpensFs.cons rfl rfl (Opens.bool Try.underlying4 (by kernel_rfl)) rfl (OpensFs.one rfl rfl (Opens.slice (B := 16) Try.underlying43 (by kernel_rfl) (by kernel_rfl) opens49)))
def ok55 (x : S55) : Prop := (fun x => (Lit.int .i64 x).wf = true) x.f0 ∧ (fun x => True) x.f1 ∧ (ok53) x.f2
theorem opens55 : Opens Try.prog 55 k55 ok55 := Opens.struct (fs := _) (fun x : S55 => (x.f0, x.f1, x.f2)) (fun p => ⟨p.1, p.2.1, p.2.2⟩) (fun _ => rfl) Try.underlying55 rfl (by kernel_rfl) (OpensFs.cons rfl rfl (Opens.int Try.underlying3 (by kernel_rfl)) rfl (OpensFs.cons rfl rfl (Opens.bool Try.underlying4 (by kernel_rfl)) rfl (OpensFs.one rfl rfl opens53)))
theorem own : ownKnob Try.prog.godebug = none := by kernel_rfl
theorem laidOut : laidOutB Try.prog = true := by kernel_rfl
set_option maxHeartbeats 1000000 in
set_option maxRecDepth 100000 in
theorem lifted (os : Os) (started : os.Started) (H : Type) (enc : TypeId × Value → H) :
  ReturnsInHanded {} Try.checked os 11 .any (Rows.heapBackSpec.pre6 enc Try.prog Try.f11 Rows.heapBackRow.domain false) (Rows.heapBackSpec.post enc Try.prog Try.f11 false true false false) := by
 refine returnsInHanded_of_change_sized (C := Try.checked) own started (by kernel_rfl) Try.func11
  (ChangeSpec.witness6 (enc := enc) (C := Try.checked) false ⟨#[], #[.agg #[.slice none 0 0, .int .i64 0], .agg #[.bool false, .slice none 0 0], .int .i64 0], []⟩ 8 (by kernel_rfl) (by kernel_rfl) (by kernel_rfl) (by kernel_rfl)) ?_
 intro W base args ds gs before hval0 hW hcnd hsz0 _
 have hsz : (DataW.weightsEach Try.prog (Try.f11.params.toList ++ Rows.heapBackSpec.plain.varTypes Try.prog) (ds ++ gs)).all (· ≤ reachBytes) = true := hsz0
 have hval : ∀ (j : Nat) t v, Try.f11.params[j]? = some t → args[j]? = some v → Value.okWide Try.prog W .any base t v := hval0
 have hW' := hW
 obtain ⟨p, q, hA0, hV, rfl, hfz, hnd⟩ := hW
 have hA : DataW.TrodAll enc Try.prog W 0 (fun _ => true) true Try.f11.params.toList args.toList ds p := hA0
 rw [Try.params11] at hA hval hsz
 obtain ⟨v0, vs0, d0, ds0, p0, q0, hargs, rfl, rfl, h0, r0⟩ := trodAll_cons hA
 obtain ⟨v1, vs1, d1, ds1, p1, q1, rfl, rfl, rfl, h1, r1⟩ := trodAll_cons r0
 obtain ⟨v2, vs2, d2, ds2, p2, q2, rfl, rfl, rfl, h2, r2⟩ := trodAll_cons r1
 obtain ⟨rfl, rfl, rfl⟩ := trodAll_nil r2
 obtain rfl : args = #[v0, v1, v2] := by cases args; simp_all
 obtain ⟨rfl, rfl⟩ := trodVars_none hV
 have k0 := h0
 have lt0 : ∀ x ∈ p0, x.block < W.heap.size := by obtain ⟨m, hm⟩ := k0; exact DataW.trod_lt m _ _ _ hm
 have wt0 := weights_at hsz (j := 0) (t := 24) (d := d0) rfl rfl
 obtain ⟨fuel0, hf0⟩ := h0
 obtain ⟨x0, hK0, hok0⟩ := (Opens.struct (f := id) (g := id) (fun _ => rfl) Try.underlying24 rfl (by kernel_rfl) (OpensFs.cons rfl rfl (Opens.slice (B := 48) Try.underlying22 (by kernel_rfl) (by kernel_rfl) opens55) rfl (OpensFs.one rfl rfl (Opens.int Try.underlying3 (by kernel_rfl))))).op hf0 wt0
 obtain ⟨cs0, rfl, hsz0⟩ := okWide_struct Try.underlying24 (hval 0 24 v0 rfl rfl)
 obtain ⟨l0_0, a0_1⟩ := x0
 obtain ⟨L0, hL0⟩ : ∃ L, (Value.agg cs0).cells.toList = L := ⟨_, rfl⟩
 rw [hL0] at hK0
 obtain ⟨_, _, rfl, ⟨A0_0, c0_0, rfl, hc0_0, hr0_0⟩, rfl⟩ := hK0
 obtain rfl : cs0 = #[.slice A0_0 l0_0.length c0_0, .int .i64 a0_1] := by have h := hL0; simp [Value.cells] at h; cases cs0; simp_all
 obtain ⟨o0_0, o0_1⟩ := hok0
 have k1 := h1
 have lt1 : ∀ x ∈ p1, x.block < W.heap.size := by obtain ⟨m, hm⟩ := k1; exact DataW.trod_lt m _ _ _ hm
 have wt1 := weights_at hsz (j := 1) (t := 53) (d := d1) rfl rfl
 obtain ⟨fuel1, hf1⟩ := h1
 obtain ⟨x1, hK1, hok1⟩ := (Opens.struct (f := id) (g := id) (fun _ => rfl) Try.underlying53 rfl (by kernel_rfl) (OpensFs.cons rfl rfl (Opens.bool Try.underlying4 (by kernel_rfl)) rfl (OpensFs.one rfl rfl (Opens.slice (B := 16) Try.underlying43 (by kernel_rfl) (by kernel_rfl) opens49)))).op hf1 wt1
 obtain ⟨cs1, rfl, hsz1⟩ := okWide_struct Try.underlying53 (hval 1 53 v1 rfl rfl)
 obtain ⟨a1_0, l1_1⟩ := x1
 obtain ⟨L1, hL1⟩ : ∃ L, (Value.agg cs1).cells.toList = L := ⟨_, rfl⟩
 rw [hL1] at hK1
 obtain ⟨_, _, rfl, rfl, ⟨A1_1, c1_1, rfl, hc1_1, hr1_1⟩⟩ := hK1
 obtain rfl : cs1 = #[.bool a1_0, .slice A1_1 l1_1.length c1_1] := by have h := hL1; simp [Value.cells] at h; cases cs1; simp_all
 obtain ⟨o1_0, o1_1⟩ := hok1
 have k2 := h2
 have lt2 : ∀ x ∈ p2, x.block < W.heap.size := by obtain ⟨m, hm⟩ := k2; exact DataW.trod_lt m _ _ _ hm
 have wt2 := weights_at hsz (j := 2) (t := 3) (d := d2) rfl rfl
 obtain ⟨a2, rfl, _, _, o2⟩ := open_int Try.underlying3 (hval 2 3 v2 rfl rfl) h2
 clear hA0 hval0 hsz0 hsz
 refine (assartlaw05_HeapBack.walk A0_0 c0_0 l0_0 a0_1 a1_0 A1_1 c1_1 l1_1 a2 W hr0_0 hc0_0 hr1_1 hc1_1).mono fun e W' ⟨he, bel0⟩ => ?_
 have bel := bel0
 subst he
 exact ⟨_, rfl, _, _, _, [], _, [], hW', trodAll_mk1 (shut_bool Try.underlying4 _), (trodAll_cons_mk (Below.trod laidOut (by kernel_rfl) (of_decide_eq_true (by kernel_rfl)) k0 bel lt0) (trodAll_cons_mk (Below.trod laidOut (by kernel_rfl) (of_decide_eq_true (by kernel_rfl)) k1 bel lt1) (trodAll_cons_mk (Below.trod laidOut (by kernel_rfl) (of_decide_eq_true (by kernel_rfl)) k2 bel lt2) trodAll_mk0))), rfl, bel.frame _, fun h => by cases h⟩
theorem over : Rows.heapBackRow.holds Try.pinned (OpenSpec.ofChange Rows.heapBackSpec) :=
 OpenClaim.holds_of_wide 11 Try.f11 rfl rfl rfl rfl rfl rfl rfl ⟨rfl, rfl, rfl, rfl, rfl⟩ rfl rfl rfl rfl rfl (by kernel_rfl) Try.func11 (by kernel_rfl)
  (of_decide_eq_true (by kernel_rfl)) (by unfold Func.isWrapper; first | (rw [if_pos (by decide +kernel)]; kernel_rfl) | (rw [if_neg (by decide +kernel)]; exact ⟨rfl, rfl⟩))
  (fun os started H enc _ => lifted os started H enc)
theorem proved : Rows.HeapBackSaid := over
#print axioms proved
end Go.Proofs.Yteiladccdenpbaa.heapBack
namespace Go.Proofs.Yteiladccdenpbaa
theorem heapBack_holds : Rows.HeapBackSaid := heapBack.proved
end Go.Proofs.Yteiladccdenpbaa
end
