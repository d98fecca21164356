/- Texts of this claim's proof put together: HShown5, HHeapTells, PTr, PHeap1, PureHeapTellsV, CHeapTells, HRow. -/
import Derived.Below
import Derived.Deep.Draws
import Derived.Deep.AppendLies
import Derived.Maps.AppendAt
import Derived.OwnWalk
import Derived.Laws.BytesArg
import Derived.Laws.MakeOwn
import Derived.Laws.OwnMore
import Derived.Deep.OwnRows
import Derived.Tactics
import Derived.Lib.ConvBytes
import Derived.Laws.Slices
import Derived.WalkKit
import Derived.KernelRfl
import Derived.RowKit3
import Derived.Deep.LoopGhost
import Derived.Deep.QuietTactic
import Derived.BigQuiet
import Derived.WideLaws
import Derived.Deep.DeepCutAuto
import Derived.Deep.CutBlock
import Derived.Deep.RegionHeld3
import Derived.Laws.Rows
import Derived.Lib.AppendStr
import Derived.ArgAppend
import Derived.Laws.IdiomCopy
import Derived.RowKit
import Derived.OrdersHeld
import Derived.Laws.BitsLemmas
import Derived.Laws.StructEq
import Derived.Test.YteiladccdenpbaaProg
import Derived.Shelf.RegionOpenPlain
import Derived.Shelf.Abstract
import Derived.Laws.CopyOwn
import Derived.Lib.SlBuf
import Derived.ChangeArms
import Derived.DataReads
import Derived.DataElems
import Derived.SizedLaws
import Derived.Test.YteiladccdenpbaaRows
import Derived.ProofKit
import Derived.OpenShut
import Derived.ShutString
import Derived.ChangeOld
import Derived.Test.YteiladccdenpbaaKHeapTells0
import Derived.Test.YteiladccdenpbaaKHeapTells1
import Derived.Test.YteiladccdenpbaaKHeapTells2
import Derived.Test.YteiladccdenpbaaKHeapTells3
namespace Foot
end Foot
namespace Go.Proofs.Yteiladccdenpbaa
end Go.Proofs.Yteiladccdenpbaa
namespace Go.Proofs.Yteiladccdenpbaa.P
end Go.Proofs.Yteiladccdenpbaa.P
namespace Go.Proofs.Yteiladccdenpbaa.Pure
end Go.Proofs.Yteiladccdenpbaa.Pure
namespace Go.Proofs.Yteiladccdenpbaa.heapTells
end Go.Proofs.Yteiladccdenpbaa.heapTells
namespace Go.Proofs.YteiladccdenpbaaW.PrintLast
end Go.Proofs.YteiladccdenpbaaW.PrintLast
namespace Go.Proofs.YteiladccdenpbaaW.PrintMore
end Go.Proofs.YteiladccdenpbaaW.PrintMore
namespace Go.Proofs.YteiladccdenpbaaW.PrintWords
end Go.Proofs.YteiladccdenpbaaW.PrintWords
namespace Kd
end Kd
section
namespace Go.Proofs.Yteiladccdenpbaa.P
open Go.RowKit Go.Proofs.YteiladccdenpbaaW.PrintWords Go.Proofs.YteiladccdenpbaaW.PrintLast Go.Proofs.YteiladccdenpbaaW.PrintMore
set_option linter.unusedVariables false
set_option linter.unusedSimpArgs false
theorem V_true {α : Type} {d : Kd α} (hd : Kd.Heap d) {e base c : Nat} {W : World} {A : Option Addr} {xs : List α} (hl : xs.length ≤ c) (h : d.C W A xs.length xs) : Kd.V d e W base (fun _ => True) (.slice A xs.length c) xs :=
  Kd.V_mk hl (fun W' hW => hd.C (fun k hk => hW k trivial hk) h)
theorem lit49 (W : World) (k v : Int) : Kd.C k49 (W.alloc (.cells #[.int .i64 k, .int .i64 v] 49)) (some ⟨W.heap.size, 0, none⟩) 1 [⟨k, v⟩] := by
  refine ⟨rfl, by omega, fun _ => ⟨_, rfl, fun j p hj => ?_⟩⟩
  match j, hj with
  | 0, hj =>
    simp at hj
    subst hj
    refine ⟨_, rfl, k49_mk _ _, fun i u hu => ?_⟩
    rw [add_g, blk_cell (alloc_new W _)]
    match i, hu with
    | 0, hu => simpa using hu
    | 1, hu => simpa using hu
    | i + 2, hu => simp at hu
  | j + 1, hj => simp at hj
def s5a : List S55 := [⟨1, false, ⟨true, [⟨1, 2⟩]⟩⟩, z55]
def s5b : List S55 := [⟨2, false, ⟨true, [⟨1, 2⟩]⟩⟩, ⟨1, false, ⟨false, [⟨1, 0⟩]⟩⟩]
def s5c : List S55 := [⟨1, false, ⟨true, [⟨1, 2⟩]⟩⟩, ⟨0, true, ⟨false, []⟩⟩]
def s5d : List S55 := [⟨2, false, ⟨true, [⟨1, 2⟩]⟩⟩, z55]
theorem s5_new : heap_New.f 2 1 = some ([z55, z55], 1, 0) := by kernel_rfl
theorem s5_a : heap_Alloc.f [z55, z55] 1 true [⟨1, 2⟩] [] = some (s5a, 1, 0, 0) := by kernel_rfl
theorem s5_b : heap_Alloc.f s5a 1 false [⟨1, 0⟩] [] = some (s5b, 1, 1, 0) := by kernel_rfl
theorem s5_c : heap_Loose.f s5b 1 1 = some (s5c, 1, 0) := by kernel_rfl
theorem s5_d : heap_Hold.f s5a 1 0 = some (s5d, 1, 0) := by kernel_rfl
theorem s5_f1 : heap_Fits.f 10 [z55, z55] 1 1 false = some true := by kernel_rfl
theorem s5_f2 : heap_Fits.f 10 [z55, z55] 1 2 false = some false := by kernel_rfl
theorem s5_f3 : heap_Fits.f 10 [z55, z55] 1 2 true = some true := by kernel_rfl
theorem s5_f4 : heap_Free.f 10 s5a 1 = some 1 := by kernel_rfl
theorem s5_s : heap_Settle.f s5c 1 = some (s5c.map fun x => ⟨x.f0, false, x.f2⟩, 1) := by kernel_rfl
theorem s5_f5 : heap_Free.f 10 (s5c.map fun x => ⟨x.f0, false, x.f2⟩) 1 = some 1 := by kernel_rfl
theorem s5_r : heap_Right.f s5b 1 = some true := by kernel_rfl
theorem s5_e : heap_Same.f s5a 1 s5d 1 = some false := by kernel_rfl
def assartlaw05_shown.f : Option Bool := some true
set_option maxHeartbeats 8000000 in
set_option maxRecDepth 100000 in
theorem assartlaw05_shown.calls (r : Bool) (w : World) (h : assartlaw05_shown.f = some r) : Calls Try.prog 33 #[] w fun e w' => e = .returned (.bool r) ∧ Below w.heap.size w w' := by
  obtain rfl := Option.some.inj h
  clear h
  have hu24 := Try.underlying24
  have hu43 := Try.underlying43
  have hu53 := Try.underlying53
  have hu55 := Try.underlying55
  go_enter Try.func33, Try.ntmps33
  go_wp2_with fail
  have hpre : Below w.heap.size w w := Below.refl w.heap.size w
  refine (heap_New.calls 2 1 _ _ _ w s5_new).mono ?_
  rintro e w1 ⟨v1, rfl, hv, hb⟩
  obtain ⟨A1, c1, ev⟩ := Kd.V_slice (Kd.S_V (base' := 0) hv)
  replace ev : v1 = .slice A1 2 c1 := ev
  subst ev
  have HB1 : Aside0 (Below w.heap.size w w1) := ⟨hpre.trans (hb.mono hpre.size)⟩
  have HVh : Aside0 (Kd.V k55 55 w1 0 (fun _ => True) (.slice A1 2 c1) [z55, z55]) := ⟨Kd.V_mono (Kd.S_V hv) (fun _ _ => trivial)⟩
  clear hpre hb hv
  go_wp2_with fail
  have hpre : Below w1.heap.size w1 ((w1.alloc (.cells #[.slice A1 2 c1, .int .i64 1] 24)).alloc (.cells #[.int .i64 1, .int .i64 2] 49)) := ((Below.refl w1.heap.size w1).alloc (Nat.le_refl _) _).alloc (by simp) _
  have KXh : Aside0 (((w1.alloc (.cells #[.slice A1 2 c1, .int .i64 1] 24)).alloc (.cells #[.int .i64 1, .int .i64 2] 49)).heap[w1.heap.size]? = some (.cells #[.slice A1 2 c1, .int .i64 1] 24 (0, 0))) := by
    have hn := alloc_new w1 (.cells #[.slice A1 2 c1, .int .i64 1] 24)
    (try simp only [World.size_alloc] at hn)
    exact ⟨blk_alloc (hn) _⟩
  refine (heap_Alloc.calls (fun _ => True) A1 c1 [z55, z55] 1 true (fun _ => True) (some ⟨w1.heap.size + 1, 0, none⟩) 1 [⟨1, 2⟩] none 0 [] s5a 1 _ 0 _ (Kd.V_below HVh.out hpre) (V_true k49_heap (Nat.le_refl _) (by have hl := lit49 (w1.alloc (.cells #[.slice A1 2 c1, .int .i64 1] 24)) 1 2; (try simp only [World.size_alloc] at hl); exact hl)) (Kd.C_nil _ _) (Nat.le_refl _) s5_a).mono ?_
  rintro e w2 ⟨v2, rfl, hv, hb⟩
  obtain ⟨A2, c2, ev⟩ := Kd.V_slice hv
  replace ev : v2 = .slice A2 2 c2 := ev
  subst ev
  have HB2 : Aside0 (Below w.heap.size w w2) := ⟨(HB1.out.trans (hpre.mono HB1.out.size)).trans (hb.mono (Nat.le_trans HB1.out.size hpre.size))⟩
  replace KXh := Aside0.mk (blk_below KXh.out hb)
  replace HVh := Aside0.mk (Kd.V_below (Kd.V_below HVh.out hpre) hb)
  have HVa : Aside0 (Kd.V k55 55 w2 0 (fun _ => True) (.slice A2 2 c2) s5a) := ⟨Kd.V_mono (hv) (fun _ _ => trivial)⟩
  clear hpre hb hv HB1
  go_wp2_with fail
  have hpre : Below w2.heap.size w2 ((w2.alloc (.cells #[.slice A2 2 c2, .int .i64 1] 24)).alloc (.cells #[.int .i64 1, .int .i64 0] 49)) := ((Below.refl w2.heap.size w2).alloc (Nat.le_refl _) _).alloc (by simp) _
  have KXa : Aside0 (((w2.alloc (.cells #[.slice A2 2 c2, .int .i64 1] 24)).alloc (.cells #[.int .i64 1, .int .i64 0] 49)).heap[w2.heap.size]? = some (.cells #[.slice A2 2 c2, .int .i64 1] 24 (0, 0))) := by
    have hn := alloc_new w2 (.cells #[.slice A2 2 c2, .int .i64 1] 24)
    (try simp only [World.size_alloc] at hn)
    exact ⟨blk_alloc (hn) _⟩
  refine (heap_Alloc.calls (fun _ => True) A2 c2 s5a 1 false (fun _ => True) (some ⟨w2.heap.size + 1, 0, none⟩) 1 [⟨1, 0⟩] none 0 [] s5b 1 _ 0 _ (Kd.V_below HVa.out hpre) (V_true k49_heap (Nat.le_refl _) (by have hl := lit49 (w2.alloc (.cells #[.slice A2 2 c2, .int .i64 1] 24)) 1 0; (try simp only [World.size_alloc] at hl); exact hl)) (Kd.C_nil _ _) (Nat.le_refl _) s5_b).mono ?_
  rintro e w3 ⟨v3, rfl, hv, hb⟩
  obtain ⟨A3, c3, ev⟩ := Kd.V_slice hv
  replace ev : v3 = .slice A3 2 c3 := ev
  subst ev
  have HB3 : Aside0 (Below w.heap.size w w3) := ⟨(HB2.out.trans (hpre.mono HB2.out.size)).trans (hb.mono (Nat.le_trans HB2.out.size hpre.size))⟩
  replace KXh := Aside0.mk (blk_below (blk_below KXh.out hpre) hb)
  replace KXa := Aside0.mk (blk_below KXa.out hb)
  replace HVh := Aside0.mk (Kd.V_below (Kd.V_below HVh.out hpre) hb)
  replace HVa := Aside0.mk (Kd.V_below (Kd.V_below HVa.out hpre) hb)
  have HVb : Aside0 (Kd.V k55 55 w3 0 (fun _ => True) (.slice A3 2 c3) s5b) := ⟨Kd.V_mono (hv) (fun _ _ => trivial)⟩
  clear hpre hb hv HB2
  go_wp2_with fail
  have hpre : Below w3.heap.size w3 (w3.alloc (.cells #[.slice A3 2 c3, .int .i64 1] 24)) := (Below.refl w3.heap.size w3).alloc (Nat.le_refl _) _
  have KXb : Aside0 ((w3.alloc (.cells #[.slice A3 2 c3, .int .i64 1] 24)).heap[w3.heap.size]? = some (.cells #[.slice A3 2 c3, .int .i64 1] 24 (0, 0))) := by
    have hn := alloc_new w3 (.cells #[.slice A3 2 c3, .int .i64 1] 24)
    (try simp only [World.size_alloc] at hn)
    exact ⟨hn⟩
  refine (heap_Loose.calls (fun _ => True) A3 c3 s5b 1 1 s5c 1 0 _ (Kd.V_below HVb.out hpre) s5_c).mono ?_
  rintro e w4 ⟨v4, rfl, hv, hb⟩
  obtain ⟨A4, c4, ev⟩ := Kd.V_slice hv
  replace ev : v4 = .slice A4 2 c4 := ev
  subst ev
  have HB4 : Aside0 (Below w.heap.size w w4) := ⟨(HB3.out.trans (hpre.mono HB3.out.size)).trans (hb.mono (Nat.le_trans HB3.out.size hpre.size))⟩
  replace KXh := Aside0.mk (blk_below (blk_below KXh.out hpre) hb)
  replace KXa := Aside0.mk (blk_below (blk_below KXa.out hpre) hb)
  replace KXb := Aside0.mk (blk_below KXb.out hb)
  replace HVh := Aside0.mk (Kd.V_below (Kd.V_below HVh.out hpre) hb)
  replace HVa := Aside0.mk (Kd.V_below (Kd.V_below HVa.out hpre) hb)
  replace HVb := Aside0.mk (Kd.V_below (Kd.V_below HVb.out hpre) hb)
  have HVc : Aside0 (Kd.V k55 55 w4 0 (fun _ => True) (.slice A4 2 c4) s5c) := ⟨Kd.V_mono (hv) (fun _ _ => trivial)⟩
  clear hpre hb hv HB3
  have xa_0 : w4.cell? ⟨w2.heap.size, 0, none⟩ = some (.slice A2 2 c2) := (blk_cell KXa.out 0).trans rfl
  have xa_1 : w4.cell? ⟨w2.heap.size, 1, none⟩ = some (.int .i64 1) := (blk_cell KXa.out 1).trans rfl
  have la : w2.heap.size < w4.heap.size := (Array.getElem?_eq_some_iff.1 KXa.out).1
  go_wp2_with fail
  clear xa_0 xa_1 la
  have hpre : Below w4.heap.size w4 (w4.alloc (.cells #[.slice A4 2 c4, .int .i64 1] 24)) := (Below.refl w4.heap.size w4).alloc (Nat.le_refl _) _
  have KXc : Aside0 ((w4.alloc (.cells #[.slice A4 2 c4, .int .i64 1] 24)).heap[w4.heap.size]? = some (.cells #[.slice A4 2 c4, .int .i64 1] 24 (0, 0))) := by
    have hn := alloc_new w4 (.cells #[.slice A4 2 c4, .int .i64 1] 24)
    (try simp only [World.size_alloc] at hn)
    exact ⟨hn⟩
  refine (heap_Hold.calls (fun _ => True) A2 c2 s5a 1 0 s5d 1 0 _ (Kd.V_below HVa.out hpre) s5_d).mono ?_
  rintro e w5 ⟨v5, rfl, hv, hb⟩
  obtain ⟨A5, c5, ev⟩ := Kd.V_slice hv
  replace ev : v5 = .slice A5 2 c5 := ev
  subst ev
  have HB5 : Aside0 (Below w.heap.size w w5) := ⟨(HB4.out.trans (hpre.mono HB4.out.size)).trans (hb.mono (Nat.le_trans HB4.out.size hpre.size))⟩
  replace KXh := Aside0.mk (blk_below (blk_below KXh.out hpre) hb)
  replace KXa := Aside0.mk (blk_below (blk_below KXa.out hpre) hb)
  replace KXb := Aside0.mk (blk_below (blk_below KXb.out hpre) hb)
  replace KXc := Aside0.mk (blk_below KXc.out hb)
  replace HVh := Aside0.mk (Kd.V_below (Kd.V_below HVh.out hpre) hb)
  replace HVa := Aside0.mk (Kd.V_below (Kd.V_below HVa.out hpre) hb)
  replace HVb := Aside0.mk (Kd.V_below (Kd.V_below HVb.out hpre) hb)
  replace HVc := Aside0.mk (Kd.V_below (Kd.V_below HVc.out hpre) hb)
  have HVd : Aside0 (Kd.V k55 55 w5 0 (fun _ => True) (.slice A5 2 c5) s5d) := ⟨Kd.V_mono (hv) (fun _ _ => trivial)⟩
  clear hpre hb hv HB4
  have xh_0 : w5.cell? ⟨w1.heap.size, 0, none⟩ = some (.slice A1 2 c1) := (blk_cell KXh.out 0).trans rfl
  have xh_1 : w5.cell? ⟨w1.heap.size, 1, none⟩ = some (.int .i64 1) := (blk_cell KXh.out 1).trans rfl
  have lh : w1.heap.size < w5.heap.size := (Array.getElem?_eq_some_iff.1 KXh.out).1
  go_wp2_with fail
  clear xh_0 xh_1 lh
  have hpre : Below w5.heap.size w5 (w5.alloc (.cells #[.slice A5 2 c5, .int .i64 1] 24)) := (Below.refl w5.heap.size w5).alloc (Nat.le_refl _) _
  have KXd : Aside0 ((w5.alloc (.cells #[.slice A5 2 c5, .int .i64 1] 24)).heap[w5.heap.size]? = some (.cells #[.slice A5 2 c5, .int .i64 1] 24 (0, 0))) := by
    have hn := alloc_new w5 (.cells #[.slice A5 2 c5, .int .i64 1] 24)
    (try simp only [World.size_alloc] at hn)
    exact ⟨hn⟩
  refine (heap_Fits.calls 10 A1 c1 [z55, z55] 1 1 false true _ (Kd.V_reads' (Kd.V_below HVh.out hpre)).2.2 (Kd.V_reads' HVh.out).2.1 s5_f1).mono ?_
  rintro e w6 ⟨rfl, hb⟩
  have HB6 : Aside0 (Below w.heap.size w w6) := ⟨(HB5.out.trans (hpre.mono HB5.out.size)).trans (hb.mono (Nat.le_trans HB5.out.size hpre.size))⟩
  replace KXh := Aside0.mk (blk_below (blk_below KXh.out hpre) hb)
  replace KXa := Aside0.mk (blk_below (blk_below KXa.out hpre) hb)
  replace KXb := Aside0.mk (blk_below (blk_below KXb.out hpre) hb)
  replace KXc := Aside0.mk (blk_below (blk_below KXc.out hpre) hb)
  replace KXd := Aside0.mk (blk_below KXd.out hb)
  replace HVh := Aside0.mk (Kd.V_below (Kd.V_below HVh.out hpre) hb)
  replace HVa := Aside0.mk (Kd.V_below (Kd.V_below HVa.out hpre) hb)
  replace HVb := Aside0.mk (Kd.V_below (Kd.V_below HVb.out hpre) hb)
  replace HVc := Aside0.mk (Kd.V_below (Kd.V_below HVc.out hpre) hb)
  replace HVd := Aside0.mk (Kd.V_below (Kd.V_below HVd.out hpre) hb)
  clear hpre hb HB5
  have xh_0 : w6.cell? ⟨w1.heap.size, 0, none⟩ = some (.slice A1 2 c1) := (blk_cell KXh.out 0).trans rfl
  have xh_1 : w6.cell? ⟨w1.heap.size, 1, none⟩ = some (.int .i64 1) := (blk_cell KXh.out 1).trans rfl
  have lh : w1.heap.size < w6.heap.size := (Array.getElem?_eq_some_iff.1 KXh.out).1
  go_wp2_with fail
  clear xh_0 xh_1 lh
  have hpre : Below w6.heap.size w6 w6 := Below.refl w6.heap.size w6
  refine (heap_Fits.calls 10 A1 c1 [z55, z55] 1 2 false false _ (Kd.V_reads' (Kd.V_below HVh.out hpre)).2.2 (Kd.V_reads' HVh.out).2.1 s5_f2).mono ?_
  rintro e w7 ⟨rfl, hb⟩
  have HB7 : Aside0 (Below w.heap.size w w7) := ⟨(HB6.out.trans (hpre.mono HB6.out.size)).trans (hb.mono (Nat.le_trans HB6.out.size hpre.size))⟩
  replace KXh := Aside0.mk (blk_below (blk_below KXh.out hpre) hb)
  replace KXa := Aside0.mk (blk_below (blk_below KXa.out hpre) hb)
  replace KXb := Aside0.mk (blk_below (blk_below KXb.out hpre) hb)
  replace KXc := Aside0.mk (blk_below (blk_below KXc.out hpre) hb)
  replace KXd := Aside0.mk (blk_below (blk_below KXd.out hpre) hb)
  replace HVh := Aside0.mk (Kd.V_below (Kd.V_below HVh.out hpre) hb)
  replace HVa := Aside0.mk (Kd.V_below (Kd.V_below HVa.out hpre) hb)
  replace HVb := Aside0.mk (Kd.V_below (Kd.V_below HVb.out hpre) hb)
  replace HVc := Aside0.mk (Kd.V_below (Kd.V_below HVc.out hpre) hb)
  replace HVd := Aside0.mk (Kd.V_below (Kd.V_below HVd.out hpre) hb)
  clear hpre hb HB6
  have xh_0 : w7.cell? ⟨w1.heap.size, 0, none⟩ = some (.slice A1 2 c1) := (blk_cell KXh.out 0).trans rfl
  have xh_1 : w7.cell? ⟨w1.heap.size, 1, none⟩ = some (.int .i64 1) := (blk_cell KXh.out 1).trans rfl
  have lh : w1.heap.size < w7.heap.size := (Array.getElem?_eq_some_iff.1 KXh.out).1
  go_wp2_with fail
  clear xh_0 xh_1 lh
  have hpre : Below w7.heap.size w7 w7 := Below.refl w7.heap.size w7
  refine (heap_Fits.calls 10 A1 c1 [z55, z55] 1 2 true true _ (Kd.V_reads' (Kd.V_below HVh.out hpre)).2.2 (Kd.V_reads' HVh.out).2.1 s5_f3).mono ?_
  rintro e w8 ⟨rfl, hb⟩
  have HB8 : Aside0 (Below w.heap.size w w8) := ⟨(HB7.out.trans (hpre.mono HB7.out.size)).trans (hb.mono (Nat.le_trans HB7.out.size hpre.size))⟩
  replace KXh := Aside0.mk (blk_below (blk_below KXh.out hpre) hb)
  replace KXa := Aside0.mk (blk_below (blk_below KXa.out hpre) hb)
  replace KXb := Aside0.mk (blk_below (blk_below KXb.out hpre) hb)
  replace KXc := Aside0.mk (blk_below (blk_below KXc.out hpre) hb)
  replace KXd := Aside0.mk (blk_below (blk_below KXd.out hpre) hb)
  replace HVh := Aside0.mk (Kd.V_below (Kd.V_below HVh.out hpre) hb)
  replace HVa := Aside0.mk (Kd.V_below (Kd.V_below HVa.out hpre) hb)
  replace HVb := Aside0.mk (Kd.V_below (Kd.V_below HVb.out hpre) hb)
  replace HVc := Aside0.mk (Kd.V_below (Kd.V_below HVc.out hpre) hb)
  replace HVd := Aside0.mk (Kd.V_below (Kd.V_below HVd.out hpre) hb)
  clear hpre hb HB7
  have xa_0 : w8.cell? ⟨w2.heap.size, 0, none⟩ = some (.slice A2 2 c2) := (blk_cell KXa.out 0).trans rfl
  have xa_1 : w8.cell? ⟨w2.heap.size, 1, none⟩ = some (.int .i64 1) := (blk_cell KXa.out 1).trans rfl
  have la : w2.heap.size < w8.heap.size := (Array.getElem?_eq_some_iff.1 KXa.out).1
  go_wp2_with fail
  clear xa_0 xa_1 la
  have hpre : Below w8.heap.size w8 w8 := Below.refl w8.heap.size w8
  refine (heap_Free.calls 10 A2 c2 s5a 1 1 _ (Kd.V_reads' (Kd.V_below HVa.out hpre)).2.2 (Kd.V_reads' HVa.out).2.1 s5_f4).mono ?_
  rintro e w9 ⟨rfl, hb⟩
  have HB9 : Aside0 (Below w.heap.size w w9) := ⟨(HB8.out.trans (hpre.mono HB8.out.size)).trans (hb.mono (Nat.le_trans HB8.out.size hpre.size))⟩
  replace KXh := Aside0.mk (blk_below (blk_below KXh.out hpre) hb)
  replace KXa := Aside0.mk (blk_below (blk_below KXa.out hpre) hb)
  replace KXb := Aside0.mk (blk_below (blk_below KXb.out hpre) hb)
  replace KXc := Aside0.mk (blk_below (blk_below KXc.out hpre) hb)
  replace KXd := Aside0.mk (blk_below (blk_below KXd.out hpre) hb)
  replace HVh := Aside0.mk (Kd.V_below (Kd.V_below HVh.out hpre) hb)
  replace HVa := Aside0.mk (Kd.V_below (Kd.V_below HVa.out hpre) hb)
  replace HVb := Aside0.mk (Kd.V_below (Kd.V_below HVb.out hpre) hb)
  replace HVc := Aside0.mk (Kd.V_below (Kd.V_below HVc.out hpre) hb)
  replace HVd := Aside0.mk (Kd.V_below (Kd.V_below HVd.out hpre) hb)
  clear hpre hb HB8
  obtain ⟨bd, bA, bc, rfl, b0, -⟩ := at_T55 (Kd.V_reads' HVb.out).2.2 0 (by decide) (by decide)
  obtain ⟨cd, cA, cc, rfl, c0, -⟩ := at_T55 (Kd.V_reads' HVc.out).2.2 0 (by decide) (by decide)
  obtain ⟨cd', cA', cc', e', c0', c1', -⟩ := at_T55 (Kd.V_reads' HVc.out).2.2 1 (by decide) (by decide)
  cases e'
  replace b0 : w9.cell? bd = some (.int .i64 2) := by rw [show (0 : Int).toNat * 4 = 0 from rfl, Addr.add_zero'] at b0; exact b0
  replace c0 : w9.cell? cd = some (.int .i64 1) := by rw [show (0 : Int).toNat * 4 = 0 from rfl, Addr.add_zero'] at c0; exact c0
  replace c1' : w9.cell? ⟨cd.block, cd.off + 4 + 1, none⟩ = some (.bool true) := c1'
  clear c0'
  have xb_0 : w9.cell? ⟨w3.heap.size, 0, none⟩ = some (.slice (some bd) 2 c3) := (blk_cell KXb.out 0).trans rfl
  have xb_1 : w9.cell? ⟨w3.heap.size, 1, none⟩ = some (.int .i64 1) := (blk_cell KXb.out 1).trans rfl
  have lb : w3.heap.size < w9.heap.size := (Array.getElem?_eq_some_iff.1 KXb.out).1
  have xc_0 : w9.cell? ⟨w4.heap.size, 0, none⟩ = some (.slice (some cd) 2 c4) := (blk_cell KXc.out 0).trans rfl
  have xc_1 : w9.cell? ⟨w4.heap.size, 1, none⟩ = some (.int .i64 1) := (blk_cell KXc.out 1).trans rfl
  have lc : w4.heap.size < w9.heap.size := (Array.getElem?_eq_some_iff.1 KXc.out).1
  go_wp2_with fail
  clear xb_0 xb_1 lb xc_0 xc_1 lc
  have hpre : Below w9.heap.size w9 w9 := Below.refl w9.heap.size w9
  refine (heap_Settle.calls (fun _ => True) (some cd) c4 s5c 1 _ 1 _ (Kd.V_below HVc.out hpre) s5_s).mono ?_
  rintro e w10 ⟨v10, rfl, hv, hb⟩
  obtain ⟨A10, c10, ev⟩ := Kd.V_slice hv
  replace ev : v10 = .slice A10 2 c10 := ev
  subst ev
  have HB10 : Aside0 (Below w.heap.size w w10) := ⟨(HB9.out.trans (hpre.mono HB9.out.size)).trans (hb.mono (Nat.le_trans HB9.out.size hpre.size))⟩
  replace KXh := Aside0.mk (blk_below (blk_below KXh.out hpre) hb)
  replace KXa := Aside0.mk (blk_below (blk_below KXa.out hpre) hb)
  replace KXb := Aside0.mk (blk_below (blk_below KXb.out hpre) hb)
  replace KXc := Aside0.mk (blk_below (blk_below KXc.out hpre) hb)
  replace KXd := Aside0.mk (blk_below (blk_below KXd.out hpre) hb)
  replace HVh := Aside0.mk (Kd.V_below (Kd.V_below HVh.out hpre) hb)
  replace HVa := Aside0.mk (Kd.V_below (Kd.V_below HVa.out hpre) hb)
  replace HVb := Aside0.mk (Kd.V_below (Kd.V_below HVb.out hpre) hb)
  replace HVc := Aside0.mk (Kd.V_below (Kd.V_below HVc.out hpre) hb)
  replace HVd := Aside0.mk (Kd.V_below (Kd.V_below HVd.out hpre) hb)
  have HVs : Aside0 (Kd.V k55 55 w10 0 (fun _ => True) (.slice A10 2 c10) (s5c.map fun x => (⟨x.f0, false, x.f2⟩ : S55))) := ⟨Kd.V_mono (hv) (fun _ _ => trivial)⟩
  clear hpre hb hv HB9
  go_wp2_with fail
  have hpre : Below w10.heap.size w10 w10 := Below.refl w10.heap.size w10
  refine (heap_Free.calls 10 A10 c10 (s5c.map fun x => (⟨x.f0, false, x.f2⟩ : S55)) 1 1 _ (Kd.V_reads' (Kd.V_below HVs.out hpre)).2.2 (Kd.V_reads' HVs.out).2.1 s5_f5).mono ?_
  rintro e w11 ⟨rfl, hb⟩
  have HB11 : Aside0 (Below w.heap.size w w11) := ⟨(HB10.out.trans (hpre.mono HB10.out.size)).trans (hb.mono (Nat.le_trans HB10.out.size hpre.size))⟩
  replace KXh := Aside0.mk (blk_below (blk_below KXh.out hpre) hb)
  replace KXa := Aside0.mk (blk_below (blk_below KXa.out hpre) hb)
  replace KXb := Aside0.mk (blk_below (blk_below KXb.out hpre) hb)
  replace KXc := Aside0.mk (blk_below (blk_below KXc.out hpre) hb)
  replace KXd := Aside0.mk (blk_below (blk_below KXd.out hpre) hb)
  replace HVh := Aside0.mk (Kd.V_below (Kd.V_below HVh.out hpre) hb)
  replace HVa := Aside0.mk (Kd.V_below (Kd.V_below HVa.out hpre) hb)
  replace HVb := Aside0.mk (Kd.V_below (Kd.V_below HVb.out hpre) hb)
  replace HVc := Aside0.mk (Kd.V_below (Kd.V_below HVc.out hpre) hb)
  replace HVd := Aside0.mk (Kd.V_below (Kd.V_below HVd.out hpre) hb)
  replace HVs := Aside0.mk (Kd.V_below (Kd.V_below HVs.out hpre) hb)
  clear hpre hb HB10
  have xb_0 : w11.cell? ⟨w3.heap.size, 0, none⟩ = some (.slice (some bd) 2 c3) := (blk_cell KXb.out 0).trans rfl
  have xb_1 : w11.cell? ⟨w3.heap.size, 1, none⟩ = some (.int .i64 1) := (blk_cell KXb.out 1).trans rfl
  have lb : w3.heap.size < w11.heap.size := (Array.getElem?_eq_some_iff.1 KXb.out).1
  go_wp2_with fail
  clear xb_0 xb_1 lb
  have hpre : Below w11.heap.size w11 w11 := Below.refl w11.heap.size w11
  refine (heap_Right.calls (some bd) c3 s5b 1 true _ (Kd.V_reads' (Kd.V_below HVb.out hpre)).2.2 (Kd.V_reads' HVb.out).2.1 s5_r).mono ?_
  rintro e w12 ⟨rfl, hb⟩
  have HB12 : Aside0 (Below w.heap.size w w12) := ⟨(HB11.out.trans (hpre.mono HB11.out.size)).trans (hb.mono (Nat.le_trans HB11.out.size hpre.size))⟩
  replace KXh := Aside0.mk (blk_below (blk_below KXh.out hpre) hb)
  replace KXa := Aside0.mk (blk_below (blk_below KXa.out hpre) hb)
  replace KXb := Aside0.mk (blk_below (blk_below KXb.out hpre) hb)
  replace KXc := Aside0.mk (blk_below (blk_below KXc.out hpre) hb)
  replace KXd := Aside0.mk (blk_below (blk_below KXd.out hpre) hb)
  replace HVh := Aside0.mk (Kd.V_below (Kd.V_below HVh.out hpre) hb)
  replace HVa := Aside0.mk (Kd.V_below (Kd.V_below HVa.out hpre) hb)
  replace HVb := Aside0.mk (Kd.V_below (Kd.V_below HVb.out hpre) hb)
  replace HVc := Aside0.mk (Kd.V_below (Kd.V_below HVc.out hpre) hb)
  replace HVd := Aside0.mk (Kd.V_below (Kd.V_below HVd.out hpre) hb)
  replace HVs := Aside0.mk (Kd.V_below (Kd.V_below HVs.out hpre) hb)
  clear hpre hb HB11
  have xa_0 : w12.cell? ⟨w2.heap.size, 0, none⟩ = some (.slice A2 2 c2) := (blk_cell KXa.out 0).trans rfl
  have xa_1 : w12.cell? ⟨w2.heap.size, 1, none⟩ = some (.int .i64 1) := (blk_cell KXa.out 1).trans rfl
  have la : w2.heap.size < w12.heap.size := (Array.getElem?_eq_some_iff.1 KXa.out).1
  have xd_0 : w12.cell? ⟨w5.heap.size, 0, none⟩ = some (.slice A5 2 c5) := (blk_cell KXd.out 0).trans rfl
  have xd_1 : w12.cell? ⟨w5.heap.size, 1, none⟩ = some (.int .i64 1) := (blk_cell KXd.out 1).trans rfl
  have ld : w5.heap.size < w12.heap.size := (Array.getElem?_eq_some_iff.1 KXd.out).1
  go_wp2_with fail
  clear xa_0 xa_1 la xd_0 xd_1 ld
  have hpre : Below w12.heap.size w12 w12 := Below.refl w12.heap.size w12
  refine (heap_Same.calls A2 c2 s5a 1 A5 c5 s5d 1 false _ (Kd.V_reads' (Kd.V_below HVa.out hpre)).2.2 (Kd.V_reads' HVa.out).2.1 (Kd.V_reads' (Kd.V_below HVd.out hpre)).2.2 (Kd.V_reads' HVd.out).2.1 s5_e).mono ?_
  rintro e w13 ⟨rfl, hb⟩
  have HB13 : Aside0 (Below w.heap.size w w13) := ⟨(HB12.out.trans (hpre.mono HB12.out.size)).trans (hb.mono (Nat.le_trans HB12.out.size hpre.size))⟩
  replace KXh := Aside0.mk (blk_below (blk_below KXh.out hpre) hb)
  replace KXa := Aside0.mk (blk_below (blk_below KXa.out hpre) hb)
  replace KXb := Aside0.mk (blk_below (blk_below KXb.out hpre) hb)
  replace KXc := Aside0.mk (blk_below (blk_below KXc.out hpre) hb)
  replace KXd := Aside0.mk (blk_below (blk_below KXd.out hpre) hb)
  replace HVh := Aside0.mk (Kd.V_below (Kd.V_below HVh.out hpre) hb)
  replace HVa := Aside0.mk (Kd.V_below (Kd.V_below HVa.out hpre) hb)
  replace HVb := Aside0.mk (Kd.V_below (Kd.V_below HVb.out hpre) hb)
  replace HVc := Aside0.mk (Kd.V_below (Kd.V_below HVc.out hpre) hb)
  replace HVd := Aside0.mk (Kd.V_below (Kd.V_below HVd.out hpre) hb)
  replace HVs := Aside0.mk (Kd.V_below (Kd.V_below HVs.out hpre) hb)
  clear hpre hb HB12
  go_wp2
  go_ret
  exact ⟨rfl, HB13.out⟩
end Go.Proofs.Yteiladccdenpbaa.P
end
section
namespace Go.Proofs.Yteiladccdenpbaa.P
open Go.RowKit Go.Proofs.YteiladccdenpbaaW.PrintWords Go.Proofs.YteiladccdenpbaaW.PrintLast Go.Proofs.YteiladccdenpbaaW.PrintMore
attribute [local go_sem] max2_int min2_int max_two min_two max_three min_three max_four min_four
set_option linter.unusedVariables false
set_option linter.unusedSimpArgs false
mutual
def assartlaw05_HeapTells.j0 : Nat → Int → Int → Bool → Bool → List (S55) → Int → List (S55) → Int → Option (Bool)
  | 0, _, _, _, _, _, _, _, _ => none
  | k + 1, x5, x6, x7, x29, x170000, x170001, x171000, x171001 => if x29 = true then (some x7) else ((heap_New.f x5 x6).bind fun bt174 => ((assartref05_New.f x5 x6).bind fun bt180 => ((assartref05_Right.f k x170000 x170001).bind fun t186 => ((assartref05_Same.f k bt174.1 bt174.2.1 bt180.1 bt180.2.1).bind fun t187 => (if t187 = true then (if bt174.2.2 = bt180.2.2 then ((heap_Right.f x170000 x170001).bind fun t188 => (assartlaw05_HeapTells.j1 k x5 x7 t186 (t188 != t186) x170000 x170001 x171000 x171001)) else (assartlaw05_HeapTells.j1 k x5 x7 t186 true x170000 x170001 x171000 x171001)) else (assartlaw05_HeapTells.j1 k x5 x7 t186 true x170000 x170001 x171000 x171001))))))
def assartlaw05_HeapTells.j1 : Nat → Int → Bool → Bool → Bool → List (S55) → Int → List (S55) → Int → Option (Bool)
  | 0, _, _, _, _, _, _, _, _ => none
  | k + 1, x5, x7, x12, x59, x170000, x170001, x171000, x171001 => if x59 = true then (some false) else (if x12 = true then ((assartref05_Right.f k x171000 x171001).bind fun t189 => (if t189 = true then ((heap_Same.f x170000 x170001 x171000 x171001).bind fun t190 => ((assartref05_Same.f k x170000 x170001 x171000 x171001).bind fun t191 => (assartlaw05_HeapTells.j2 k x5 x7 x12 (t190 != t191) x170000 x170001))) else (assartlaw05_HeapTells.j2 k x5 x7 x12 false x170000 x170001))) else (assartlaw05_HeapTells.j2 k x5 x7 x12 false x170000 x170001))
def assartlaw05_HeapTells.j2 : Nat → Int → Bool → Bool → Bool → List (S55) → Int → Option (Bool)
  | 0, _, _, _, _, _, _ => none
  | k + 1, x5, x7, x12, x73, x170000, x170001 => if x73 = true then (some false) else (if x7 = true then (if x12 = true then ((heap_Free.f k x170000 x170001).bind fun t192 => ((assartref05_Free.f k x170000 x170001).bind fun t193 => (if t192 = t193 then ((heap_Fits.f k x170000 x170001 x5 false).bind fun t194 => ((assartref05_Fits.f k x170000 x170001 x5 false).bind fun t195 => (if (t194 == t195) = true then ((heap_Fits.f k x170000 x170001 x5 true).bind fun t196 => ((assartref05_Fits.f k x170000 x170001 x5 true).bind fun t197 => (some (t196 == t197)))) else (some false)))) else (some false)))) else (some true)) else (some false))
end
def assartlaw05_HeapTells.g (k : Nat) (l0_0 : List (S55)) (a0_1 : Int) (l0_2 : List (S55)) (a0_3 : Int) (a0_4 : Int) (a0_5 : Int) : Option (Bool) := (assartlaw05_shown.f).bind fun t171 => ((assartref05_Small.f k l0_0 a0_1 60).bind fun t172 => (if t172 = true then ((assartref05_Small.f k l0_2 a0_3 60).bind fun t173 => (assartlaw05_HeapTells.j0 k a0_4 a0_5 t171 (!t173) l0_0 a0_1 l0_2 a0_3)) else (assartlaw05_HeapTells.j0 k a0_4 a0_5 t171 true l0_0 a0_1 l0_2 a0_3)))
def assartlaw05_HeapTells.T13 : Bool × List (List Nat × List Nat) := (true, [([], []), ([0], [0]), ([1], [1]), ([2, 1, 1], [1, 2]), ([1, 3], [1, 3]), ([4, 3], [4]), ([5], [5]), ([5], [5]), ([6, 7, 5, 5], [5, 6, 7]), ([5], [5]), ([5], [5]), ([9, 10, 8, 5], [5, 9, 10]), ([8, 11, 5], [5, 8, 11]), ([5, 12], [5, 12])])
def assartlaw05_HeapTells.B13 : List Nat := [0, 1, 3, 7, 15, 31, 63, 63, 255, 63, 63, 2047, 4095, 8191]
theorem assartlaw05_HeapTells.tab13 : rtab .any (opsOf Try.f9 13) = assartlaw05_HeapTells.T13 := by kernel_rfl
theorem assartlaw05_HeapTells.bits13 : waitsOk assartlaw05_HeapTells.T13.2 assartlaw05_HeapTells.B13 = true := by kernel_rfl
def assartlaw05_HeapTells.T15 : Bool × List (List Nat × List Nat) := (true, [([], []), ([0], [0]), ([1], [1]), ([2, 1], [1, 2]), ([3, 1, 1], [1, 3]), ([4], [4]), ([5, 4, 4], [4, 5]), ([4], [4]), ([7, 6, 4], [4, 7]), ([6, 8, 4], [4, 6, 8]), ([9, 8, 4], [4, 9]), ([10], [10]), ([10], [10]), ([11, 12, 10, 10], [10, 11, 12]), ([10], [10]), ([10], [10]), ([14, 15, 13, 10], [10, 14, 15]), ([13, 16, 10], [10, 13, 16]), ([10, 17, 4], [4, 10, 17]), ([18, 16, 4], [4, 18]), ([19], [19]), ([19], [19]), ([20, 21, 19, 19], [19, 20, 21]), ([19], [19]), ([19], [19]), ([23, 24, 22, 19], [19, 23, 24]), ([22, 25, 19], [19, 22, 25]), ([19, 26, 4], [4, 19, 26]), ([4, 27, 1], [1, 4, 27]), ([1, 28], [1, 28]), ([29, 25, 0, 1, 2, 3, 4, 5, 6, 7, 8, 9, 10, 11, 12, 13, 14, 15, 16, 17, 18, 19, 20, 21, 22, 23, 24, 25, 26, 27, 28, 29], [29])])
def assartlaw05_HeapTells.B15 : List Nat := [0, 1, 3, 7, 15, 31, 63, 31, 255, 511, 1023, 2047, 2047, 8191, 2047, 2047, 65535, 131071, 262143, 524287, 1048575, 1048575, 4194303, 1048575, 1048575, 33554431, 67108863, 134217727, 268435455, 536870911, 1073741823]
theorem assartlaw05_HeapTells.tab15 : rtab .any (opsOf Try.f9 15) = assartlaw05_HeapTells.T15 := by kernel_rfl
theorem assartlaw05_HeapTells.bits15 : waitsOk assartlaw05_HeapTells.T15.2 assartlaw05_HeapTells.B15 = true := by kernel_rfl
set_option maxHeartbeats 8000000 in
set_option maxRecDepth 100000 in
theorem assartlaw05_HeapTells.walk (k : Nat) (A0_0 : Option Addr) (c0_0 : Nat) (l0_0 : List (S55)) (a0_1 : Int) (A0_2 : Option Addr) (c0_2 : Nat) (l0_2 : List (S55)) (a0_3 : Int) (a0_4 : Int) (a0_5 : Int) (r : Bool) (w : World) (hr0_0 : Kd.C k55 w A0_0 l0_0.length l0_0) (hc0_0 : l0_0.length ≤ c0_0) (hr0_2 : Kd.C k55 w A0_2 l0_2.length l0_2) (hc0_2 : l0_2.length ≤ c0_2) (h : assartlaw05_HeapTells.g k l0_0 a0_1 l0_2 a0_3 a0_4 a0_5 = some r) (hr : r = true) :
    Calls Try.prog 9 #[.agg #[.slice A0_0 l0_0.length c0_0, .int .i64 a0_1, .slice A0_2 l0_2.length c0_2, .int .i64 a0_3, .int .i64 a0_4, .int .i64 a0_5]] w fun e w' => e = .returned (.bool r) ∧ Below w.heap.size w w' := by
  have hu61 := Try.underlying61
  have hu24 := Try.underlying24
  have HR0_0 := Aside0.mk hr0_0
  have HC0_0 := Aside0.mk hc0_0
  clear hr0_0 hc0_0
  have HR0_2 := Aside0.mk hr0_2
  have HC0_2 := Aside0.mk hc0_2
  clear hr0_2 hc0_2
  have HB := Aside0.mk (Below.refl w.heap.size w)
  have H : ((assartlaw05_shown.f).bind fun t171 => ((assartref05_Small.f k l0_0 a0_1 60).bind fun t172 => (if t172 = true then ((assartref05_Small.f k l0_2 a0_3 60).bind fun t173 => (assartlaw05_HeapTells.j0 k a0_4 a0_5 t171 (!t173) l0_0 a0_1 l0_2 a0_3)) else (assartlaw05_HeapTells.j0 k a0_4 a0_5 t171 true l0_0 a0_1 l0_2 a0_3)))) = some r := h
  clear h
  replace H := Option.bind_eq_some_iff.mp H
  obtain ⟨t171, A20, H⟩ := H
  replace H : ((assartref05_Small.f k l0_0 a0_1 60).bind fun t172 => (if t172 = true then ((assartref05_Small.f k l0_2 a0_3 60).bind fun t173 => (assartlaw05_HeapTells.j0 k a0_4 a0_5 t171 (!t173) l0_0 a0_1 l0_2 a0_3)) else (assartlaw05_HeapTells.j0 k a0_4 a0_5 t171 true l0_0 a0_1 l0_2 a0_3))) = some r := H
  have A2 := Aside0.mk A20
  clear A20
  have HC3 := Aside0.mk H
  clear H
  go_enter Try.func9, Try.ntmps9
  go_upto_region 6 with (first | ((with_reducible refine gate_dst (N := 1) rfl ?_); refine box_event ?hg (N := 1) ?hd (cs := #[.slice A0_0 l0_0.length c0_0, .int .i64 a0_1, .slice A0_2 l0_2.length c0_2, .int .i64 a0_3, .int .i64 a0_4, .int .i64 a0_5]) (t := 61) ?hr ?_; (case hd => rfl); (case hg => rfl); (case hr => first | (go_simp; done) | (go_simp; rfl)); intro gb168 hg w4 hbox hb; have n0_ := Aside0.mk (below_step (by repeat (first | (with_reducible first | exact HB.out | apply below_alloc | apply pw_below_drewN | apply below_drew1) | exact HB.out)) hb); have n1_ := Aside0.mk (hbox); have n2_ := Aside0.mk ((by rw [hg]; exact (below_size (by repeat (first | (with_reducible first | exact HB.out | apply below_alloc | apply pw_below_drewN | apply below_drew1) | exact HB.out))) : w.heap.size ≤ gb168)); have n3_ := Aside0.mk ((by rw [hg]; exact (below_size (by repeat (first | (with_reducible first | exact HB.out | apply below_alloc | apply pw_below_drewN | apply below_drew1) | exact HB.out))) : w.heap.size ≤ gb168)); clear HB; have HB := n0_; have BK168 := n1_; have GW168 := n2_; have GE168 := n3_; clear n0_ n1_ n2_ n3_; clear hb hbox hg; have hcz5_0 : w4.cell? ⟨gb168, 0, none⟩ = some (.slice A0_0 l0_0.length c0_0) := (blk_cell BK168.out 0).trans rfl; have hcz5_1 : w4.cell? ⟨gb168, 1, none⟩ = some (.int .i64 a0_1) := (blk_cell BK168.out 1).trans rfl; have hcz5_2 : w4.cell? ⟨gb168, 2, none⟩ = some (.slice A0_2 l0_2.length c0_2) := (blk_cell BK168.out 2).trans rfl; have hcz5_3 : w4.cell? ⟨gb168, 3, none⟩ = some (.int .i64 a0_3) := (blk_cell BK168.out 3).trans rfl; have hcz5_4 : w4.cell? ⟨gb168, 4, none⟩ = some (.int .i64 a0_4) := (blk_cell BK168.out 4).trans rfl; have hcz5_5 : w4.cell? ⟨gb168, 5, none⟩ = some (.int .i64 a0_5) := (blk_cell BK168.out 5).trans rfl; have hfz5_0 := blk_frozen BK168.out 0; have hfz5_1 := blk_frozen BK168.out 1; have hfz5_2 := blk_frozen BK168.out 2; have hfz5_3 := blk_frozen BK168.out 3; have hfz5_4 := blk_frozen BK168.out 4; have hfz5_5 := blk_frozen BK168.out 5) | ((with_reducible refine gate_dst (N := 3) rfl ?_); refine box_event ?hg (N := 3) ?hd (cs := #[.slice none 0 0, .int .i64 0]) (t := 24) ?hr ?_; (case hd => rfl); (case hg => rfl); (case hr => first | (go_simp; done) | (go_simp; rfl)); intro gb169 hg w6 hbox hb; have n0_ := Aside0.mk (blk_below (g := gb168) (o := .cells #[.slice A0_0 l0_0.length c0_0, .int .i64 a0_1, .slice A0_2 l0_2.length c0_2, .int .i64 a0_3, .int .i64 a0_4, .int .i64 a0_5] 61 (0, 0)) (by (with_reducible repeat (first | refine blk_drewN ?_ _ | refine blk_drew ?_ | refine blk_alloc ?_ _)); exact BK168.out) hb); have n1_ := Aside0.mk (below_step (by repeat (first | (with_reducible first | exact HB.out | apply below_alloc | apply pw_below_drewN | apply below_drew1 | refine below_set ?_ GE168.out) | exact HB.out)) hb); have n2_ := Aside0.mk (hbox); have n3_ := Aside0.mk ((by rw [hg]; exact (below_size (by repeat (first | (with_reducible first | exact HB.out | apply below_alloc | apply pw_below_drewN | apply below_drew1 | refine below_set ?_ GE168.out) | exact HB.out))) : w.heap.size ≤ gb169)); have n4_ := Aside0.mk ((by rw [hg]; exact (below_size (by repeat (first | (with_reducible first | exact HB.out | apply below_alloc | apply pw_below_drewN | apply below_drew1 | refine below_set ?_ GE168.out) | exact HB.out))) : w.heap.size ≤ gb169)); have n5_ := Aside0.mk ((by rw [hg]; exact Nat.ne_of_lt (blk_lt (g := gb168) (o := .cells #[.slice A0_0 l0_0.length c0_0, .int .i64 a0_1, .slice A0_2 l0_2.length c0_2, .int .i64 a0_3, .int .i64 a0_4, .int .i64 a0_5] 61 (0, 0)) (by (with_reducible repeat (first | refine blk_drewN ?_ _ | refine blk_drew ?_ | refine blk_alloc ?_ _)); exact BK168.out)) : gb168 ≠ gb169)); have n6_ := Aside0.mk ((by rw [hg]; exact Nat.ne_of_gt (blk_lt (g := gb168) (o := .cells #[.slice A0_0 l0_0.length c0_0, .int .i64 a0_1, .slice A0_2 l0_2.length c0_2, .int .i64 a0_3, .int .i64 a0_4, .int .i64 a0_5] 61 (0, 0)) (by (with_reducible repeat (first | refine blk_drewN ?_ _ | refine blk_drew ?_ | refine blk_alloc ?_ _)); exact BK168.out)) : gb169 ≠ gb168)); clear BK168; clear HB; have BK168 := n0_; have HB := n1_; have BK169 := n2_; have GW169 := n3_; have GE169 := n4_; have NB168_169 := n5_; have NB169_168 := n6_; clear n0_ n1_ n2_ n3_ n4_ n5_ n6_; clear hb hbox hg; have hnb7 := NB169_168.out; have hnc7 := NB168_169.out; have hcz8_0 : w6.cell? ⟨gb169, 0, none⟩ = some (.slice none 0 0) := (blk_cell BK169.out 0).trans rfl; have hcz8_1 : w6.cell? ⟨gb169, 1, none⟩ = some (.int .i64 0) := (blk_cell BK169.out 1).trans rfl; have hfz8_0 := blk_frozen BK169.out 0; have hfz8_1 := blk_frozen BK169.out 1; have hcz9_0 : w6.cell? ⟨gb168, 0, none⟩ = some (.slice A0_0 l0_0.length c0_0) := (blk_cell BK168.out 0).trans rfl; have hcz9_1 : w6.cell? ⟨gb168, 1, none⟩ = some (.int .i64 a0_1) := (blk_cell BK168.out 1).trans rfl; have hcz9_2 : w6.cell? ⟨gb168, 2, none⟩ = some (.slice A0_2 l0_2.length c0_2) := (blk_cell BK168.out 2).trans rfl; have hcz9_3 : w6.cell? ⟨gb168, 3, none⟩ = some (.int .i64 a0_3) := (blk_cell BK168.out 3).trans rfl; have hcz9_4 : w6.cell? ⟨gb168, 4, none⟩ = some (.int .i64 a0_4) := (blk_cell BK168.out 4).trans rfl; have hcz9_5 : w6.cell? ⟨gb168, 5, none⟩ = some (.int .i64 a0_5) := (blk_cell BK168.out 5).trans rfl; have hfz9_0 := blk_frozen BK168.out 0; have hfz9_1 := blk_frozen BK168.out 1; have hfz9_2 := blk_frozen BK168.out 2; have hfz9_3 := blk_frozen BK168.out 3; have hfz9_4 := blk_frozen BK168.out 4; have hfz9_5 := blk_frozen BK168.out 5) | ((with_reducible refine gate_dst (N := 4) rfl ?_); refine box_event ?hg (N := 4) ?hd (cs := #[.slice none 0 0, .int .i64 0]) (t := 24) ?hr ?_; (case hd => rfl); (case hg => rfl); (case hr => first | (go_simp; done) | (go_simp; rfl)); intro gb170 hg w10 hbox hb; have n0_ := Aside0.mk (blk_below (g := gb168) (o := .cells #[.slice A0_0 l0_0.length c0_0, .int .i64 a0_1, .slice A0_2 l0_2.length c0_2, .int .i64 a0_3, .int .i64 a0_4, .int .i64 a0_5] 61 (0, 0)) (by (with_reducible repeat (first | refine blk_drewN ?_ _ | refine blk_drew ?_ | refine blk_alloc ?_ _)); refine blk_far ?_ NB168_169.out _; (with_reducible repeat (first | refine blk_drewN ?_ _ | refine blk_drew ?_ | refine blk_alloc ?_ _)); refine blk_far ?_ NB168_169.out _; (with_reducible repeat (first | refine blk_drewN ?_ _ | refine blk_drew ?_ | refine blk_alloc ?_ _)); exact BK168.out) hb); have n1_ := Aside0.mk (blk_below (g := gb169) (o := .cells #[.slice A0_0 l0_0.length c0_0, .int .i64 a0_1] 24 (0, 0)) (by (with_reducible repeat (first | refine blk_drewN ?_ _ | refine blk_drew ?_ | refine blk_alloc ?_ _)); refine blk_put (cs := #[.slice A0_0 l0_0.length c0_0, .int .i64 0]) ?_ 1 _ rfl; (with_reducible repeat (first | refine blk_drewN ?_ _ | refine blk_drew ?_ | refine blk_alloc ?_ _)); refine blk_put (cs := #[.slice none 0 0, .int .i64 0]) ?_ 0 _ rfl; (with_reducible repeat (first | refine blk_drewN ?_ _ | refine blk_drew ?_ | refine blk_alloc ?_ _)); exact BK169.out) hb); have n2_ := Aside0.mk (below_step (by repeat (first | (with_reducible first | exact HB.out | apply below_alloc | apply pw_below_drewN | apply below_drew1 | refine below_set ?_ GE168.out | refine below_set ?_ GE169.out) | exact HB.out)) hb); have n3_ := Aside0.mk (hbox); have n4_ := Aside0.mk ((by rw [hg]; exact (below_size (by repeat (first | (with_reducible first | exact HB.out | apply below_alloc | apply pw_below_drewN | apply below_drew1 | refine below_set ?_ GE168.out | refine below_set ?_ GE169.out) | exact HB.out))) : w.heap.size ≤ gb170)); have n5_ := Aside0.mk ((by rw [hg]; exact (below_size (by repeat (first | (with_reducible first | exact HB.out | apply below_alloc | apply pw_below_drewN | apply below_drew1 | refine below_set ?_ GE168.out | refine below_set ?_ GE169.out) | exact HB.out))) : w.heap.size ≤ gb170)); have n6_ := Aside0.mk ((by rw [hg]; exact Nat.ne_of_lt (blk_lt (g := gb168) (o := .cells #[.slice A0_0 l0_0.length c0_0, .int .i64 a0_1, .slice A0_2 l0_2.length c0_2, .int .i64 a0_3, .int .i64 a0_4, .int .i64 a0_5] 61 (0, 0)) (by (with_reducible repeat (first | refine blk_drewN ?_ _ | refine blk_drew ?_ | refine blk_alloc ?_ _)); refine blk_far ?_ NB168_169.out _; (with_reducible repeat (first | refine blk_drewN ?_ _ | refine blk_drew ?_ | refine blk_alloc ?_ _)); refine blk_far ?_ NB168_169.out _; (with_reducible repeat (first | refine blk_drewN ?_ _ | refine blk_drew ?_ | refine blk_alloc ?_ _)); exact BK168.out)) : gb168 ≠ gb170)); have n7_ := Aside0.mk ((by rw [hg]; exact Nat.ne_of_gt (blk_lt (g := gb168) (o := .cells #[.slice A0_0 l0_0.length c0_0, .int .i64 a0_1, .slice A0_2 l0_2.length c0_2, .int .i64 a0_3, .int .i64 a0_4, .int .i64 a0_5] 61 (0, 0)) (by (with_reducible repeat (first | refine blk_drewN ?_ _ | refine blk_drew ?_ | refine blk_alloc ?_ _)); refine blk_far ?_ NB168_169.out _; (with_reducible repeat (first | refine blk_drewN ?_ _ | refine blk_drew ?_ | refine blk_alloc ?_ _)); refine blk_far ?_ NB168_169.out _; (with_reducible repeat (first | refine blk_drewN ?_ _ | refine blk_drew ?_ | refine blk_alloc ?_ _)); exact BK168.out)) : gb170 ≠ gb168)); have n8_ := Aside0.mk ((by rw [hg]; exact Nat.ne_of_lt (blk_lt (g := gb169) (o := .cells #[.slice A0_0 l0_0.length c0_0, .int .i64 a0_1] 24 (0, 0)) (by (with_reducible repeat (first | refine blk_drewN ?_ _ | refine blk_drew ?_ | refine blk_alloc ?_ _)); refine blk_put (cs := #[.slice A0_0 l0_0.length c0_0, .int .i64 0]) ?_ 1 _ rfl; (with_reducible repeat (first | refine blk_drewN ?_ _ | refine blk_drew ?_ | refine blk_alloc ?_ _)); refine blk_put (cs := #[.slice none 0 0, .int .i64 0]) ?_ 0 _ rfl; (with_reducible repeat (first | refine blk_drewN ?_ _ | refine blk_drew ?_ | refine blk_alloc ?_ _)); exact BK169.out)) : gb169 ≠ gb170)); have n9_ := Aside0.mk ((by rw [hg]; exact Nat.ne_of_gt (blk_lt (g := gb169) (o := .cells #[.slice A0_0 l0_0.length c0_0, .int .i64 a0_1] 24 (0, 0)) (by (with_reducible repeat (first | refine blk_drewN ?_ _ | refine blk_drew ?_ | refine blk_alloc ?_ _)); refine blk_put (cs := #[.slice A0_0 l0_0.length c0_0, .int .i64 0]) ?_ 1 _ rfl; (with_reducible repeat (first | refine blk_drewN ?_ _ | refine blk_drew ?_ | refine blk_alloc ?_ _)); refine blk_put (cs := #[.slice none 0 0, .int .i64 0]) ?_ 0 _ rfl; (with_reducible repeat (first | refine blk_drewN ?_ _ | refine blk_drew ?_ | refine blk_alloc ?_ _)); exact BK169.out)) : gb170 ≠ gb169)); clear BK168; clear BK169; clear HB; have BK168 := n0_; have BK169 := n1_; have HB := n2_; have BK170 := n3_; have GW170 := n4_; have GE170 := n5_; have NB168_170 := n6_; have NB170_168 := n7_; have NB169_170 := n8_; have NB170_169 := n9_; clear n0_ n1_ n2_ n3_ n4_ n5_ n6_ n7_ n8_ n9_; clear hb hbox hg; have hnb11 := NB170_168.out; have hnc11 := NB168_170.out; have hnb12 := NB170_169.out; have hnc12 := NB169_170.out; have hcz13_0 : w10.cell? ⟨gb170, 0, none⟩ = some (.slice none 0 0) := (blk_cell BK170.out 0).trans rfl; have hcz13_1 : w10.cell? ⟨gb170, 1, none⟩ = some (.int .i64 0) := (blk_cell BK170.out 1).trans rfl; have hfz13_0 := blk_frozen BK170.out 0; have hfz13_1 := blk_frozen BK170.out 1; have hcz14_0 : w10.cell? ⟨gb168, 0, none⟩ = some (.slice A0_0 l0_0.length c0_0) := (blk_cell BK168.out 0).trans rfl; have hcz14_1 : w10.cell? ⟨gb168, 1, none⟩ = some (.int .i64 a0_1) := (blk_cell BK168.out 1).trans rfl; have hcz14_2 : w10.cell? ⟨gb168, 2, none⟩ = some (.slice A0_2 l0_2.length c0_2) := (blk_cell BK168.out 2).trans rfl; have hcz14_3 : w10.cell? ⟨gb168, 3, none⟩ = some (.int .i64 a0_3) := (blk_cell BK168.out 3).trans rfl; have hcz14_4 : w10.cell? ⟨gb168, 4, none⟩ = some (.int .i64 a0_4) := (blk_cell BK168.out 4).trans rfl; have hcz14_5 : w10.cell? ⟨gb168, 5, none⟩ = some (.int .i64 a0_5) := (blk_cell BK168.out 5).trans rfl; have hfz14_0 := blk_frozen BK168.out 0; have hfz14_1 := blk_frozen BK168.out 1; have hfz14_2 := blk_frozen BK168.out 2; have hfz14_3 := blk_frozen BK168.out 3; have hfz14_4 := blk_frozen BK168.out 4; have hfz14_5 := blk_frozen BK168.out 5) | ((with_reducible refine gate_callee (f := 33) rfl ?_); refine goesL_ (some 21) rfl rfl Try.func33 (by kernel_rfl) rfl #[] rfl (by (try simp only [List.map_toArray, List.map_cons, List.map_nil]); first | done | rfl | (simp only [List.length_drop, List.length_take]; rfl)) ?_; (with_reducible refine (assartlaw05_shown.calls  t171 _ A2.out).mono ?_); rintro e w15 ⟨rfl, hb⟩; refine ⟨_, rfl, ?_⟩; have n0_ := Aside0.mk (blk_below (g := gb168) (o := .cells #[.slice A0_0 l0_0.length c0_0, .int .i64 a0_1, .slice A0_2 l0_2.length c0_2, .int .i64 a0_3, .int .i64 a0_4, .int .i64 a0_5] 61 (0, 0)) (by (with_reducible repeat (first | refine blk_drewN ?_ _ | refine blk_drew ?_ | refine blk_alloc ?_ _)); refine blk_far ?_ NB168_170.out _; (with_reducible repeat (first | refine blk_drewN ?_ _ | refine blk_drew ?_ | refine blk_alloc ?_ _)); refine blk_far ?_ NB168_170.out _; (with_reducible repeat (first | refine blk_drewN ?_ _ | refine blk_drew ?_ | refine blk_alloc ?_ _)); exact BK168.out) hb); have n1_ := Aside0.mk (blk_below (g := gb169) (o := .cells #[.slice A0_0 l0_0.length c0_0, .int .i64 a0_1] 24 (0, 0)) (by (with_reducible repeat (first | refine blk_drewN ?_ _ | refine blk_drew ?_ | refine blk_alloc ?_ _)); refine blk_far ?_ NB169_170.out _; (with_reducible repeat (first | refine blk_drewN ?_ _ | refine blk_drew ?_ | refine blk_alloc ?_ _)); refine blk_far ?_ NB169_170.out _; (with_reducible repeat (first | refine blk_drewN ?_ _ | refine blk_drew ?_ | refine blk_alloc ?_ _)); exact BK169.out) hb); have n2_ := Aside0.mk (blk_below (g := gb170) (o := .cells #[.slice A0_2 l0_2.length c0_2, .int .i64 a0_3] 24 (0, 0)) (by (with_reducible repeat (first | refine blk_drewN ?_ _ | refine blk_drew ?_ | refine blk_alloc ?_ _)); refine blk_put (cs := #[.slice A0_2 l0_2.length c0_2, .int .i64 0]) ?_ 1 _ rfl; (with_reducible repeat (first | refine blk_drewN ?_ _ | refine blk_drew ?_ | refine blk_alloc ?_ _)); refine blk_put (cs := #[.slice none 0 0, .int .i64 0]) ?_ 0 _ rfl; (with_reducible repeat (first | refine blk_drewN ?_ _ | refine blk_drew ?_ | refine blk_alloc ?_ _)); exact BK170.out) hb); have n3_ := Aside0.mk (below_step (by repeat (first | (with_reducible first | exact HB.out | apply below_alloc | apply pw_below_drewN | apply below_drew1 | refine below_set ?_ GE168.out | refine below_set ?_ GE169.out | refine below_set ?_ GE170.out) | exact HB.out)) hb); clear BK168; clear BK169; clear BK170; clear HB; have BK168 := n0_; have BK169 := n1_; have BK170 := n2_; have HB := n3_; clear n0_ n1_ n2_ n3_; (try clear hb); (try clear hb2); (try clear hk); (try clear hi)))
  (try simp only [Act.put, List.setIfInBounds_toArray, List.set_cons_zero, List.set_cons_succ])
  go_cut [29] (fun v29 wc => ∃ (kq : Nat) (x29_2 : Bool), v29 = .bool x29_2 ∧ Aside0 (assartlaw05_HeapTells.j0 kq a0_4 a0_5 t171 x29_2 l0_0 a0_1 l0_2 a0_3 = some r) ∧ Aside0 (kq ≤ k) ∧ Aside0 (wc.heap[gb168]? = some (.cells #[(.slice A0_0 l0_0.length c0_0), .int .i64 a0_1, (.slice A0_2 l0_2.length c0_2), .int .i64 a0_3, .int .i64 a0_4, .int .i64 a0_5] 61 (0, 0))) ∧ Aside0 (wc.heap[gb169]? = some (.cells #[(.slice A0_0 l0_0.length c0_0), .int .i64 a0_1] 24 (0, 0))) ∧ Aside0 (wc.heap[gb170]? = some (.cells #[(.slice A0_2 l0_2.length c0_2), .int .i64 a0_3] 24 (0, 0))) ∧ Aside0 (Below w.heap.size w wc))
  case first =>
    have H := HC3.out
    clear HC3
    replace H := Option.bind_eq_some_iff.mp H
    obtain ⟨t172, A160, H⟩ := H
    replace H : (if t172 = true then ((assartref05_Small.f k l0_2 a0_3 60).bind fun t173 => (assartlaw05_HeapTells.j0 k a0_4 a0_5 t171 (!t173) l0_0 a0_1 l0_2 a0_3)) else (assartlaw05_HeapTells.j0 k a0_4 a0_5 t171 true l0_0 a0_1 l0_2 a0_3)) = some r := H
    have A16 := Aside0.mk A160
    clear A160
    by_cases c17 : t172 = true
    · subst c17
      have H1 : ((assartref05_Small.f k l0_2 a0_3 60).bind fun t173 => (assartlaw05_HeapTells.j0 k a0_4 a0_5 t171 (!t173) l0_0 a0_1 l0_2 a0_3)) = some r := by rw [if_pos rfl] at H; exact H
      clear H
      have H := H1
      clear H1
      replace H := Option.bind_eq_some_iff.mp H
      obtain ⟨t173, A180, H⟩ := H
      replace H : (assartlaw05_HeapTells.j0 k a0_4 a0_5 t171 (!t173) l0_0 a0_1 l0_2 a0_3) = some r := H
      have A18 := Aside0.mk A180
      clear A180
      have H' := Aside0.mk H
      clear H
      have hnb19 := NB169_168.out
      have hnc19 := NB168_169.out
      have hnb20 := NB169_170.out
      have hnc20 := NB170_169.out
      have hcz21_0 : w15.cell? ⟨gb169, 0, none⟩ = some (.slice A0_0 l0_0.length c0_0) := (blk_cell BK169.out 0).trans rfl
      have hcz21_1 : w15.cell? ⟨gb169, 1, none⟩ = some (.int .i64 a0_1) := (blk_cell BK169.out 1).trans rfl
      have hfz21_0 := blk_frozen BK169.out 0
      have hfz21_1 := blk_frozen BK169.out 1
      go_wp2_with (first | ((with_reducible refine gate_callee (f := 34) rfl ?_); refine goesL_ (some 23) rfl rfl Try.func34 (by kernel_rfl) rfl #[.agg #[.slice A0_0 l0_0.length c0_0, .int .i64 a0_1], .int .i64 60] rfl (by (try simp only [List.map_toArray, List.map_cons, List.map_nil]); first | done | rfl | (simp only [List.length_drop, List.length_take]; rfl)) ?_; (with_reducible refine (assartref05_Small.calls k _ _ l0_0 a0_1 60 true _ ?side1 ?side2 A16.out).mono ?_); (case side1 => repeat (first | exact (Kd.C_below HR0_0.out HB.out) | (with_reducible refine Kd.C_alloc ?_ _) | (with_reducible refine Kd.C_drewN ?_ _) | (with_reducible refine Kd.C_drew ?_))); (case side2 => exact HC0_0.out); rintro e w22 ⟨rfl, hb⟩; refine ⟨_, rfl, ?_⟩; have n0_ := Aside0.mk (blk_below (g := gb168) (o := .cells #[.slice A0_0 l0_0.length c0_0, .int .i64 a0_1, .slice A0_2 l0_2.length c0_2, .int .i64 a0_3, .int .i64 a0_4, .int .i64 a0_5] 61 (0, 0)) (by (with_reducible repeat (first | refine blk_drewN ?_ _ | refine blk_drew ?_ | refine blk_alloc ?_ _)); exact BK168.out) hb); have n1_ := Aside0.mk (blk_below (g := gb169) (o := .cells #[.slice A0_0 l0_0.length c0_0, .int .i64 a0_1] 24 (0, 0)) (by (with_reducible repeat (first | refine blk_drewN ?_ _ | refine blk_drew ?_ | refine blk_alloc ?_ _)); exact BK169.out) hb); have n2_ := Aside0.mk (blk_below (g := gb170) (o := .cells #[.slice A0_2 l0_2.length c0_2, .int .i64 a0_3] 24 (0, 0)) (by (with_reducible repeat (first | refine blk_drewN ?_ _ | refine blk_drew ?_ | refine blk_alloc ?_ _)); exact BK170.out) hb); have n3_ := Aside0.mk (below_step (by repeat (first | (with_reducible first | exact HB.out | apply below_alloc | apply pw_below_drewN | apply below_drew1 | refine below_set ?_ GE168.out | refine below_set ?_ GE169.out | refine below_set ?_ GE170.out) | exact HB.out)) hb); clear BK168; clear BK169; clear BK170; clear HB; have BK168 := n0_; have BK169 := n1_; have BK170 := n2_; have HB := n3_; clear n0_ n1_ n2_ n3_; (try clear hb); (try clear hb2); (try clear hk); (try clear hi); have hnb23 := NB170_168.out; have hnc23 := NB168_170.out; have hcz24_0 : w22.cell? ⟨gb170, 0, none⟩ = some (.slice A0_2 l0_2.length c0_2) := (blk_cell BK170.out 0).trans rfl; have hcz24_1 : w22.cell? ⟨gb170, 1, none⟩ = some (.int .i64 a0_3) := (blk_cell BK170.out 1).trans rfl; have hfz24_0 := blk_frozen BK170.out 0; have hfz24_1 := blk_frozen BK170.out 1) | (go_at_call 34; (with_reducible refine (assartref05_Small.calls k _ _ l0_2 a0_3 60 t173 _ ?side1 ?side2 A18.out).mono ?_); (case side1 => repeat (first | exact (Kd.C_below HR0_2.out HB.out) | (with_reducible refine Kd.C_alloc ?_ _) | (with_reducible refine Kd.C_drewN ?_ _) | (with_reducible refine Kd.C_drew ?_))); (case side2 => exact HC0_2.out); rintro e w25 ⟨rfl, hb⟩; have n0_ := Aside0.mk (blk_below (g := gb168) (o := .cells #[.slice A0_0 l0_0.length c0_0, .int .i64 a0_1, .slice A0_2 l0_2.length c0_2, .int .i64 a0_3, .int .i64 a0_4, .int .i64 a0_5] 61 (0, 0)) (by (with_reducible repeat (first | refine blk_drewN ?_ _ | refine blk_drew ?_ | refine blk_alloc ?_ _)); exact BK168.out) hb); have n1_ := Aside0.mk (blk_below (g := gb169) (o := .cells #[.slice A0_0 l0_0.length c0_0, .int .i64 a0_1] 24 (0, 0)) (by (with_reducible repeat (first | refine blk_drewN ?_ _ | refine blk_drew ?_ | refine blk_alloc ?_ _)); exact BK169.out) hb); have n2_ := Aside0.mk (blk_below (g := gb170) (o := .cells #[.slice A0_2 l0_2.length c0_2, .int .i64 a0_3] 24 (0, 0)) (by (with_reducible repeat (first | refine blk_drewN ?_ _ | refine blk_drew ?_ | refine blk_alloc ?_ _)); exact BK170.out) hb); have n3_ := Aside0.mk (below_step (by repeat (first | (with_reducible first | exact HB.out | apply below_alloc | apply pw_below_drewN | apply below_drew1 | refine below_set ?_ GE168.out | refine below_set ?_ GE169.out | refine below_set ?_ GE170.out) | exact HB.out)) hb); clear BK168; clear BK169; clear BK170; clear HB; have BK168 := n0_; have BK169 := n1_; have BK170 := n2_; have HB := n3_; clear n0_ n1_ n2_ n3_; (try clear hb); (try clear hb2); (try clear hk); (try clear hi)))
      go_meet
      case rel => exact ⟨_, (!t173), (by first | rfl | (simp; done) | (simp [*]; done)), H', ⟨by first | omega | exact Nat.le_refl _⟩, ⟨by (with_reducible repeat (first | refine blk_drewN ?_ _ | refine blk_drew ?_ | refine blk_alloc ?_ _)); exact BK168.out⟩, ⟨by (with_reducible repeat (first | refine blk_drewN ?_ _ | refine blk_drew ?_ | refine blk_alloc ?_ _)); exact BK169.out⟩, ⟨by (with_reducible repeat (first | refine blk_drewN ?_ _ | refine blk_drew ?_ | refine blk_alloc ?_ _)); exact BK170.out⟩, ⟨by repeat (first | (with_reducible first | exact HB.out | apply below_alloc | apply pw_below_drewN | apply below_drew1 | refine below_set ?_ GE168.out | refine below_set ?_ GE169.out | refine below_set ?_ GE170.out) | exact HB.out)⟩⟩
    · replace c17 := Bool.eq_false_iff.mpr c17
      subst c17
      have H1 : (assartlaw05_HeapTells.j0 k a0_4 a0_5 t171 true l0_0 a0_1 l0_2 a0_3) = some r := by rw [if_neg (show ¬ (false = true) by decide)] at H; exact H
      clear H
      have H := H1
      clear H1
      have H' := Aside0.mk H
      clear H
      have hnb26 := NB169_168.out
      have hnc26 := NB168_169.out
      have hnb27 := NB169_170.out
      have hnc27 := NB170_169.out
      have hcz28_0 : w15.cell? ⟨gb169, 0, none⟩ = some (.slice A0_0 l0_0.length c0_0) := (blk_cell BK169.out 0).trans rfl
      have hcz28_1 : w15.cell? ⟨gb169, 1, none⟩ = some (.int .i64 a0_1) := (blk_cell BK169.out 1).trans rfl
      have hfz28_0 := blk_frozen BK169.out 0
      have hfz28_1 := blk_frozen BK169.out 1
      go_wp2_with (first | ((with_reducible refine gate_callee (f := 34) rfl ?_); refine goesL_ (some 23) rfl rfl Try.func34 (by kernel_rfl) rfl #[.agg #[.slice A0_0 l0_0.length c0_0, .int .i64 a0_1], .int .i64 60] rfl (by (try simp only [List.map_toArray, List.map_cons, List.map_nil]); first | done | rfl | (simp only [List.length_drop, List.length_take]; rfl)) ?_; (with_reducible refine (assartref05_Small.calls k _ _ l0_0 a0_1 60 false _ ?side1 ?side2 A16.out).mono ?_); (case side1 => repeat (first | exact (Kd.C_below HR0_0.out HB.out) | (with_reducible refine Kd.C_alloc ?_ _) | (with_reducible refine Kd.C_drewN ?_ _) | (with_reducible refine Kd.C_drew ?_))); (case side2 => exact HC0_0.out); rintro e w29 ⟨rfl, hb⟩; refine ⟨_, rfl, ?_⟩; have n0_ := Aside0.mk (blk_below (g := gb168) (o := .cells #[.slice A0_0 l0_0.length c0_0, .int .i64 a0_1, .slice A0_2 l0_2.length c0_2, .int .i64 a0_3, .int .i64 a0_4, .int .i64 a0_5] 61 (0, 0)) (by (with_reducible repeat (first | refine blk_drewN ?_ _ | refine blk_drew ?_ | refine blk_alloc ?_ _)); exact BK168.out) hb); have n1_ := Aside0.mk (blk_below (g := gb169) (o := .cells #[.slice A0_0 l0_0.length c0_0, .int .i64 a0_1] 24 (0, 0)) (by (with_reducible repeat (first | refine blk_drewN ?_ _ | refine blk_drew ?_ | refine blk_alloc ?_ _)); exact BK169.out) hb); have n2_ := Aside0.mk (blk_below (g := gb170) (o := .cells #[.slice A0_2 l0_2.length c0_2, .int .i64 a0_3] 24 (0, 0)) (by (with_reducible repeat (first | refine blk_drewN ?_ _ | refine blk_drew ?_ | refine blk_alloc ?_ _)); exact BK170.out) hb); have n3_ := Aside0.mk (below_step (by repeat (first | (with_reducible first | exact HB.out | apply below_alloc | apply pw_below_drewN | apply below_drew1 | refine below_set ?_ GE168.out | refine below_set ?_ GE169.out | refine below_set ?_ GE170.out) | exact HB.out)) hb); clear BK168; clear BK169; clear BK170; clear HB; have BK168 := n0_; have BK169 := n1_; have BK170 := n2_; have HB := n3_; clear n0_ n1_ n2_ n3_; (try clear hb); (try clear hb2); (try clear hk); (try clear hi)))
      go_meet
      case rel => exact ⟨_, (true), (by first | rfl | (simp; done) | (simp [*]; done)), H', ⟨by first | omega | exact Nat.le_refl _⟩, ⟨by (with_reducible repeat (first | refine blk_drewN ?_ _ | refine blk_drew ?_ | refine blk_alloc ?_ _)); exact BK168.out⟩, ⟨by (with_reducible repeat (first | refine blk_drewN ?_ _ | refine blk_drew ?_ | refine blk_alloc ?_ _)); exact BK169.out⟩, ⟨by (with_reducible repeat (first | refine blk_drewN ?_ _ | refine blk_drew ?_ | refine blk_alloc ?_ _)); exact BK170.out⟩, ⟨by repeat (first | (with_reducible first | exact HB.out | apply below_alloc | apply pw_below_drewN | apply below_drew1 | refine below_set ?_ GE168.out | refine below_set ?_ GE169.out | refine below_set ?_ GE170.out) | exact HB.out)⟩⟩
  case rest =>
    clear HC3
    try clear c1
    try clear c2
    try clear p2
    try clear c3
    try clear c7
    try clear c9
    try clear c11
    try clear c12
    try clear c17
    try clear c19
    try clear c20
    try clear c23
    try clear c26
    try clear c27
    try clear hcz13_0
    try clear hcz13_1
    try clear hcz14_0
    try clear hcz14_1
    try clear hcz14_2
    try clear hcz14_3
    try clear hcz14_4
    try clear hcz14_5
    try clear hcz21_0
    try clear hcz21_1
    try clear hcz24_0
    try clear hcz24_1
    try clear hcz28_0
    try clear hcz28_1
    try clear hcz5_0
    try clear hcz5_1
    try clear hcz5_2
    try clear hcz5_3
    try clear hcz5_4
    try clear hcz5_5
    try clear hcz8_0
    try clear hcz8_1
    try clear hcz9_0
    try clear hcz9_1
    try clear hcz9_2
    try clear hcz9_3
    try clear hcz9_4
    try clear hcz9_5
    try clear hfz13_0
    try clear hfz13_1
    try clear hfz14_0
    try clear hfz14_1
    try clear hfz14_2
    try clear hfz14_3
    try clear hfz14_4
    try clear hfz14_5
    try clear hfz21_0
    try clear hfz21_1
    try clear hfz24_0
    try clear hfz24_1
    try clear hfz28_0
    try clear hfz28_1
    try clear hfz5_0
    try clear hfz5_1
    try clear hfz5_2
    try clear hfz5_3
    try clear hfz5_4
    try clear hfz5_5
    try clear hfz8_0
    try clear hfz8_1
    try clear hfz9_0
    try clear hfz9_1
    try clear hfz9_2
    try clear hfz9_3
    try clear hfz9_4
    try clear hfz9_5
    obtain ⟨kq, x29_2, rfl, HA, HJ2, BK168, BK169, BK170, HB⟩ := hcut
    cases kq with
    | zero => exact absurd HA.out (by simp [assartlaw05_HeapTells.j0])
    | succ kj2 =>
      have H := HA.out
      clear HA
      simp only [assartlaw05_HeapTells.j0] at H
      by_cases c30 : x29_2 = true
      · subst c30
        have H1 : (some t171) = some r := by rw [if_pos rfl] at H; exact H
        clear H
        have H := H1
        clear H1
        obtain rfl := Option.some.inj H
        go_wp2
        go_ret
        exact ⟨by first | rfl | (simp [errW_none, errW_some] <;> rfl) | (simp [*, errW_none, errW_some] <;> rfl), by repeat (first | (with_reducible first | exact HB.out | apply below_alloc | apply pw_below_drewN | apply below_drew1 | refine below_set ?_ GE168.out | refine below_set ?_ GE169.out | refine below_set ?_ GE170.out) | exact HB.out)⟩
      · replace c30 := Bool.eq_false_iff.mpr c30
        subst c30
        have H1 : ((heap_New.f a0_4 a0_5).bind fun bt174 => ((assartref05_New.f a0_4 a0_5).bind fun bt180 => ((assartref05_Right.f kj2 l0_0 a0_1).bind fun t186 => ((assartref05_Same.f kj2 bt174.1 bt174.2.1 bt180.1 bt180.2.1).bind fun t187 => (if t187 = true then (if bt174.2.2 = bt180.2.2 then ((heap_Right.f l0_0 a0_1).bind fun t188 => (assartlaw05_HeapTells.j1 kj2 a0_4 t171 t186 (t188 != t186) l0_0 a0_1 l0_2 a0_3)) else (assartlaw05_HeapTells.j1 kj2 a0_4 t171 t186 true l0_0 a0_1 l0_2 a0_3)) else (assartlaw05_HeapTells.j1 kj2 a0_4 t171 t186 true l0_0 a0_1 l0_2 a0_3)))))) = some r := by rw [if_neg (show ¬ (false = true) by decide)] at H; exact H
        clear H
        have H := H1
        clear H1
        replace H := Option.bind_eq_some_iff.mp H
        obtain ⟨⟨t174, t177, t178⟩, A310, H⟩ := H
        replace H : ((assartref05_New.f a0_4 a0_5).bind fun bt180 => ((assartref05_Right.f kj2 l0_0 a0_1).bind fun t186 => ((assartref05_Same.f kj2 t174 t177 bt180.1 bt180.2.1).bind fun t187 => (if t187 = true then (if t178 = bt180.2.2 then ((heap_Right.f l0_0 a0_1).bind fun t188 => (assartlaw05_HeapTells.j1 kj2 a0_4 t171 t186 (t188 != t186) l0_0 a0_1 l0_2 a0_3)) else (assartlaw05_HeapTells.j1 kj2 a0_4 t171 t186 true l0_0 a0_1 l0_2 a0_3)) else (assartlaw05_HeapTells.j1 kj2 a0_4 t171 t186 true l0_0 a0_1 l0_2 a0_3))))) = some r := H
        have A31 := Aside0.mk A310
        clear A310
        replace H := Option.bind_eq_some_iff.mp H
        obtain ⟨⟨t180, t183, t184⟩, A320, H⟩ := H
        replace H : ((assartref05_Right.f kj2 l0_0 a0_1).bind fun t186 => ((assartref05_Same.f kj2 t174 t177 t180 t183).bind fun t187 => (if t187 = true then (if t178 = t184 then ((heap_Right.f l0_0 a0_1).bind fun t188 => (assartlaw05_HeapTells.j1 kj2 a0_4 t171 t186 (t188 != t186) l0_0 a0_1 l0_2 a0_3)) else (assartlaw05_HeapTells.j1 kj2 a0_4 t171 t186 true l0_0 a0_1 l0_2 a0_3)) else (assartlaw05_HeapTells.j1 kj2 a0_4 t171 t186 true l0_0 a0_1 l0_2 a0_3)))) = some r := H
        have A32 := Aside0.mk A320
        clear A320
        replace H := Option.bind_eq_some_iff.mp H
        obtain ⟨t186, A330, H⟩ := H
        replace H : ((assartref05_Same.f kj2 t174 t177 t180 t183).bind fun t187 => (if t187 = true then (if t178 = t184 then ((heap_Right.f l0_0 a0_1).bind fun t188 => (assartlaw05_HeapTells.j1 kj2 a0_4 t171 t186 (t188 != t186) l0_0 a0_1 l0_2 a0_3)) else (assartlaw05_HeapTells.j1 kj2 a0_4 t171 t186 true l0_0 a0_1 l0_2 a0_3)) else (assartlaw05_HeapTells.j1 kj2 a0_4 t171 t186 true l0_0 a0_1 l0_2 a0_3))) = some r := H
        have A33 := Aside0.mk A330
        clear A330
        have HC34 := Aside0.mk H
        clear H
        go_upto_region 11 with (first | ((with_reducible refine gate_callee (f := 35) rfl ?_); refine goesL_ (some 34) rfl rfl Try.func35 (by kernel_rfl) rfl #[.int .i64 a0_4, .int .i64 a0_5] rfl (by (try simp only [List.map_toArray, List.map_cons, List.map_nil]); first | done | rfl | (simp only [List.length_drop, List.length_take]; rfl)) ?_; (with_reducible refine (heap_New.calls a0_4 a0_5 t174 t177 t178 _ A31.out).mono ?_); rintro e w35 ⟨v175, rfl, ho0, hb⟩; refine ⟨_, rfl, ?_⟩; have n0_ := Aside0.mk (Kd.S_lower ho0 (below_size (by repeat (first | (with_reducible first | exact HB.out | apply below_alloc | apply pw_below_drewN | apply below_drew1 | refine below_set ?_ GE168.out | refine below_set ?_ GE169.out | refine below_set ?_ GE170.out) | exact HB.out)))); have n1_ := Aside0.mk (blk_below (g := gb168) (o := .cells #[.slice A0_0 l0_0.length c0_0, .int .i64 a0_1, .slice A0_2 l0_2.length c0_2, .int .i64 a0_3, .int .i64 a0_4, .int .i64 a0_5] 61 (0, 0)) (by (with_reducible repeat (first | refine blk_drewN ?_ _ | refine blk_drew ?_ | refine blk_alloc ?_ _)); exact BK168.out) hb); have n2_ := Aside0.mk (blk_below (g := gb169) (o := .cells #[.slice A0_0 l0_0.length c0_0, .int .i64 a0_1] 24 (0, 0)) (by (with_reducible repeat (first | refine blk_drewN ?_ _ | refine blk_drew ?_ | refine blk_alloc ?_ _)); exact BK169.out) hb); have n3_ := Aside0.mk (blk_below (g := gb170) (o := .cells #[.slice A0_2 l0_2.length c0_2, .int .i64 a0_3] 24 (0, 0)) (by (with_reducible repeat (first | refine blk_drewN ?_ _ | refine blk_drew ?_ | refine blk_alloc ?_ _)); exact BK170.out) hb); have n4_ := Aside0.mk (below_step (by repeat (first | (with_reducible first | exact HB.out | apply below_alloc | apply pw_below_drewN | apply below_drew1 | refine below_set ?_ GE168.out | refine below_set ?_ GE169.out | refine below_set ?_ GE170.out) | exact HB.out)) hb); clear BK168; clear BK169; clear BK170; clear HB; have HO176 := n0_; have BK168 := n1_; have BK169 := n2_; have BK170 := n3_; have HB := n4_; clear n0_ n1_ n2_ n3_ n4_; (try clear hb); (try clear hb2); (try clear hk); (try clear hi); (try clear ho0)) | ((with_reducible refine gate_dst (N := 8) rfl ?_); refine box_event ?hg (N := 8) ?hd (cs := #[.slice none 0 0, .int .i64 0]) (t := 24) ?hr ?_; (case hd => rfl); (case hg => rfl); (case hr => first | (go_simp; done) | (go_simp; rfl)); intro gb179 hg w36 hbox hb; have n0_ := Aside0.mk (Kd.S_below (by (with_reducible repeat (first | apply Kd.S_alloc | apply Kd.S_drewN | apply Kd.S_drew)); exact HO176.out) hb); have n1_ := Aside0.mk (blk_below (g := gb168) (o := .cells #[.slice A0_0 l0_0.length c0_0, .int .i64 a0_1, .slice A0_2 l0_2.length c0_2, .int .i64 a0_3, .int .i64 a0_4, .int .i64 a0_5] 61 (0, 0)) (by (with_reducible repeat (first | refine blk_drewN ?_ _ | refine blk_drew ?_ | refine blk_alloc ?_ _)); exact BK168.out) hb); have n2_ := Aside0.mk (blk_below (g := gb169) (o := .cells #[.slice A0_0 l0_0.length c0_0, .int .i64 a0_1] 24 (0, 0)) (by (with_reducible repeat (first | refine blk_drewN ?_ _ | refine blk_drew ?_ | refine blk_alloc ?_ _)); exact BK169.out) hb); have n3_ := Aside0.mk (blk_below (g := gb170) (o := .cells #[.slice A0_2 l0_2.length c0_2, .int .i64 a0_3] 24 (0, 0)) (by (with_reducible repeat (first | refine blk_drewN ?_ _ | refine blk_drew ?_ | refine blk_alloc ?_ _)); exact BK170.out) hb); have n4_ := Aside0.mk (below_step (by repeat (first | (with_reducible first | exact HB.out | apply below_alloc | apply pw_below_drewN | apply below_drew1 | refine below_set ?_ GE168.out | refine below_set ?_ GE169.out | refine below_set ?_ GE170.out) | exact HB.out)) hb); have n5_ := Aside0.mk (hbox); have n6_ := Aside0.mk ((by rw [hg]; exact (below_size (by repeat (first | (with_reducible first | exact HB.out | apply below_alloc | apply pw_below_drewN | apply below_drew1 | refine below_set ?_ GE168.out | refine below_set ?_ GE169.out | refine below_set ?_ GE170.out) | exact HB.out))) : w.heap.size ≤ gb179)); have n7_ := Aside0.mk ((by rw [hg]; exact (below_size (by repeat (first | (with_reducible first | exact HB.out | apply below_alloc | apply pw_below_drewN | apply below_drew1 | refine below_set ?_ GE168.out | refine below_set ?_ GE169.out | refine below_set ?_ GE170.out) | exact HB.out))) : w.heap.size ≤ gb179)); have n8_ := Aside0.mk ((by rw [hg]; exact Nat.ne_of_lt (blk_lt (g := gb168) (o := .cells #[.slice A0_0 l0_0.length c0_0, .int .i64 a0_1, .slice A0_2 l0_2.length c0_2, .int .i64 a0_3, .int .i64 a0_4, .int .i64 a0_5] 61 (0, 0)) (by (with_reducible repeat (first | refine blk_drewN ?_ _ | refine blk_drew ?_ | refine blk_alloc ?_ _)); exact BK168.out)) : gb168 ≠ gb179)); have n9_ := Aside0.mk ((by rw [hg]; exact Nat.ne_of_gt (blk_lt (g := gb168) (o := .cells #[.slice A0_0 l0_0.length c0_0, .int .i64 a0_1, .slice A0_2 l0_2.length c0_2, .int .i64 a0_3, .int .i64 a0_4, .int .i64 a0_5] 61 (0, 0)) (by (with_reducible repeat (first | refine blk_drewN ?_ _ | refine blk_drew ?_ | refine blk_alloc ?_ _)); exact BK168.out)) : gb179 ≠ gb168)); have n10_ := Aside0.mk ((by rw [hg]; exact Nat.ne_of_lt (blk_lt (g := gb169) (o := .cells #[.slice A0_0 l0_0.length c0_0, .int .i64 a0_1] 24 (0, 0)) (by (with_reducible repeat (first | refine blk_drewN ?_ _ | refine blk_drew ?_ | refine blk_alloc ?_ _)); exact BK169.out)) : gb169 ≠ gb179)); have n11_ := Aside0.mk ((by rw [hg]; exact Nat.ne_of_gt (blk_lt (g := gb169) (o := .cells #[.slice A0_0 l0_0.length c0_0, .int .i64 a0_1] 24 (0, 0)) (by (with_reducible repeat (first | refine blk_drewN ?_ _ | refine blk_drew ?_ | refine blk_alloc ?_ _)); exact BK169.out)) : gb179 ≠ gb169)); have n12_ := Aside0.mk ((by rw [hg]; exact Nat.ne_of_lt (blk_lt (g := gb170) (o := .cells #[.slice A0_2 l0_2.length c0_2, .int .i64 a0_3] 24 (0, 0)) (by (with_reducible repeat (first | refine blk_drewN ?_ _ | refine blk_drew ?_ | refine blk_alloc ?_ _)); exact BK170.out)) : gb170 ≠ gb179)); have n13_ := Aside0.mk ((by rw [hg]; exact Nat.ne_of_gt (blk_lt (g := gb170) (o := .cells #[.slice A0_2 l0_2.length c0_2, .int .i64 a0_3] 24 (0, 0)) (by (with_reducible repeat (first | refine blk_drewN ?_ _ | refine blk_drew ?_ | refine blk_alloc ?_ _)); exact BK170.out)) : gb179 ≠ gb170)); clear HO176; clear BK168; clear BK169; clear BK170; clear HB; have HO176 := n0_; have BK168 := n1_; have BK169 := n2_; have BK170 := n3_; have HB := n4_; have BK179 := n5_; have GW179 := n6_; have GE179 := n7_; have NB168_179 := n8_; have NB179_168 := n9_; have NB169_179 := n10_; have NB179_169 := n11_; have NB170_179 := n12_; have NB179_170 := n13_; clear n0_ n1_ n2_ n3_ n4_ n5_ n6_ n7_ n8_ n9_ n10_ n11_ n12_ n13_; clear hb hbox hg; obtain ⟨Ao37, co37, eo37⟩ := Kd.S_slice HO176.out; subst eo37; have hnb38 := NB179_168.out; have hnc38 := NB168_179.out; have hnb39 := NB179_169.out; have hnc39 := NB169_179.out; have hnb40 := NB179_170.out; have hnc40 := NB170_179.out; have hcz41_0 : w36.cell? ⟨gb179, 0, none⟩ = some (.slice none 0 0) := (blk_cell BK179.out 0).trans rfl; have hcz41_1 : w36.cell? ⟨gb179, 1, none⟩ = some (.int .i64 0) := (blk_cell BK179.out 1).trans rfl; have hfz41_0 := blk_frozen BK179.out 0; have hfz41_1 := blk_frozen BK179.out 1) | ((with_reducible refine gate_callee (f := 36) rfl ?_); refine goesL_ (some 40) rfl rfl Try.func36 (by kernel_rfl) rfl #[.int .i64 a0_4, .int .i64 a0_5] rfl (by (try simp only [List.map_toArray, List.map_cons, List.map_nil]); first | done | rfl | (simp only [List.length_drop, List.length_take]; rfl)) ?_; (with_reducible refine (assartref05_New.calls a0_4 a0_5 t180 t183 t184 _ A32.out).mono ?_); rintro e w42 ⟨v181, rfl, ho0, hb⟩; refine ⟨_, rfl, ?_⟩; have n0_ := Aside0.mk (Kd.S_elder' (by (with_reducible repeat (first | apply Kd.S_alloc | apply Kd.S_drewN | apply Kd.S_drew)); exact (Kd.S_mono (Kd.S_far (p := ⟨gb179, 1, none⟩) (Kd.S_far (p := ⟨gb179, 0, none⟩) (Kd.S_types HO176.out BK179.out (by decide)) (fun _ hk => hk.2) (.slice Ao37 t174.length co37)) (fun _ hk => hk.2) (.int .i64 t177)) (fun _ h_ => h_.1))) (Kd.S_base ho0) hb); have n1_ := Aside0.mk (Kd.S_lower (Kd.S_new' ho0 (Kd.S_lt (by (with_reducible repeat (first | apply Kd.S_alloc | apply Kd.S_drewN | apply Kd.S_drew)); exact (Kd.S_mono (Kd.S_far (p := ⟨gb179, 1, none⟩) (Kd.S_far (p := ⟨gb179, 0, none⟩) (Kd.S_types HO176.out BK179.out (by decide)) (fun _ hk => hk.2) (.slice Ao37 t174.length co37)) (fun _ hk => hk.2) (.int .i64 t177)) (fun _ h_ => h_.1))))) (below_size (by repeat (first | (with_reducible first | exact HB.out | apply below_alloc | apply pw_below_drewN | apply below_drew1 | refine below_set ?_ GE168.out | refine below_set ?_ GE169.out | refine below_set ?_ GE170.out | refine below_set ?_ GE179.out) | exact HB.out)))); have n2_ := Aside0.mk (blk_below (g := gb168) (o := .cells #[.slice A0_0 l0_0.length c0_0, .int .i64 a0_1, .slice A0_2 l0_2.length c0_2, .int .i64 a0_3, .int .i64 a0_4, .int .i64 a0_5] 61 (0, 0)) (by (with_reducible repeat (first | refine blk_drewN ?_ _ | refine blk_drew ?_ | refine blk_alloc ?_ _)); refine blk_far ?_ NB168_179.out _; (with_reducible repeat (first | refine blk_drewN ?_ _ | refine blk_drew ?_ | refine blk_alloc ?_ _)); refine blk_far ?_ NB168_179.out _; (with_reducible repeat (first | refine blk_drewN ?_ _ | refine blk_drew ?_ | refine blk_alloc ?_ _)); exact BK168.out) hb); have n3_ := Aside0.mk (blk_below (g := gb169) (o := .cells #[.slice A0_0 l0_0.length c0_0, .int .i64 a0_1] 24 (0, 0)) (by (with_reducible repeat (first | refine blk_drewN ?_ _ | refine blk_drew ?_ | refine blk_alloc ?_ _)); refine blk_far ?_ NB169_179.out _; (with_reducible repeat (first | refine blk_drewN ?_ _ | refine blk_drew ?_ | refine blk_alloc ?_ _)); refine blk_far ?_ NB169_179.out _; (with_reducible repeat (first | refine blk_drewN ?_ _ | refine blk_drew ?_ | refine blk_alloc ?_ _)); exact BK169.out) hb); have n4_ := Aside0.mk (blk_below (g := gb170) (o := .cells #[.slice A0_2 l0_2.length c0_2, .int .i64 a0_3] 24 (0, 0)) (by (with_reducible repeat (first | refine blk_drewN ?_ _ | refine blk_drew ?_ | refine blk_alloc ?_ _)); refine blk_far ?_ NB170_179.out _; (with_reducible repeat (first | refine blk_drewN ?_ _ | refine blk_drew ?_ | refine blk_alloc ?_ _)); refine blk_far ?_ NB170_179.out _; (with_reducible repeat (first | refine blk_drewN ?_ _ | refine blk_drew ?_ | refine blk_alloc ?_ _)); exact BK170.out) hb); have n5_ := Aside0.mk (blk_below (g := gb179) (o := .cells #[.slice Ao37 t174.length co37, .int .i64 t177] 24 (0, 0)) (by (with_reducible repeat (first | refine blk_drewN ?_ _ | refine blk_drew ?_ | refine blk_alloc ?_ _)); refine blk_put (cs := #[.slice Ao37 t174.length co37, .int .i64 0]) ?_ 1 _ rfl; (with_reducible repeat (first | refine blk_drewN ?_ _ | refine blk_drew ?_ | refine blk_alloc ?_ _)); refine blk_put (cs := #[.slice none 0 0, .int .i64 0]) ?_ 0 _ rfl; (with_reducible repeat (first | refine blk_drewN ?_ _ | refine blk_drew ?_ | refine blk_alloc ?_ _)); exact BK179.out) hb); have n6_ := Aside0.mk (below_step (by repeat (first | (with_reducible first | exact HB.out | apply below_alloc | apply pw_below_drewN | apply below_drew1 | refine below_set ?_ GE168.out | refine below_set ?_ GE169.out | refine below_set ?_ GE170.out | refine below_set ?_ GE179.out) | exact HB.out)) hb); clear HO176; clear BK168; clear BK169; clear BK170; clear BK179; clear HB; have HO176 := n0_; have HO182 := n1_; have BK168 := n2_; have BK169 := n3_; have BK170 := n4_; have BK179 := n5_; have HB := n6_; clear n0_ n1_ n2_ n3_ n4_ n5_ n6_; (try clear hb); (try clear hb2); (try clear hk); (try clear hi); (try clear ho0)) | ((with_reducible refine gate_dst (N := 10) rfl ?_); refine box_event ?hg (N := 10) ?hd (cs := #[.slice none 0 0, .int .i64 0]) (t := 24) ?hr ?_; (case hd => rfl); (case hg => rfl); (case hr => first | (go_simp; done) | (go_simp; rfl)); intro gb185 hg w43 hbox hb; have n0_ := Aside0.mk (Kd.S_below (by (with_reducible repeat (first | apply Kd.S_alloc | apply Kd.S_drewN | apply Kd.S_drew)); exact HO176.out) hb); have n1_ := Aside0.mk (Kd.S_below (by (with_reducible repeat (first | apply Kd.S_alloc | apply Kd.S_drewN | apply Kd.S_drew)); exact HO182.out) hb); have n2_ := Aside0.mk (blk_below (g := gb168) (o := .cells #[.slice A0_0 l0_0.length c0_0, .int .i64 a0_1, .slice A0_2 l0_2.length c0_2, .int .i64 a0_3, .int .i64 a0_4, .int .i64 a0_5] 61 (0, 0)) (by (with_reducible repeat (first | refine blk_drewN ?_ _ | refine blk_drew ?_ | refine blk_alloc ?_ _)); exact BK168.out) hb); have n3_ := Aside0.mk (blk_below (g := gb169) (o := .cells #[.slice A0_0 l0_0.length c0_0, .int .i64 a0_1] 24 (0, 0)) (by (with_reducible repeat (first | refine blk_drewN ?_ _ | refine blk_drew ?_ | refine blk_alloc ?_ _)); exact BK169.out) hb); have n4_ := Aside0.mk (blk_below (g := gb170) (o := .cells #[.slice A0_2 l0_2.length c0_2, .int .i64 a0_3] 24 (0, 0)) (by (with_reducible repeat (first | refine blk_drewN ?_ _ | refine blk_drew ?_ | refine blk_alloc ?_ _)); exact BK170.out) hb); have n5_ := Aside0.mk (blk_below (g := gb179) (o := .cells #[.slice Ao37 t174.length co37, .int .i64 t177] 24 (0, 0)) (by (with_reducible repeat (first | refine blk_drewN ?_ _ | refine blk_drew ?_ | refine blk_alloc ?_ _)); exact BK179.out) hb); have n6_ := Aside0.mk (below_step (by repeat (first | (with_reducible first | exact HB.out | apply below_alloc | apply pw_below_drewN | apply below_drew1 | refine below_set ?_ GE168.out | refine below_set ?_ GE169.out | refine below_set ?_ GE170.out | refine below_set ?_ GE179.out) | exact HB.out)) hb); have n7_ := Aside0.mk (hbox); have n8_ := Aside0.mk ((by rw [hg]; exact (below_size (by repeat (first | (with_reducible first | exact HB.out | apply below_alloc | apply pw_below_drewN | apply below_drew1 | refine below_set ?_ GE168.out | refine below_set ?_ GE169.out | refine below_set ?_ GE170.out | refine below_set ?_ GE179.out) | exact HB.out))) : w.heap.size ≤ gb185)); have n9_ := Aside0.mk ((by rw [hg]; exact (below_size (by repeat (first | (with_reducible first | exact HB.out | apply below_alloc | apply pw_below_drewN | apply below_drew1 | refine below_set ?_ GE168.out | refine below_set ?_ GE169.out | refine below_set ?_ GE170.out | refine below_set ?_ GE179.out) | exact HB.out))) : w.heap.size ≤ gb185)); have n10_ := Aside0.mk ((by rw [hg]; exact Nat.ne_of_lt (blk_lt (g := gb168) (o := .cells #[.slice A0_0 l0_0.length c0_0, .int .i64 a0_1, .slice A0_2 l0_2.length c0_2, .int .i64 a0_3, .int .i64 a0_4, .int .i64 a0_5] 61 (0, 0)) (by (with_reducible repeat (first | refine blk_drewN ?_ _ | refine blk_drew ?_ | refine blk_alloc ?_ _)); exact BK168.out)) : gb168 ≠ gb185)); have n11_ := Aside0.mk ((by rw [hg]; exact Nat.ne_of_gt (blk_lt (g := gb168) (o := .cells #[.slice A0_0 l0_0.length c0_0, .int .i64 a0_1, .slice A0_2 l0_2.length c0_2, .int .i64 a0_3, .int .i64 a0_4, .int .i64 a0_5] 61 (0, 0)) (by (with_reducible repeat (first | refine blk_drewN ?_ _ | refine blk_drew ?_ | refine blk_alloc ?_ _)); exact BK168.out)) : gb185 ≠ gb168)); have n12_ := Aside0.mk ((by rw [hg]; exact Nat.ne_of_lt (blk_lt (g := gb169) (o := .cells #[.slice A0_0 l0_0.length c0_0, .int .i64 a0_1] 24 (0, 0)) (by (with_reducible repeat (first | refine blk_drewN ?_ _ | refine blk_drew ?_ | refine blk_alloc ?_ _)); exact BK169.out)) : gb169 ≠ gb185)); have n13_ := Aside0.mk ((by rw [hg]; exact Nat.ne_of_gt (blk_lt (g := gb169) (o := .cells #[.slice A0_0 l0_0.length c0_0, .int .i64 a0_1] 24 (0, 0)) (by (with_reducible repeat (first | refine blk_drewN ?_ _ | refine blk_drew ?_ | refine blk_alloc ?_ _)); exact BK169.out)) : gb185 ≠ gb169)); have n14_ := Aside0.mk ((by rw [hg]; exact Nat.ne_of_lt (blk_lt (g := gb170) (o := .cells #[.slice A0_2 l0_2.length c0_2, .int .i64 a0_3] 24 (0, 0)) (by (with_reducible repeat (first | refine blk_drewN ?_ _ | refine blk_drew ?_ | refine blk_alloc ?_ _)); exact BK170.out)) : gb170 ≠ gb185)); have n15_ := Aside0.mk ((by rw [hg]; exact Nat.ne_of_gt (blk_lt (g := gb170) (o := .cells #[.slice A0_2 l0_2.length c0_2, .int .i64 a0_3] 24 (0, 0)) (by (with_reducible repeat (first | refine blk_drewN ?_ _ | refine blk_drew ?_ | refine blk_alloc ?_ _)); exact BK170.out)) : gb185 ≠ gb170)); have n16_ := Aside0.mk ((by rw [hg]; exact Nat.ne_of_lt (blk_lt (g := gb179) (o := .cells #[.slice Ao37 t174.length co37, .int .i64 t177] 24 (0, 0)) (by (with_reducible repeat (first | refine blk_drewN ?_ _ | refine blk_drew ?_ | refine blk_alloc ?_ _)); exact BK179.out)) : gb179 ≠ gb185)); have n17_ := Aside0.mk ((by rw [hg]; exact Nat.ne_of_gt (blk_lt (g := gb179) (o := .cells #[.slice Ao37 t174.length co37, .int .i64 t177] 24 (0, 0)) (by (with_reducible repeat (first | refine blk_drewN ?_ _ | refine blk_drew ?_ | refine blk_alloc ?_ _)); exact BK179.out)) : gb185 ≠ gb179)); clear HO176; clear HO182; clear BK168; clear BK169; clear BK170; clear BK179; clear HB; have HO176 := n0_; have HO182 := n1_; have BK168 := n2_; have BK169 := n3_; have BK170 := n4_; have BK179 := n5_; have HB := n6_; have BK185 := n7_; have GW185 := n8_; have GE185 := n9_; have NB168_185 := n10_; have NB185_168 := n11_; have NB169_185 := n12_; have NB185_169 := n13_; have NB170_185 := n14_; have NB185_170 := n15_; have NB179_185 := n16_; have NB185_179 := n17_; clear n0_ n1_ n2_ n3_ n4_ n5_ n6_ n7_ n8_ n9_ n10_ n11_ n12_ n13_ n14_ n15_ n16_ n17_; clear hb hbox hg; obtain ⟨Ao44, co44, eo44⟩ := Kd.S_slice HO182.out; subst eo44; have hnb45 := NB185_168.out; have hnc45 := NB168_185.out; have hnb46 := NB185_169.out; have hnc46 := NB169_185.out; have hnb47 := NB185_170.out; have hnc47 := NB170_185.out; have hnb48 := NB185_179.out; have hnc48 := NB179_185.out; have hcz49_0 : w43.cell? ⟨gb185, 0, none⟩ = some (.slice none 0 0) := (blk_cell BK185.out 0).trans rfl; have hcz49_1 : w43.cell? ⟨gb185, 1, none⟩ = some (.int .i64 0) := (blk_cell BK185.out 1).trans rfl; have hfz49_0 := blk_frozen BK185.out 0; have hfz49_1 := blk_frozen BK185.out 1; have hnb50 := NB169_168.out; have hnc50 := NB168_169.out; have hnb51 := NB169_170.out; have hnc51 := NB170_169.out; have hcz52_0 : w43.cell? ⟨gb169, 0, none⟩ = some (.slice A0_0 l0_0.length c0_0) := (blk_cell BK169.out 0).trans rfl; have hcz52_1 : w43.cell? ⟨gb169, 1, none⟩ = some (.int .i64 a0_1) := (blk_cell BK169.out 1).trans rfl; have hfz52_0 := blk_frozen BK169.out 0; have hfz52_1 := blk_frozen BK169.out 1) | ((with_reducible refine gate_callee (f := 32) rfl ?_); refine goesL_ (some 44) rfl rfl Try.func32 (by kernel_rfl) rfl #[.agg #[.slice A0_0 l0_0.length c0_0, .int .i64 a0_1]] rfl (by (try simp only [List.map_toArray, List.map_cons, List.map_nil]); first | done | rfl | (simp only [List.length_drop, List.length_take]; rfl)) ?_; (with_reducible refine (assartref05_Right.calls kj2 _ _ l0_0 a0_1 t186 _ ?side1 ?side2 A33.out).mono ?_); (case side1 => exact Kd.C_below HR0_0.out (by repeat (first | (with_reducible first | exact HB.out | apply below_alloc | apply pw_below_drewN | apply below_drew1 | refine below_set ?_ GE168.out | refine below_set ?_ GE169.out | refine below_set ?_ GE170.out | refine below_set ?_ GE179.out | refine below_set ?_ GE185.out) | exact HB.out))); (case side2 => exact HC0_0.out); rintro e w53 ⟨rfl, hb⟩; refine ⟨_, rfl, ?_⟩; have n0_ := Aside0.mk (Kd.S_below (by (with_reducible repeat (first | apply Kd.S_alloc | apply Kd.S_drewN | apply Kd.S_drew)); exact (Kd.S_mono (Kd.S_far (p := ⟨gb185, 1, none⟩) (Kd.S_far (p := ⟨gb185, 0, none⟩) (Kd.S_types HO176.out BK185.out (by decide)) (fun _ hk => hk.2) (.slice Ao44 t180.length co44)) (fun _ hk => hk.2) (.int .i64 t183)) (fun _ h_ => h_.1))) hb); have n1_ := Aside0.mk (Kd.S_below (by (with_reducible repeat (first | apply Kd.S_alloc | apply Kd.S_drewN | apply Kd.S_drew)); exact (Kd.S_mono (Kd.S_far (p := ⟨gb185, 1, none⟩) (Kd.S_far (p := ⟨gb185, 0, none⟩) (Kd.S_types HO182.out BK185.out (by decide)) (fun _ hk => hk.2) (.slice Ao44 t180.length co44)) (fun _ hk => hk.2) (.int .i64 t183)) (fun _ h_ => h_.1))) hb); have n2_ := Aside0.mk (blk_below (g := gb168) (o := .cells #[.slice A0_0 l0_0.length c0_0, .int .i64 a0_1, .slice A0_2 l0_2.length c0_2, .int .i64 a0_3, .int .i64 a0_4, .int .i64 a0_5] 61 (0, 0)) (by (with_reducible repeat (first | refine blk_drewN ?_ _ | refine blk_drew ?_ | refine blk_alloc ?_ _)); refine blk_far ?_ NB168_185.out _; (with_reducible repeat (first | refine blk_drewN ?_ _ | refine blk_drew ?_ | refine blk_alloc ?_ _)); refine blk_far ?_ NB168_185.out _; (with_reducible repeat (first | refine blk_drewN ?_ _ | refine blk_drew ?_ | refine blk_alloc ?_ _)); exact BK168.out) hb); have n3_ := Aside0.mk (blk_below (g := gb169) (o := .cells #[.slice A0_0 l0_0.length c0_0, .int .i64 a0_1] 24 (0, 0)) (by (with_reducible repeat (first | refine blk_drewN ?_ _ | refine blk_drew ?_ | refine blk_alloc ?_ _)); refine blk_far ?_ NB169_185.out _; (with_reducible repeat (first | refine blk_drewN ?_ _ | refine blk_drew ?_ | refine blk_alloc ?_ _)); refine blk_far ?_ NB169_185.out _; (with_reducible repeat (first | refine blk_drewN ?_ _ | refine blk_drew ?_ | refine blk_alloc ?_ _)); exact BK169.out) hb); have n4_ := Aside0.mk (blk_below (g := gb170) (o := .cells #[.slice A0_2 l0_2.length c0_2, .int .i64 a0_3] 24 (0, 0)) (by (with_reducible repeat (first | refine blk_drewN ?_ _ | refine blk_drew ?_ | refine blk_alloc ?_ _)); refine blk_far ?_ NB170_185.out _; (with_reducible repeat (first | refine blk_drewN ?_ _ | refine blk_drew ?_ | refine blk_alloc ?_ _)); refine blk_far ?_ NB170_185.out _; (with_reducible repeat (first | refine blk_drewN ?_ _ | refine blk_drew ?_ | refine blk_alloc ?_ _)); exact BK170.out) hb); have n5_ := Aside0.mk (blk_below (g := gb179) (o := .cells #[.slice Ao37 t174.length co37, .int .i64 t177] 24 (0, 0)) (by (with_reducible repeat (first | refine blk_drewN ?_ _ | refine blk_drew ?_ | refine blk_alloc ?_ _)); refine blk_far ?_ NB179_185.out _; (with_reducible repeat (first | refine blk_drewN ?_ _ | refine blk_drew ?_ | refine blk_alloc ?_ _)); refine blk_far ?_ NB179_185.out _; (with_reducible repeat (first | refine blk_drewN ?_ _ | refine blk_drew ?_ | refine blk_alloc ?_ _)); exact BK179.out) hb); have n6_ := Aside0.mk (blk_below (g := gb185) (o := .cells #[.slice Ao44 t180.length co44, .int .i64 t183] 24 (0, 0)) (by (with_reducible repeat (first | refine blk_drewN ?_ _ | refine blk_drew ?_ | refine blk_alloc ?_ _)); refine blk_put (cs := #[.slice Ao44 t180.length co44, .int .i64 0]) ?_ 1 _ rfl; (with_reducible repeat (first | refine blk_drewN ?_ _ | refine blk_drew ?_ | refine blk_alloc ?_ _)); refine blk_put (cs := #[.slice none 0 0, .int .i64 0]) ?_ 0 _ rfl; (with_reducible repeat (first | refine blk_drewN ?_ _ | refine blk_drew ?_ | refine blk_alloc ?_ _)); exact BK185.out) hb); have n7_ := Aside0.mk (below_step (by repeat (first | (with_reducible first | exact HB.out | apply below_alloc | apply pw_below_drewN | apply below_drew1 | refine below_set ?_ GE168.out | refine below_set ?_ GE169.out | refine below_set ?_ GE170.out | refine below_set ?_ GE179.out | refine below_set ?_ GE185.out) | exact HB.out)) hb); clear HO176; clear HO182; clear BK168; clear BK169; clear BK170; clear BK179; clear BK185; clear HB; have HO176 := n0_; have HO182 := n1_; have BK168 := n2_; have BK169 := n3_; have BK170 := n4_; have BK179 := n5_; have BK185 := n6_; have HB := n7_; clear n0_ n1_ n2_ n3_ n4_ n5_ n6_ n7_; (try clear hb); (try clear hb2); (try clear hk); (try clear hi)))
        (try simp only [Act.put, List.setIfInBounds_toArray, List.set_cons_zero, List.set_cons_succ])
        go_cut [59] (fun v59 wc => ∃ (kq : Nat) (x59_33 : Bool), v59 = .bool x59_33 ∧ Aside0 (assartlaw05_HeapTells.j1 kq a0_4 t171 t186 x59_33 l0_0 a0_1 l0_2 a0_3 = some r) ∧ Aside0 (kq ≤ kj2) ∧ Aside0 (Kd.S k55 55 wc w.heap.size (fun k_ => some k_ ≠ ((.slice Ao44 t180.length co44) : Value).ownBlock) (.slice Ao37 t174.length co37) t174) ∧ Aside0 (Kd.S k55 55 wc w.heap.size (fun k_ => some k_ ≠ ((.slice Ao37 t174.length co37) : Value).ownBlock) (.slice Ao44 t180.length co44) t180) ∧ Aside0 (wc.heap[gb168]? = some (.cells #[(.slice A0_0 l0_0.length c0_0), .int .i64 a0_1, (.slice A0_2 l0_2.length c0_2), .int .i64 a0_3, .int .i64 a0_4, .int .i64 a0_5] 61 (0, 0))) ∧ Aside0 (wc.heap[gb169]? = some (.cells #[(.slice A0_0 l0_0.length c0_0), .int .i64 a0_1] 24 (0, 0))) ∧ Aside0 (wc.heap[gb170]? = some (.cells #[(.slice A0_2 l0_2.length c0_2), .int .i64 a0_3] 24 (0, 0))) ∧ Aside0 (wc.heap[gb179]? = some (.cells #[(.slice Ao37 t174.length co37), .int .i64 t177] 24 (0, 0))) ∧ Aside0 (wc.heap[gb185]? = some (.cells #[(.slice Ao44 t180.length co44), .int .i64 t183] 24 (0, 0))) ∧ Aside0 (Below w.heap.size w wc))
        case first =>
          have H := HC34.out
          clear HC34
          replace H := Option.bind_eq_some_iff.mp H
          obtain ⟨t187, A540, H⟩ := H
          replace H : (if t187 = true then (if t178 = t184 then ((heap_Right.f l0_0 a0_1).bind fun t188 => (assartlaw05_HeapTells.j1 kj2 a0_4 t171 t186 (t188 != t186) l0_0 a0_1 l0_2 a0_3)) else (assartlaw05_HeapTells.j1 kj2 a0_4 t171 t186 true l0_0 a0_1 l0_2 a0_3)) else (assartlaw05_HeapTells.j1 kj2 a0_4 t171 t186 true l0_0 a0_1 l0_2 a0_3)) = some r := H
          have A54 := Aside0.mk A540
          clear A540
          by_cases c55 : t187 = true
          · subst c55
            have H1 : (if t178 = t184 then ((heap_Right.f l0_0 a0_1).bind fun t188 => (assartlaw05_HeapTells.j1 kj2 a0_4 t171 t186 (t188 != t186) l0_0 a0_1 l0_2 a0_3)) else (assartlaw05_HeapTells.j1 kj2 a0_4 t171 t186 true l0_0 a0_1 l0_2 a0_3)) = some r := by rw [if_pos rfl] at H; exact H
            clear H
            have H := H1
            clear H1
            by_cases c56 : t178 = t184
            · rw [if_pos c56] at H
              have c56b0 : (t178 == t184) = true := beq_iff_eq.mpr c56
              have c56b1 : (t178 != t184) = false := bne_eq_false_iff_eq.mpr c56
              clear c56
              (first | rw [c56b0] | (simp only [i64_w, i32_w]; rw [c56b0]) | skip)
              replace H := Option.bind_eq_some_iff.mp H
              obtain ⟨t188, A570, H⟩ := H
              replace H : (assartlaw05_HeapTells.j1 kj2 a0_4 t171 t186 (t188 != t186) l0_0 a0_1 l0_2 a0_3) = some r := H
              have A57 := Aside0.mk A570
              clear A570
              have H' := Aside0.mk H
              clear H
              have hnb58 := NB179_168.out
              have hnc58 := NB168_179.out
              have hnb59 := NB179_169.out
              have hnc59 := NB169_179.out
              have hnb60 := NB179_170.out
              have hnc60 := NB170_179.out
              have hnb61 := NB179_185.out
              have hnc61 := NB185_179.out
              have hcz62_0 : w53.cell? ⟨gb179, 0, none⟩ = some (.slice Ao37 t174.length co37) := (blk_cell BK179.out 0).trans rfl
              have hcz62_1 : w53.cell? ⟨gb179, 1, none⟩ = some (.int .i64 t177) := (blk_cell BK179.out 1).trans rfl
              have hfz62_0 := blk_frozen BK179.out 0
              have hfz62_1 := blk_frozen BK179.out 1
              have hnb63 := NB185_168.out
              have hnc63 := NB168_185.out
              have hnb64 := NB185_169.out
              have hnc64 := NB169_185.out
              have hnb65 := NB185_170.out
              have hnc65 := NB170_185.out
              have hcz66_0 : w53.cell? ⟨gb185, 0, none⟩ = some (.slice Ao44 t180.length co44) := (blk_cell BK185.out 0).trans rfl
              have hcz66_1 : w53.cell? ⟨gb185, 1, none⟩ = some (.int .i64 t183) := (blk_cell BK185.out 1).trans rfl
              have hfz66_0 := blk_frozen BK185.out 0
              have hfz66_1 := blk_frozen BK185.out 1
              go_wp2_with (first | ((with_reducible refine gate_callee (f := 37) rfl ?_); refine goesL_ (some 47) rfl rfl Try.func37 (by kernel_rfl) rfl #[.agg #[.slice Ao37 t174.length co37, .int .i64 t177], .agg #[.slice Ao44 t180.length co44, .int .i64 t183]] rfl (by (try simp only [List.map_toArray, List.map_cons, List.map_nil]); first | done | rfl | (simp only [List.length_drop, List.length_take]; rfl)) ?_; (with_reducible refine (assartref05_Same.calls kj2 _ _ t174 t177 _ _ t180 t183 true _ ?side1 ?side2 ?side3 ?side4 A54.out).mono ?_); (case side1 => repeat (first | exact (Kd.S_reads' HO176.out).2.2 | (with_reducible refine Kd.C_alloc ?_ _) | (with_reducible refine Kd.C_drewN ?_ _) | (with_reducible refine Kd.C_drew ?_))); (case side2 => exact (Kd.S_reads' HO176.out).2.1); (case side3 => repeat (first | exact (Kd.S_reads' HO182.out).2.2 | (with_reducible refine Kd.C_alloc ?_ _) | (with_reducible refine Kd.C_drewN ?_ _) | (with_reducible refine Kd.C_drew ?_))); (case side4 => exact (Kd.S_reads' HO182.out).2.1); rintro e w67 ⟨rfl, hb⟩; refine ⟨_, rfl, ?_⟩; have n0_ := Aside0.mk (Kd.S_below (by (with_reducible repeat (first | apply Kd.S_alloc | apply Kd.S_drewN | apply Kd.S_drew)); exact HO176.out) hb); have n1_ := Aside0.mk (Kd.S_below (by (with_reducible repeat (first | apply Kd.S_alloc | apply Kd.S_drewN | apply Kd.S_drew)); exact HO182.out) hb); have n2_ := Aside0.mk (blk_below (g := gb168) (o := .cells #[.slice A0_0 l0_0.length c0_0, .int .i64 a0_1, .slice A0_2 l0_2.length c0_2, .int .i64 a0_3, .int .i64 a0_4, .int .i64 a0_5] 61 (0, 0)) (by (with_reducible repeat (first | refine blk_drewN ?_ _ | refine blk_drew ?_ | refine blk_alloc ?_ _)); exact BK168.out) hb); have n3_ := Aside0.mk (blk_below (g := gb169) (o := .cells #[.slice A0_0 l0_0.length c0_0, .int .i64 a0_1] 24 (0, 0)) (by (with_reducible repeat (first | refine blk_drewN ?_ _ | refine blk_drew ?_ | refine blk_alloc ?_ _)); exact BK169.out) hb); have n4_ := Aside0.mk (blk_below (g := gb170) (o := .cells #[.slice A0_2 l0_2.length c0_2, .int .i64 a0_3] 24 (0, 0)) (by (with_reducible repeat (first | refine blk_drewN ?_ _ | refine blk_drew ?_ | refine blk_alloc ?_ _)); exact BK170.out) hb); have n5_ := Aside0.mk (blk_below (g := gb179) (o := .cells #[.slice Ao37 t174.length co37, .int .i64 t177] 24 (0, 0)) (by (with_reducible repeat (first | refine blk_drewN ?_ _ | refine blk_drew ?_ | refine blk_alloc ?_ _)); exact BK179.out) hb); have n6_ := Aside0.mk (blk_below (g := gb185) (o := .cells #[.slice Ao44 t180.length co44, .int .i64 t183] 24 (0, 0)) (by (with_reducible repeat (first | refine blk_drewN ?_ _ | refine blk_drew ?_ | refine blk_alloc ?_ _)); exact BK185.out) hb); have n7_ := Aside0.mk (below_step (by repeat (first | (with_reducible first | exact HB.out | apply below_alloc | apply pw_below_drewN | apply below_drew1 | refine below_set ?_ GE168.out | refine below_set ?_ GE169.out | refine below_set ?_ GE170.out | refine below_set ?_ GE179.out | refine below_set ?_ GE185.out) | exact HB.out)) hb); clear HO176; clear HO182; clear BK168; clear BK169; clear BK170; clear BK179; clear BK185; clear HB; have HO176 := n0_; have HO182 := n1_; have BK168 := n2_; have BK169 := n3_; have BK170 := n4_; have BK179 := n5_; have BK185 := n6_; have HB := n7_; clear n0_ n1_ n2_ n3_ n4_ n5_ n6_ n7_; (try clear hb); (try clear hb2); (try clear hk); (try clear hi); have hnb68 := NB169_168.out; have hnc68 := NB168_169.out; have hnb69 := NB169_170.out; have hnc69 := NB170_169.out; have hcz70_0 : w67.cell? ⟨gb169, 0, none⟩ = some (.slice A0_0 l0_0.length c0_0) := (blk_cell BK169.out 0).trans rfl; have hcz70_1 : w67.cell? ⟨gb169, 1, none⟩ = some (.int .i64 a0_1) := (blk_cell BK169.out 1).trans rfl; have hfz70_0 := blk_frozen BK169.out 0; have hfz70_1 := blk_frozen BK169.out 1) | (go_at_call 38; (with_reducible refine (heap_Right.calls _ _ l0_0 a0_1 t188 _ ?side1 ?side2 A57.out).mono ?_); (case side1 => repeat (first | exact (Kd.C_below HR0_0.out HB.out) | (with_reducible refine Kd.C_alloc ?_ _) | (with_reducible refine Kd.C_drewN ?_ _) | (with_reducible refine Kd.C_drew ?_))); (case side2 => exact HC0_0.out); rintro e w71 ⟨rfl, hb⟩; have n0_ := Aside0.mk (Kd.S_below (by (with_reducible repeat (first | apply Kd.S_alloc | apply Kd.S_drewN | apply Kd.S_drew)); exact HO176.out) hb); have n1_ := Aside0.mk (Kd.S_below (by (with_reducible repeat (first | apply Kd.S_alloc | apply Kd.S_drewN | apply Kd.S_drew)); exact HO182.out) hb); have n2_ := Aside0.mk (blk_below (g := gb168) (o := .cells #[.slice A0_0 l0_0.length c0_0, .int .i64 a0_1, .slice A0_2 l0_2.length c0_2, .int .i64 a0_3, .int .i64 a0_4, .int .i64 a0_5] 61 (0, 0)) (by (with_reducible repeat (first | refine blk_drewN ?_ _ | refine blk_drew ?_ | refine blk_alloc ?_ _)); exact BK168.out) hb); have n3_ := Aside0.mk (blk_below (g := gb169) (o := .cells #[.slice A0_0 l0_0.length c0_0, .int .i64 a0_1] 24 (0, 0)) (by (with_reducible repeat (first | refine blk_drewN ?_ _ | refine blk_drew ?_ | refine blk_alloc ?_ _)); exact BK169.out) hb); have n4_ := Aside0.mk (blk_below (g := gb170) (o := .cells #[.slice A0_2 l0_2.length c0_2, .int .i64 a0_3] 24 (0, 0)) (by (with_reducible repeat (first | refine blk_drewN ?_ _ | refine blk_drew ?_ | refine blk_alloc ?_ _)); exact BK170.out) hb); have n5_ := Aside0.mk (blk_below (g := gb179) (o := .cells #[.slice Ao37 t174.length co37, .int .i64 t177] 24 (0, 0)) (by (with_reducible repeat (first | refine blk_drewN ?_ _ | refine blk_drew ?_ | refine blk_alloc ?_ _)); exact BK179.out) hb); have n6_ := Aside0.mk (blk_below (g := gb185) (o := .cells #[.slice Ao44 t180.length co44, .int .i64 t183] 24 (0, 0)) (by (with_reducible repeat (first | refine blk_drewN ?_ _ | refine blk_drew ?_ | refine blk_alloc ?_ _)); exact BK185.out) hb); have n7_ := Aside0.mk (below_step (by repeat (first | (with_reducible first | exact HB.out | apply below_alloc | apply pw_below_drewN | apply below_drew1 | refine below_set ?_ GE168.out | refine below_set ?_ GE169.out | refine below_set ?_ GE170.out | refine below_set ?_ GE179.out | refine below_set ?_ GE185.out) | exact HB.out)) hb); clear HO176; clear HO182; clear BK168; clear BK169; clear BK170; clear BK179; clear BK185; clear HB; have HO176 := n0_; have HO182 := n1_; have BK168 := n2_; have BK169 := n3_; have BK170 := n4_; have BK179 := n5_; have BK185 := n6_; have HB := n7_; clear n0_ n1_ n2_ n3_ n4_ n5_ n6_ n7_; (try clear hb); (try clear hb2); (try clear hk); (try clear hi)))
              go_meet
              case rel => exact ⟨_, ((t188 != t186)), (by first | rfl | (simp; done) | (simp [*]; done)), H', ⟨by have := HJ2.out; first | omega | exact Nat.le_refl _⟩, ⟨by (with_reducible repeat (first | apply Kd.S_alloc | apply Kd.S_drewN | apply Kd.S_drew)); exact Kd.S_mono HO176.out (fun _ hk => hk.2)⟩, ⟨by (with_reducible repeat (first | apply Kd.S_alloc | apply Kd.S_drewN | apply Kd.S_drew)); exact Kd.S_mono HO182.out (fun _ hk => hk.2)⟩, ⟨by (with_reducible repeat (first | refine blk_drewN ?_ _ | refine blk_drew ?_ | refine blk_alloc ?_ _)); exact BK168.out⟩, ⟨by (with_reducible repeat (first | refine blk_drewN ?_ _ | refine blk_drew ?_ | refine blk_alloc ?_ _)); exact BK169.out⟩, ⟨by (with_reducible repeat (first | refine blk_drewN ?_ _ | refine blk_drew ?_ | refine blk_alloc ?_ _)); exact BK170.out⟩, ⟨by (with_reducible repeat (first | refine blk_drewN ?_ _ | refine blk_drew ?_ | refine blk_alloc ?_ _)); exact BK179.out⟩, ⟨by (with_reducible repeat (first | refine blk_drewN ?_ _ | refine blk_drew ?_ | refine blk_alloc ?_ _)); exact BK185.out⟩, ⟨by repeat (first | (with_reducible first | exact HB.out | apply below_alloc | apply pw_below_drewN | apply below_drew1 | refine below_set ?_ GE168.out | refine below_set ?_ GE169.out | refine below_set ?_ GE170.out | refine below_set ?_ GE179.out | refine below_set ?_ GE185.out) | exact HB.out)⟩⟩
            · rw [if_neg c56] at H
              have c56b0 : (t178 == t184) = false := beq_eq_false_iff_ne.mpr c56
              have c56b1 : (t178 != t184) = true := bne_iff_ne.mpr c56
              (first | rw [c56b0] | (simp only [i64_w, i32_w]; rw [c56b0]) | skip)
              have H' := Aside0.mk H
              clear H
              have hnb72 := NB179_168.out
              have hnc72 := NB168_179.out
              have hnb73 := NB179_169.out
              have hnc73 := NB169_179.out
              have hnb74 := NB179_170.out
              have hnc74 := NB170_179.out
              have hnb75 := NB179_185.out
              have hnc75 := NB185_179.out
              have hcz76_0 : w53.cell? ⟨gb179, 0, none⟩ = some (.slice Ao37 t174.length co37) := (blk_cell BK179.out 0).trans rfl
              have hcz76_1 : w53.cell? ⟨gb179, 1, none⟩ = some (.int .i64 t177) := (blk_cell BK179.out 1).trans rfl
              have hfz76_0 := blk_frozen BK179.out 0
              have hfz76_1 := blk_frozen BK179.out 1
              have hnb77 := NB185_168.out
              have hnc77 := NB168_185.out
              have hnb78 := NB185_169.out
              have hnc78 := NB169_185.out
              have hnb79 := NB185_170.out
              have hnc79 := NB170_185.out
              have hcz80_0 : w53.cell? ⟨gb185, 0, none⟩ = some (.slice Ao44 t180.length co44) := (blk_cell BK185.out 0).trans rfl
              have hcz80_1 : w53.cell? ⟨gb185, 1, none⟩ = some (.int .i64 t183) := (blk_cell BK185.out 1).trans rfl
              have hfz80_0 := blk_frozen BK185.out 0
              have hfz80_1 := blk_frozen BK185.out 1
              go_wp2_with (first | ((with_reducible refine gate_callee (f := 37) rfl ?_); refine goesL_ (some 47) rfl rfl Try.func37 (by kernel_rfl) rfl #[.agg #[.slice Ao37 t174.length co37, .int .i64 t177], .agg #[.slice Ao44 t180.length co44, .int .i64 t183]] rfl (by (try simp only [List.map_toArray, List.map_cons, List.map_nil]); first | done | rfl | (simp only [List.length_drop, List.length_take]; rfl)) ?_; (with_reducible refine (assartref05_Same.calls kj2 _ _ t174 t177 _ _ t180 t183 true _ ?side1 ?side2 ?side3 ?side4 A54.out).mono ?_); (case side1 => repeat (first | exact (Kd.S_reads' HO176.out).2.2 | (with_reducible refine Kd.C_alloc ?_ _) | (with_reducible refine Kd.C_drewN ?_ _) | (with_reducible refine Kd.C_drew ?_))); (case side2 => exact (Kd.S_reads' HO176.out).2.1); (case side3 => repeat (first | exact (Kd.S_reads' HO182.out).2.2 | (with_reducible refine Kd.C_alloc ?_ _) | (with_reducible refine Kd.C_drewN ?_ _) | (with_reducible refine Kd.C_drew ?_))); (case side4 => exact (Kd.S_reads' HO182.out).2.1); rintro e w81 ⟨rfl, hb⟩; refine ⟨_, rfl, ?_⟩; have n0_ := Aside0.mk (Kd.S_below (by (with_reducible repeat (first | apply Kd.S_alloc | apply Kd.S_drewN | apply Kd.S_drew)); exact HO176.out) hb); have n1_ := Aside0.mk (Kd.S_below (by (with_reducible repeat (first | apply Kd.S_alloc | apply Kd.S_drewN | apply Kd.S_drew)); exact HO182.out) hb); have n2_ := Aside0.mk (blk_below (g := gb168) (o := .cells #[.slice A0_0 l0_0.length c0_0, .int .i64 a0_1, .slice A0_2 l0_2.length c0_2, .int .i64 a0_3, .int .i64 a0_4, .int .i64 a0_5] 61 (0, 0)) (by (with_reducible repeat (first | refine blk_drewN ?_ _ | refine blk_drew ?_ | refine blk_alloc ?_ _)); exact BK168.out) hb); have n3_ := Aside0.mk (blk_below (g := gb169) (o := .cells #[.slice A0_0 l0_0.length c0_0, .int .i64 a0_1] 24 (0, 0)) (by (with_reducible repeat (first | refine blk_drewN ?_ _ | refine blk_drew ?_ | refine blk_alloc ?_ _)); exact BK169.out) hb); have n4_ := Aside0.mk (blk_below (g := gb170) (o := .cells #[.slice A0_2 l0_2.length c0_2, .int .i64 a0_3] 24 (0, 0)) (by (with_reducible repeat (first | refine blk_drewN ?_ _ | refine blk_drew ?_ | refine blk_alloc ?_ _)); exact BK170.out) hb); have n5_ := Aside0.mk (blk_below (g := gb179) (o := .cells #[.slice Ao37 t174.length co37, .int .i64 t177] 24 (0, 0)) (by (with_reducible repeat (first | refine blk_drewN ?_ _ | refine blk_drew ?_ | refine blk_alloc ?_ _)); exact BK179.out) hb); have n6_ := Aside0.mk (blk_below (g := gb185) (o := .cells #[.slice Ao44 t180.length co44, .int .i64 t183] 24 (0, 0)) (by (with_reducible repeat (first | refine blk_drewN ?_ _ | refine blk_drew ?_ | refine blk_alloc ?_ _)); exact BK185.out) hb); have n7_ := Aside0.mk (below_step (by repeat (first | (with_reducible first | exact HB.out | apply below_alloc | apply pw_below_drewN | apply below_drew1 | refine below_set ?_ GE168.out | refine below_set ?_ GE169.out | refine below_set ?_ GE170.out | refine below_set ?_ GE179.out | refine below_set ?_ GE185.out) | exact HB.out)) hb); clear HO176; clear HO182; clear BK168; clear BK169; clear BK170; clear BK179; clear BK185; clear HB; have HO176 := n0_; have HO182 := n1_; have BK168 := n2_; have BK169 := n3_; have BK170 := n4_; have BK179 := n5_; have BK185 := n6_; have HB := n7_; clear n0_ n1_ n2_ n3_ n4_ n5_ n6_ n7_; (try clear hb); (try clear hb2); (try clear hk); (try clear hi)))
              go_meet
              case rel => exact ⟨_, (true), (by first | rfl | (simp; done) | (simp [*]; done)), H', ⟨by have := HJ2.out; first | omega | exact Nat.le_refl _⟩, ⟨by (with_reducible repeat (first | apply Kd.S_alloc | apply Kd.S_drewN | apply Kd.S_drew)); exact Kd.S_mono HO176.out (fun _ hk => hk.2)⟩, ⟨by (with_reducible repeat (first | apply Kd.S_alloc | apply Kd.S_drewN | apply Kd.S_drew)); exact Kd.S_mono HO182.out (fun _ hk => hk.2)⟩, ⟨by (with_reducible repeat (first | refine blk_drewN ?_ _ | refine blk_drew ?_ | refine blk_alloc ?_ _)); exact BK168.out⟩, ⟨by (with_reducible repeat (first | refine blk_drewN ?_ _ | refine blk_drew ?_ | refine blk_alloc ?_ _)); exact BK169.out⟩, ⟨by (with_reducible repeat (first | refine blk_drewN ?_ _ | refine blk_drew ?_ | refine blk_alloc ?_ _)); exact BK170.out⟩, ⟨by (with_reducible repeat (first | refine blk_drewN ?_ _ | refine blk_drew ?_ | refine blk_alloc ?_ _)); exact BK179.out⟩, ⟨by (with_reducible repeat (first | refine blk_drewN ?_ _ | refine blk_drew ?_ | refine blk_alloc ?_ _)); exact BK185.out⟩, ⟨by repeat (first | (with_reducible first | exact HB.out | apply below_alloc | apply pw_below_drewN | apply below_drew1 | refine below_set ?_ GE168.out | refine below_set ?_ GE169.out | refine below_set ?_ GE170.out | refine below_set ?_ GE179.out | refine below_set ?_ GE185.out) | exact HB.out)⟩⟩
          · replace c55 := Bool.eq_false_iff.mpr c55
            subst c55
            have H1 : (assartlaw05_HeapTells.j1 kj2 a0_4 t171 t186 true l0_0 a0_1 l0_2 a0_3) = some r := by rw [if_neg (show ¬ (false = true) by decide)] at H; exact H
            clear H
            have H := H1
            clear H1
            have H' := Aside0.mk H
            clear H
            have hnb82 := NB179_168.out
            have hnc82 := NB168_179.out
            have hnb83 := NB179_169.out
            have hnc83 := NB169_179.out
            have hnb84 := NB179_170.out
            have hnc84 := NB170_179.out
            have hnb85 := NB179_185.out
            have hnc85 := NB185_179.out
            have hcz86_0 : w53.cell? ⟨gb179, 0, none⟩ = some (.slice Ao37 t174.length co37) := (blk_cell BK179.out 0).trans rfl
            have hcz86_1 : w53.cell? ⟨gb179, 1, none⟩ = some (.int .i64 t177) := (blk_cell BK179.out 1).trans rfl
            have hfz86_0 := blk_frozen BK179.out 0
            have hfz86_1 := blk_frozen BK179.out 1
            have hnb87 := NB185_168.out
            have hnc87 := NB168_185.out
            have hnb88 := NB185_169.out
            have hnc88 := NB169_185.out
            have hnb89 := NB185_170.out
            have hnc89 := NB170_185.out
            have hcz90_0 : w53.cell? ⟨gb185, 0, none⟩ = some (.slice Ao44 t180.length co44) := (blk_cell BK185.out 0).trans rfl
            have hcz90_1 : w53.cell? ⟨gb185, 1, none⟩ = some (.int .i64 t183) := (blk_cell BK185.out 1).trans rfl
            have hfz90_0 := blk_frozen BK185.out 0
            have hfz90_1 := blk_frozen BK185.out 1
            go_wp2_with (first | ((with_reducible refine gate_callee (f := 37) rfl ?_); refine goesL_ (some 47) rfl rfl Try.func37 (by kernel_rfl) rfl #[.agg #[.slice Ao37 t174.length co37, .int .i64 t177], .agg #[.slice Ao44 t180.length co44, .int .i64 t183]] rfl (by (try simp only [List.map_toArray, List.map_cons, List.map_nil]); first | done | rfl | (simp only [List.length_drop, List.length_take]; rfl)) ?_; (with_reducible refine (assartref05_Same.calls kj2 _ _ t174 t177 _ _ t180 t183 false _ ?side1 ?side2 ?side3 ?side4 A54.out).mono ?_); (case side1 => repeat (first | exact (Kd.S_reads' HO176.out).2.2 | (with_reducible refine Kd.C_alloc ?_ _) | (with_reducible refine Kd.C_drewN ?_ _) | (with_reducible refine Kd.C_drew ?_))); (case side2 => exact (Kd.S_reads' HO176.out).2.1); (case side3 => repeat (first | exact (Kd.S_reads' HO182.out).2.2 | (with_reducible refine Kd.C_alloc ?_ _) | (with_reducible refine Kd.C_drewN ?_ _) | (with_reducible refine Kd.C_drew ?_))); (case side4 => exact (Kd.S_reads' HO182.out).2.1); rintro e w91 ⟨rfl, hb⟩; refine ⟨_, rfl, ?_⟩; have n0_ := Aside0.mk (Kd.S_below (by (with_reducible repeat (first | apply Kd.S_alloc | apply Kd.S_drewN | apply Kd.S_drew)); exact HO176.out) hb); have n1_ := Aside0.mk (Kd.S_below (by (with_reducible repeat (first | apply Kd.S_alloc | apply Kd.S_drewN | apply Kd.S_drew)); exact HO182.out) hb); have n2_ := Aside0.mk (blk_below (g := gb168) (o := .cells #[.slice A0_0 l0_0.length c0_0, .int .i64 a0_1, .slice A0_2 l0_2.length c0_2, .int .i64 a0_3, .int .i64 a0_4, .int .i64 a0_5] 61 (0, 0)) (by (with_reducible repeat (first | refine blk_drewN ?_ _ | refine blk_drew ?_ | refine blk_alloc ?_ _)); exact BK168.out) hb); have n3_ := Aside0.mk (blk_below (g := gb169) (o := .cells #[.slice A0_0 l0_0.length c0_0, .int .i64 a0_1] 24 (0, 0)) (by (with_reducible repeat (first | refine blk_drewN ?_ _ | refine blk_drew ?_ | refine blk_alloc ?_ _)); exact BK169.out) hb); have n4_ := Aside0.mk (blk_below (g := gb170) (o := .cells #[.slice A0_2 l0_2.length c0_2, .int .i64 a0_3] 24 (0, 0)) (by (with_reducible repeat (first | refine blk_drewN ?_ _ | refine blk_drew ?_ | refine blk_alloc ?_ _)); exact BK170.out) hb); have n5_ := Aside0.mk (blk_below (g := gb179) (o := .cells #[.slice Ao37 t174.length co37, .int .i64 t177] 24 (0, 0)) (by (with_reducible repeat (first | refine blk_drewN ?_ _ | refine blk_drew ?_ | refine blk_alloc ?_ _)); exact BK179.out) hb); have n6_ := Aside0.mk (blk_below (g := gb185) (o := .cells #[.slice Ao44 t180.length co44, .int .i64 t183] 24 (0, 0)) (by (with_reducible repeat (first | refine blk_drewN ?_ _ | refine blk_drew ?_ | refine blk_alloc ?_ _)); exact BK185.out) hb); have n7_ := Aside0.mk (below_step (by repeat (first | (with_reducible first | exact HB.out | apply below_alloc | apply pw_below_drewN | apply below_drew1 | refine below_set ?_ GE168.out | refine below_set ?_ GE169.out | refine below_set ?_ GE170.out | refine below_set ?_ GE179.out | refine below_set ?_ GE185.out) | exact HB.out)) hb); clear HO176; clear HO182; clear BK168; clear BK169; clear BK170; clear BK179; clear BK185; clear HB; have HO176 := n0_; have HO182 := n1_; have BK168 := n2_; have BK169 := n3_; have BK170 := n4_; have BK179 := n5_; have BK185 := n6_; have HB := n7_; clear n0_ n1_ n2_ n3_ n4_ n5_ n6_ n7_; (try clear hb); (try clear hb2); (try clear hk); (try clear hi)))
            go_meet
            case rel => exact ⟨_, (true), (by first | rfl | (simp; done) | (simp [*]; done)), H', ⟨by have := HJ2.out; first | omega | exact Nat.le_refl _⟩, ⟨by (with_reducible repeat (first | apply Kd.S_alloc | apply Kd.S_drewN | apply Kd.S_drew)); exact Kd.S_mono HO176.out (fun _ hk => hk.2)⟩, ⟨by (with_reducible repeat (first | apply Kd.S_alloc | apply Kd.S_drewN | apply Kd.S_drew)); exact Kd.S_mono HO182.out (fun _ hk => hk.2)⟩, ⟨by (with_reducible repeat (first | refine blk_drewN ?_ _ | refine blk_drew ?_ | refine blk_alloc ?_ _)); exact BK168.out⟩, ⟨by (with_reducible repeat (first | refine blk_drewN ?_ _ | refine blk_drew ?_ | refine blk_alloc ?_ _)); exact BK169.out⟩, ⟨by (with_reducible repeat (first | refine blk_drewN ?_ _ | refine blk_drew ?_ | refine blk_alloc ?_ _)); exact BK170.out⟩, ⟨by (with_reducible repeat (first | refine blk_drewN ?_ _ | refine blk_drew ?_ | refine blk_alloc ?_ _)); exact BK179.out⟩, ⟨by (with_reducible repeat (first | refine blk_drewN ?_ _ | refine blk_drew ?_ | refine blk_alloc ?_ _)); exact BK185.out⟩, ⟨by repeat (first | (with_reducible first | exact HB.out | apply below_alloc | apply pw_below_drewN | apply below_drew1 | refine below_set ?_ GE168.out | refine below_set ?_ GE169.out | refine below_set ?_ GE170.out | refine below_set ?_ GE179.out | refine below_set ?_ GE185.out) | exact HB.out)⟩⟩
        case rest =>
          clear HC34
          try clear c1
          try clear c2
          try clear p2
          try clear c3
          try clear c4
          try clear c5
          try clear c6
          try clear c7
          try clear c8
          try clear c9
          try clear c11
          try clear c12
          try clear c17
          try clear c19
          try clear c20
          try clear c23
          try clear c26
          try clear c27
          try clear c30
          try clear c32
          try clear c33
          try clear c34
          try clear c35
          try clear c36
          try clear c37
          try clear c38
          try clear c39
          try clear c40
          try clear c45
          try clear c46
          try clear c47
          try clear c48
          try clear c50
          try clear c51
          try clear c55
          try clear c56
          try clear c56b0
          try clear c56b1
          try clear c58
          try clear c59
          try clear c60
          try clear c61
          try clear c63
          try clear c64
          try clear c65
          try clear c68
          try clear c69
          try clear c72
          try clear c73
          try clear c74
          try clear c75
          try clear c77
          try clear c78
          try clear c79
          try clear c82
          try clear c83
          try clear c84
          try clear c85
          try clear c87
          try clear c88
          try clear c89
          try clear hcz13_0
          try clear hcz13_1
          try clear hcz14_0
          try clear hcz14_1
          try clear hcz14_2
          try clear hcz14_3
          try clear hcz14_4
          try clear hcz14_5
          try clear hcz21_0
          try clear hcz21_1
          try clear hcz24_0
          try clear hcz24_1
          try clear hcz28_0
          try clear hcz28_1
          try clear hcz41_0
          try clear hcz41_1
          try clear hcz49_0
          try clear hcz49_1
          try clear hcz52_0
          try clear hcz52_1
          try clear hcz5_0
          try clear hcz5_1
          try clear hcz5_2
          try clear hcz5_3
          try clear hcz5_4
          try clear hcz5_5
          try clear hcz62_0
          try clear hcz62_1
          try clear hcz66_0
          try clear hcz66_1
          try clear hcz70_0
          try clear hcz70_1
          try clear hcz76_0
          try clear hcz76_1
          try clear hcz80_0
          try clear hcz80_1
          try clear hcz86_0
          try clear hcz86_1
          try clear hcz8_0
          try clear hcz8_1
          try clear hcz90_0
          try clear hcz90_1
          try clear hcz9_0
          try clear hcz9_1
          try clear hcz9_2
          try clear hcz9_3
          try clear hcz9_4
          try clear hcz9_5
          try clear hfz13_0
          try clear hfz13_1
          try clear hfz14_0
          try clear hfz14_1
          try clear hfz14_2
          try clear hfz14_3
          try clear hfz14_4
          try clear hfz14_5
          try clear hfz21_0
          try clear hfz21_1
          try clear hfz24_0
          try clear hfz24_1
          try clear hfz28_0
          try clear hfz28_1
          try clear hfz41_0
          try clear hfz41_1
          try clear hfz49_0
          try clear hfz49_1
          try clear hfz52_0
          try clear hfz52_1
          try clear hfz5_0
          try clear hfz5_1
          try clear hfz5_2
          try clear hfz5_3
          try clear hfz5_4
          try clear hfz5_5
          try clear hfz62_0
          try clear hfz62_1
          try clear hfz66_0
          try clear hfz66_1
          try clear hfz70_0
          try clear hfz70_1
          try clear hfz76_0
          try clear hfz76_1
          try clear hfz80_0
          try clear hfz80_1
          try clear hfz86_0
          try clear hfz86_1
          try clear hfz8_0
          try clear hfz8_1
          try clear hfz90_0
          try clear hfz90_1
          try clear hfz9_0
          try clear hfz9_1
          try clear hfz9_2
          try clear hfz9_3
          try clear hfz9_4
          try clear hfz9_5
          try clear p2
          obtain ⟨kq, x59_33, rfl, HA, HJ33, HO_180000, HO_186000, BK168, BK169, BK170, BK179, BK185, HB⟩ := hcut
          cases kq with
          | zero => exact absurd HA.out (by simp [assartlaw05_HeapTells.j1])
          | succ kj33 =>
            have H := HA.out
            clear HA
            simp only [assartlaw05_HeapTells.j1] at H
            by_cases c92 : x59_33 = true
            · subst c92
              have H1 : (some false) = some r := by rw [if_pos rfl] at H; exact H
              clear H
              have H := H1
              clear H1
              obtain rfl := Option.some.inj H
              cases hr
            · replace c92 := Bool.eq_false_iff.mpr c92
              subst c92
              have H1 : (if t186 = true then ((assartref05_Right.f kj33 l0_2 a0_3).bind fun t189 => (if t189 = true then ((heap_Same.f l0_0 a0_1 l0_2 a0_3).bind fun t190 => ((assartref05_Same.f kj33 l0_0 a0_1 l0_2 a0_3).bind fun t191 => (assartlaw05_HeapTells.j2 kj33 a0_4 t171 t186 (t190 != t191) l0_0 a0_1))) else (assartlaw05_HeapTells.j2 kj33 a0_4 t171 t186 false l0_0 a0_1))) else (assartlaw05_HeapTells.j2 kj33 a0_4 t171 t186 false l0_0 a0_1)) = some r := by rw [if_neg (show ¬ (false = true) by decide)] at H; exact H
              clear H
              have H := H1
              clear H1
              have HC93 := Aside0.mk H
              clear H
              go_upto_region 13 with (fail)
              go_cut [73] (fun v73 wc => ∃ (kq : Nat) (x73_92 : Bool), v73 = .bool x73_92 ∧ Aside0 (assartlaw05_HeapTells.j2 kq a0_4 t171 t186 x73_92 l0_0 a0_1 = some r) ∧ Aside0 (kq ≤ kj33) ∧ Aside0 (Kd.S k55 55 wc w.heap.size (fun k_ => some k_ ≠ ((.slice Ao44 t180.length co44) : Value).ownBlock) (.slice Ao37 t174.length co37) t174) ∧ Aside0 (Kd.S k55 55 wc w.heap.size (fun k_ => some k_ ≠ ((.slice Ao37 t174.length co37) : Value).ownBlock) (.slice Ao44 t180.length co44) t180) ∧ Aside0 (wc.heap[gb168]? = some (.cells #[(.slice A0_0 l0_0.length c0_0), .int .i64 a0_1, (.slice A0_2 l0_2.length c0_2), .int .i64 a0_3, .int .i64 a0_4, .int .i64 a0_5] 61 (0, 0))) ∧ Aside0 (wc.heap[gb169]? = some (.cells #[(.slice A0_0 l0_0.length c0_0), .int .i64 a0_1] 24 (0, 0))) ∧ Aside0 (wc.heap[gb170]? = some (.cells #[(.slice A0_2 l0_2.length c0_2), .int .i64 a0_3] 24 (0, 0))) ∧ Aside0 (wc.heap[gb179]? = some (.cells #[(.slice Ao37 t174.length co37), .int .i64 t177] 24 (0, 0))) ∧ Aside0 (wc.heap[gb185]? = some (.cells #[(.slice Ao44 t180.length co44), .int .i64 t183] 24 (0, 0))) ∧ Aside0 (Below w.heap.size w wc))
              case first =>
                have H := HC93.out
                clear HC93
                by_cases c94 : t186 = true
                · subst c94
                  have H1 : ((assartref05_Right.f kj33 l0_2 a0_3).bind fun t189 => (if t189 = true then ((heap_Same.f l0_0 a0_1 l0_2 a0_3).bind fun t190 => ((assartref05_Same.f kj33 l0_0 a0_1 l0_2 a0_3).bind fun t191 => (assartlaw05_HeapTells.j2 kj33 a0_4 t171 true (t190 != t191) l0_0 a0_1))) else (assartlaw05_HeapTells.j2 kj33 a0_4 t171 true false l0_0 a0_1))) = some r := by rw [if_pos rfl] at H; exact H
                  clear H
                  have H := H1
                  clear H1
                  replace H := Option.bind_eq_some_iff.mp H
                  obtain ⟨t189, A950, H⟩ := H
                  replace H : (if t189 = true then ((heap_Same.f l0_0 a0_1 l0_2 a0_3).bind fun t190 => ((assartref05_Same.f kj33 l0_0 a0_1 l0_2 a0_3).bind fun t191 => (assartlaw05_HeapTells.j2 kj33 a0_4 t171 true (t190 != t191) l0_0 a0_1))) else (assartlaw05_HeapTells.j2 kj33 a0_4 t171 true false l0_0 a0_1)) = some r := H
                  have A95 := Aside0.mk A950
                  clear A950
                  by_cases c96 : t189 = true
                  · subst c96
                    have H1 : ((heap_Same.f l0_0 a0_1 l0_2 a0_3).bind fun t190 => ((assartref05_Same.f kj33 l0_0 a0_1 l0_2 a0_3).bind fun t191 => (assartlaw05_HeapTells.j2 kj33 a0_4 t171 true (t190 != t191) l0_0 a0_1))) = some r := by rw [if_pos rfl] at H; exact H
                    clear H
                    have H := H1
                    clear H1
                    replace H := Option.bind_eq_some_iff.mp H
                    obtain ⟨t190, A970, H⟩ := H
                    replace H : ((assartref05_Same.f kj33 l0_0 a0_1 l0_2 a0_3).bind fun t191 => (assartlaw05_HeapTells.j2 kj33 a0_4 t171 true (t190 != t191) l0_0 a0_1)) = some r := H
                    have A97 := Aside0.mk A970
                    clear A970
                    replace H := Option.bind_eq_some_iff.mp H
                    obtain ⟨t191, A980, H⟩ := H
                    replace H : (assartlaw05_HeapTells.j2 kj33 a0_4 t171 true (t190 != t191) l0_0 a0_1) = some r := H
                    have A98 := Aside0.mk A980
                    clear A980
                    have H' := Aside0.mk H
                    clear H
                    try go_wp2
                    have n0_ := Aside0.mk (Kd.S_drew HO_180000.out)
                    have n1_ := Aside0.mk (Kd.S_drew HO_186000.out)
                    have n2_ := Aside0.mk (blk_drew BK168.out)
                    have n3_ := Aside0.mk (blk_drew BK169.out)
                    have n4_ := Aside0.mk (blk_drew BK170.out)
                    have n5_ := Aside0.mk (blk_drew BK179.out)
                    have n6_ := Aside0.mk (blk_drew BK185.out)
                    have n7_ := Aside0.mk (below_drew1 HB.out)
                    clear HO_180000
                    clear HO_186000
                    clear BK168
                    clear BK169
                    clear BK170
                    clear BK179
                    clear BK185
                    clear HB
                    have HO_180000 := n0_
                    have HO_186000 := n1_
                    have BK168 := n2_
                    have BK169 := n3_
                    have BK170 := n4_
                    have BK179 := n5_
                    have BK185 := n6_
                    have HB := n7_
                    clear n0_ n1_ n2_ n3_ n4_ n5_ n6_ n7_
                    refine start_ (n := 14) (S := fun w' => w'.cell? ⟨gb170, 0, none⟩ = some (.slice A0_2 l0_2.length c0_2) ∧ w'.cell? ⟨gb170, 1, none⟩ = some (.int .i64 a0_3) ∧ w'.cell? ⟨gb169, 0, none⟩ = some (.slice A0_0 l0_0.length c0_0) ∧ w'.cell? ⟨gb169, 1, none⟩ = some (.int .i64 a0_1)) (ds := []) #[false, false, false, false, false, false, false, false, false, false, false, false, false, false] (by kernel_rfl) rfl rfl ⟨(blk_cell BK170.out 0).trans rfl, (blk_cell BK170.out 1).trans rfl, (blk_cell BK169.out 0).trans rfl, (blk_cell BK169.out 1).trans rfl⟩ (fun hHeld => ?_); refine with_tabW assartlaw05_HeapTells.tab13 assartlaw05_HeapTells.bits13 (fun HT_ HW_ => ?_)
                    generalize wc.drew = w99 at HO_180000 HO_186000 BK168 BK169 BK170 BK179 BK185 HB hHeld ⊢
                    refine pure_ (i := 0) (N := some 60) (v := ?_) (a' := ?_) #[true, false, false, false, false, false, false, false, false, false, false, false, false, false] rfl rfl (any_of HT_.out (by kernel_rfl)) (fun _ _ _ h => h) (Or.inl ⟨by rfl, ?_⟩) ?_ ?_
                    rotate_left
                    · intro w'
                      go_simp
                      with_reducible rfl
                    rotate_left
                    · simp only [Act.put, List.setIfInBounds_toArray, List.set_cons_zero, List.set_cons_succ, i64_w, i32_w]
                      rfl
                    refine pure_ (i := 1) (N := some 61) (v := ?_) (a' := ?_) #[true, true, false, false, false, false, false, false, false, false, false, false, false, false] rfl rfl (any_of HT_.out (by kernel_rfl)) (fun _ _ _ h => h) (Or.inl ⟨by rfl, ?_⟩) ?_ ?_
                    rotate_left
                    · intro w'
                      go_simp
                      with_reducible rfl
                    rotate_left
                    · simp only [Act.put, List.setIfInBounds_toArray, List.set_cons_zero, List.set_cons_succ, i64_w, i32_w]
                      rfl
                    refine take_ (i := 2) (N := some 62) (v := ?_) (a' := ?_) #[true, true, true, false, false, false, false, false, false, false, false, false, false, false] rfl rfl (take_ofW HT_.out HW_.out (by kernel_rfl)) (fun _ _ _ h => h) (Or.inl ⟨by rfl, ?_⟩) hHeld ?_ ?_
                    rotate_left
                    · rintro w' ⟨s0, s1, s2, s3⟩
                      go_simp
                      with_reducible rfl
                    rotate_left
                    · simp only [Act.put, List.setIfInBounds_toArray, List.set_cons_zero, List.set_cons_succ, i64_w, i32_w]
                      rfl
                    refine one_ (i := 3) (N := some 63) #[true, true, true, true, false, false, false, false, false, false, false, false, false, false] rfl rfl (one_of HT_.out (by kernel_rfl)) (by decide) (fun K hK => ?_)
                    refine goes_ Try.func32 (by kernel_rfl) rfl #[.agg #[.slice A0_2 l0_2.length c0_2, .int .i64 a0_3]] (by rfl) rfl rfl (by (try simp only [List.map_toArray, List.map_cons, List.map_nil]); first | done | rfl | (simp only [List.length_drop, List.length_take]; rfl)) ?_
                    with_reducible refine (assartref05_Right.calls kj33 _ _ l0_2 a0_3 true _ ?side1 ?side2 A95.out).mono ?_
                    (case side1 => repeat (first | exact (Kd.C_below HR0_2.out HB.out) | (with_reducible refine Kd.C_alloc ?_ _) | (with_reducible refine Kd.C_drewN ?_ _) | (with_reducible refine Kd.C_drew ?_)))
                    (case side2 => exact HC0_2.out)
                    rintro e w100 ⟨rfl, hb⟩
                    refine ⟨_, rfl, ?_⟩
                    have n0_ := Aside0.mk (Kd.S_below (by (with_reducible repeat (first | apply Kd.S_alloc | apply Kd.S_drewN | apply Kd.S_drew)); exact HO_180000.out) hb)
                    have n1_ := Aside0.mk (Kd.S_below (by (with_reducible repeat (first | apply Kd.S_alloc | apply Kd.S_drewN | apply Kd.S_drew)); exact HO_186000.out) hb)
                    have n2_ := Aside0.mk (blk_below (g := gb168) (o := .cells #[.slice A0_0 l0_0.length c0_0, .int .i64 a0_1, .slice A0_2 l0_2.length c0_2, .int .i64 a0_3, .int .i64 a0_4, .int .i64 a0_5] 61 (0, 0)) (by (with_reducible repeat (first | refine blk_drewN ?_ _ | refine blk_drew ?_ | refine blk_alloc ?_ _)); exact BK168.out) hb)
                    have n3_ := Aside0.mk (blk_below (g := gb169) (o := .cells #[.slice A0_0 l0_0.length c0_0, .int .i64 a0_1] 24 (0, 0)) (by (with_reducible repeat (first | refine blk_drewN ?_ _ | refine blk_drew ?_ | refine blk_alloc ?_ _)); exact BK169.out) hb)
                    have n4_ := Aside0.mk (blk_below (g := gb170) (o := .cells #[.slice A0_2 l0_2.length c0_2, .int .i64 a0_3] 24 (0, 0)) (by (with_reducible repeat (first | refine blk_drewN ?_ _ | refine blk_drew ?_ | refine blk_alloc ?_ _)); exact BK170.out) hb)
                    have n5_ := Aside0.mk (blk_below (g := gb179) (o := .cells #[.slice Ao37 t174.length co37, .int .i64 t177] 24 (0, 0)) (by (with_reducible repeat (first | refine blk_drewN ?_ _ | refine blk_drew ?_ | refine blk_alloc ?_ _)); exact BK179.out) hb)
                    have n6_ := Aside0.mk (blk_below (g := gb185) (o := .cells #[.slice Ao44 t180.length co44, .int .i64 t183] 24 (0, 0)) (by (with_reducible repeat (first | refine blk_drewN ?_ _ | refine blk_drew ?_ | refine blk_alloc ?_ _)); exact BK185.out) hb)
                    have n7_ := Aside0.mk (below_step (by repeat (first | (with_reducible first | exact HB.out | apply below_alloc | apply pw_below_drewN | apply below_drew1 | refine below_set ?_ GE168.out | refine below_set ?_ GE169.out | refine below_set ?_ GE170.out | refine below_set ?_ GE179.out | refine below_set ?_ GE185.out) | exact HB.out)) hb)
                    clear HO_180000
                    clear HO_186000
                    clear BK168
                    clear BK169
                    clear BK170
                    clear BK179
                    clear BK185
                    clear HB
                    have HO_180000 := n0_
                    have HO_186000 := n1_
                    have BK168 := n2_
                    have BK169 := n3_
                    have BK170 := n4_
                    have BK179 := n5_
                    have BK185 := n6_
                    have HB := n7_
                    clear n0_ n1_ n2_ n3_ n4_ n5_ n6_ n7_
                    (try clear hb)
                    (try clear hb2)
                    (try clear hk)
                    (try clear hi)
                    refine hK.out _ _ ⟨(blk_cell BK170.out 0).trans rfl, (blk_cell BK170.out 1).trans rfl, (blk_cell BK169.out 0).trans rfl, (blk_cell BK169.out 1).trans rfl⟩ (fun hHeld => ?_)
                    clear hK K
                    refine norm_ (a' := ?_) ?_ ?_
                    rotate_left
                    · show Act.put _ (some 63) _ = _
                      simp only [Act.put, List.setIfInBounds_toArray, List.set_cons_zero, List.set_cons_succ, i64_w, i32_w]
                      rfl
                    refine pure_ (i := 4) (N := some 64) (v := ?_) (a' := ?_) #[true, true, true, true, true, false, false, false, false, false, false, false, false, false] rfl rfl (any_of HT_.out (by kernel_rfl)) (fun _ _ _ h => h) (Or.inl ⟨by rfl, ?_⟩) ?_ ?_
                    rotate_left
                    · intro w'
                      go_simp
                      with_reducible rfl
                    rotate_left
                    · simp only [Act.put, List.setIfInBounds_toArray, List.set_cons_zero, List.set_cons_succ, i64_w, i32_w]
                      rfl
                    refine pure_ (i := 5) (N := some 65) (v := ?_) (a' := ?_) #[true, true, true, true, true, true, false, false, false, false, false, false, false, false] rfl rfl (any_of HT_.out (by kernel_rfl)) (fun _ _ _ h => h) (Or.inl ⟨by rfl, ?_⟩) ?_ ?_
                    rotate_left
                    · intro w'
                      go_simp
                      with_reducible rfl
                    rotate_left
                    · simp only [Act.put, List.setIfInBounds_toArray, List.set_cons_zero, List.set_cons_succ, i64_w, i32_w]
                      rfl
                    refine take_ (i := 6) (N := some 66) (v := ?_) (a' := ?_) #[true, true, true, true, true, true, true, false, false, false, false, false, false, false] rfl rfl (take_ofW HT_.out HW_.out (by kernel_rfl)) (fun _ _ _ h => h) (Or.inl ⟨by rfl, ?_⟩) hHeld ?_ ?_
                    rotate_left
                    · rintro w' ⟨s0, s1, s2, s3⟩
                      go_simp
                      with_reducible rfl
                    rotate_left
                    · simp only [Act.put, List.setIfInBounds_toArray, List.set_cons_zero, List.set_cons_succ, i64_w, i32_w]
                      rfl
                    refine take_ (i := 7) (N := some 67) (v := ?_) (a' := ?_) #[true, true, true, true, true, true, true, true, false, false, false, false, false, false] rfl rfl (take_ofW HT_.out HW_.out (by kernel_rfl)) (fun _ _ _ h => h) (Or.inl ⟨by rfl, ?_⟩) hHeld ?_ ?_
                    rotate_left
                    · rintro w' ⟨s0, s1, s2, s3⟩
                      go_simp
                      with_reducible rfl
                    rotate_left
                    · simp only [Act.put, List.setIfInBounds_toArray, List.set_cons_zero, List.set_cons_succ, i64_w, i32_w]
                      rfl
                    refine take_ (i := 9) (N := some 69) (v := ?_) (a' := ?_) #[true, true, true, true, true, true, true, true, false, true, false, false, false, false] rfl rfl (take_ofW HT_.out HW_.out (by kernel_rfl)) (fun _ _ _ h => h) (Or.inl ⟨by rfl, ?_⟩) hHeld ?_ ?_
                    rotate_left
                    · rintro w' ⟨s0, s1, s2, s3⟩
                      go_simp
                      with_reducible rfl
                    rotate_left
                    · simp only [Act.put, List.setIfInBounds_toArray, List.set_cons_zero, List.set_cons_succ, i64_w, i32_w]
                      rfl
                    refine take_ (i := 10) (N := some 70) (v := ?_) (a' := ?_) #[true, true, true, true, true, true, true, true, false, true, true, false, false, false] rfl rfl (take_ofW HT_.out HW_.out (by kernel_rfl)) (fun _ _ _ h => h) (Or.inl ⟨by rfl, ?_⟩) hHeld ?_ ?_
                    rotate_left
                    · rintro w' ⟨s0, s1, s2, s3⟩
                      go_simp
                      with_reducible rfl
                    rotate_left
                    · simp only [Act.put, List.setIfInBounds_toArray, List.set_cons_zero, List.set_cons_succ, i64_w, i32_w]
                      rfl
                    refine one_ (i := 8) (N := some 68) #[true, true, true, true, true, true, true, true, true, true, true, false, false, false] rfl rfl (one_of HT_.out (by kernel_rfl)) (by decide) (fun K hK => ?_)
                    refine goes_ Try.func39 (by kernel_rfl) rfl #[.agg #[.slice A0_0 l0_0.length c0_0, .int .i64 a0_1], .agg #[.slice A0_2 l0_2.length c0_2, .int .i64 a0_3]] (by rfl) rfl rfl (by (try simp only [List.map_toArray, List.map_cons, List.map_nil]); first | done | rfl | (simp only [List.length_drop, List.length_take]; rfl)) ?_
                    with_reducible refine (heap_Same.calls _ _ l0_0 a0_1 _ _ l0_2 a0_3 t190 _ ?side1 ?side2 ?side3 ?side4 A97.out).mono ?_
                    (case side1 => repeat (first | exact (Kd.C_below HR0_0.out HB.out) | (with_reducible refine Kd.C_alloc ?_ _) | (with_reducible refine Kd.C_drewN ?_ _) | (with_reducible refine Kd.C_drew ?_)))
                    (case side2 => exact HC0_0.out)
                    (case side3 => repeat (first | exact (Kd.C_below HR0_2.out HB.out) | (with_reducible refine Kd.C_alloc ?_ _) | (with_reducible refine Kd.C_drewN ?_ _) | (with_reducible refine Kd.C_drew ?_)))
                    (case side4 => exact HC0_2.out)
                    rintro e w101 ⟨rfl, hb⟩
                    refine ⟨_, rfl, ?_⟩
                    have n0_ := Aside0.mk (Kd.S_below (by (with_reducible repeat (first | apply Kd.S_alloc | apply Kd.S_drewN | apply Kd.S_drew)); exact HO_180000.out) hb)
                    have n1_ := Aside0.mk (Kd.S_below (by (with_reducible repeat (first | apply Kd.S_alloc | apply Kd.S_drewN | apply Kd.S_drew)); exact HO_186000.out) hb)
                    have n2_ := Aside0.mk (blk_below (g := gb168) (o := .cells #[.slice A0_0 l0_0.length c0_0, .int .i64 a0_1, .slice A0_2 l0_2.length c0_2, .int .i64 a0_3, .int .i64 a0_4, .int .i64 a0_5] 61 (0, 0)) (by (with_reducible repeat (first | refine blk_drewN ?_ _ | refine blk_drew ?_ | refine blk_alloc ?_ _)); exact BK168.out) hb)
                    have n3_ := Aside0.mk (blk_below (g := gb169) (o := .cells #[.slice A0_0 l0_0.length c0_0, .int .i64 a0_1] 24 (0, 0)) (by (with_reducible repeat (first | refine blk_drewN ?_ _ | refine blk_drew ?_ | refine blk_alloc ?_ _)); exact BK169.out) hb)
                    have n4_ := Aside0.mk (blk_below (g := gb170) (o := .cells #[.slice A0_2 l0_2.length c0_2, .int .i64 a0_3] 24 (0, 0)) (by (with_reducible repeat (first | refine blk_drewN ?_ _ | refine blk_drew ?_ | refine blk_alloc ?_ _)); exact BK170.out) hb)
                    have n5_ := Aside0.mk (blk_below (g := gb179) (o := .cells #[.slice Ao37 t174.length co37, .int .i64 t177] 24 (0, 0)) (by (with_reducible repeat (first | refine blk_drewN ?_ _ | refine blk_drew ?_ | refine blk_alloc ?_ _)); exact BK179.out) hb)
                    have n6_ := Aside0.mk (blk_below (g := gb185) (o := .cells #[.slice Ao44 t180.length co44, .int .i64 t183] 24 (0, 0)) (by (with_reducible repeat (first | refine blk_drewN ?_ _ | refine blk_drew ?_ | refine blk_alloc ?_ _)); exact BK185.out) hb)
                    have n7_ := Aside0.mk (below_step (by repeat (first | (with_reducible first | exact HB.out | apply below_alloc | apply pw_below_drewN | apply below_drew1 | refine below_set ?_ GE168.out | refine below_set ?_ GE169.out | refine below_set ?_ GE170.out | refine below_set ?_ GE179.out | refine below_set ?_ GE185.out) | exact HB.out)) hb)
                    clear HO_180000
                    clear HO_186000
                    clear BK168
                    clear BK169
                    clear BK170
                    clear BK179
                    clear BK185
                    clear HB
                    have HO_180000 := n0_
                    have HO_186000 := n1_
                    have BK168 := n2_
                    have BK169 := n3_
                    have BK170 := n4_
                    have BK179 := n5_
                    have BK185 := n6_
                    have HB := n7_
                    clear n0_ n1_ n2_ n3_ n4_ n5_ n6_ n7_
                    (try clear hb)
                    (try clear hb2)
                    (try clear hk)
                    (try clear hi)
                    refine hK.out _ _ ⟨(blk_cell BK170.out 0).trans rfl, (blk_cell BK170.out 1).trans rfl, (blk_cell BK169.out 0).trans rfl, (blk_cell BK169.out 1).trans rfl⟩ (fun hHeld => ?_)
                    clear hK K
                    refine norm_ (a' := ?_) ?_ ?_
                    rotate_left
                    · show Act.put _ (some 68) _ = _
                      simp only [Act.put, List.setIfInBounds_toArray, List.set_cons_zero, List.set_cons_succ, i64_w, i32_w]
                      rfl
                    refine one_ (i := 11) (N := some 71) #[true, true, true, true, true, true, true, true, true, true, true, true, false, false] rfl rfl (one_of HT_.out (by kernel_rfl)) (by decide) (fun K hK => ?_)
                    refine goes_ Try.func37 (by kernel_rfl) rfl #[.agg #[.slice A0_0 l0_0.length c0_0, .int .i64 a0_1], .agg #[.slice A0_2 l0_2.length c0_2, .int .i64 a0_3]] (by rfl) rfl rfl (by (try simp only [List.map_toArray, List.map_cons, List.map_nil]); first | done | rfl | (simp only [List.length_drop, List.length_take]; rfl)) ?_
                    with_reducible refine (assartref05_Same.calls kj33 _ _ l0_0 a0_1 _ _ l0_2 a0_3 t191 _ ?side1 ?side2 ?side3 ?side4 A98.out).mono ?_
                    (case side1 => repeat (first | exact (Kd.C_below HR0_0.out HB.out) | (with_reducible refine Kd.C_alloc ?_ _) | (with_reducible refine Kd.C_drewN ?_ _) | (with_reducible refine Kd.C_drew ?_)))
                    (case side2 => exact HC0_0.out)
                    (case side3 => repeat (first | exact (Kd.C_below HR0_2.out HB.out) | (with_reducible refine Kd.C_alloc ?_ _) | (with_reducible refine Kd.C_drewN ?_ _) | (with_reducible refine Kd.C_drew ?_)))
                    (case side4 => exact HC0_2.out)
                    rintro e w102 ⟨rfl, hb⟩
                    refine ⟨_, rfl, ?_⟩
                    have n0_ := Aside0.mk (Kd.S_below (by (with_reducible repeat (first | apply Kd.S_alloc | apply Kd.S_drewN | apply Kd.S_drew)); exact HO_180000.out) hb)
                    have n1_ := Aside0.mk (Kd.S_below (by (with_reducible repeat (first | apply Kd.S_alloc | apply Kd.S_drewN | apply Kd.S_drew)); exact HO_186000.out) hb)
                    have n2_ := Aside0.mk (blk_below (g := gb168) (o := .cells #[.slice A0_0 l0_0.length c0_0, .int .i64 a0_1, .slice A0_2 l0_2.length c0_2, .int .i64 a0_3, .int .i64 a0_4, .int .i64 a0_5] 61 (0, 0)) (by (with_reducible repeat (first | refine blk_drewN ?_ _ | refine blk_drew ?_ | refine blk_alloc ?_ _)); exact BK168.out) hb)
                    have n3_ := Aside0.mk (blk_below (g := gb169) (o := .cells #[.slice A0_0 l0_0.length c0_0, .int .i64 a0_1] 24 (0, 0)) (by (with_reducible repeat (first | refine blk_drewN ?_ _ | refine blk_drew ?_ | refine blk_alloc ?_ _)); exact BK169.out) hb)
                    have n4_ := Aside0.mk (blk_below (g := gb170) (o := .cells #[.slice A0_2 l0_2.length c0_2, .int .i64 a0_3] 24 (0, 0)) (by (with_reducible repeat (first | refine blk_drewN ?_ _ | refine blk_drew ?_ | refine blk_alloc ?_ _)); exact BK170.out) hb)
                    have n5_ := Aside0.mk (blk_below (g := gb179) (o := .cells #[.slice Ao37 t174.length co37, .int .i64 t177] 24 (0, 0)) (by (with_reducible repeat (first | refine blk_drewN ?_ _ | refine blk_drew ?_ | refine blk_alloc ?_ _)); exact BK179.out) hb)
                    have n6_ := Aside0.mk (blk_below (g := gb185) (o := .cells #[.slice Ao44 t180.length co44, .int .i64 t183] 24 (0, 0)) (by (with_reducible repeat (first | refine blk_drewN ?_ _ | refine blk_drew ?_ | refine blk_alloc ?_ _)); exact BK185.out) hb)
                    have n7_ := Aside0.mk (below_step (by repeat (first | (with_reducible first | exact HB.out | apply below_alloc | apply pw_below_drewN | apply below_drew1 | refine below_set ?_ GE168.out | refine below_set ?_ GE169.out | refine below_set ?_ GE170.out | refine below_set ?_ GE179.out | refine below_set ?_ GE185.out) | exact HB.out)) hb)
                    clear HO_180000
                    clear HO_186000
                    clear BK168
                    clear BK169
                    clear BK170
                    clear BK179
                    clear BK185
                    clear HB
                    have HO_180000 := n0_
                    have HO_186000 := n1_
                    have BK168 := n2_
                    have BK169 := n3_
                    have BK170 := n4_
                    have BK179 := n5_
                    have BK185 := n6_
                    have HB := n7_
                    clear n0_ n1_ n2_ n3_ n4_ n5_ n6_ n7_
                    (try clear hb)
                    (try clear hb2)
                    (try clear hk)
                    (try clear hi)
                    refine hK.out _ _ ⟨(blk_cell BK170.out 0).trans rfl, (blk_cell BK170.out 1).trans rfl, (blk_cell BK169.out 0).trans rfl, (blk_cell BK169.out 1).trans rfl⟩ (fun hHeld => ?_)
                    clear hK K
                    refine norm_ (a' := ?_) ?_ ?_
                    rotate_left
                    · show Act.put _ (some 71) _ = _
                      simp only [Act.put, List.setIfInBounds_toArray, List.set_cons_zero, List.set_cons_succ, i64_w, i32_w]
                      rfl
                    refine pure_ (i := 12) (N := some 72) (v := ?_) (a' := ?_) #[true, true, true, true, true, true, true, true, true, true, true, true, true, false] rfl rfl (any_of HT_.out (by kernel_rfl)) (fun _ _ _ h => h) (Or.inl ⟨by rfl, ?_⟩) ?_ ?_
                    rotate_left
                    · intro w'
                      go_simp
                      with_reducible rfl
                    rotate_left
                    · simp only [Act.put, List.setIfInBounds_toArray, List.set_cons_zero, List.set_cons_succ, i64_w, i32_w]
                      rfl
                    refine pure_ (i := 13) (N := some 73) (v := ?_) (a' := ?_) #[true, true, true, true, true, true, true, true, true, true, true, true, true, true] rfl rfl (any_of HT_.out (by kernel_rfl)) (fun _ _ _ h => h) (Or.inl ⟨by rfl, ?_⟩) ?_ ?_
                    rotate_left
                    · intro w'
                      go_simp
                      with_reducible rfl
                    rotate_left
                    · simp only [Act.put, List.setIfInBounds_toArray, List.set_cons_zero, List.set_cons_succ, i64_w, i32_w]
                      rfl
                    refine done_ (done_of HT_.out (by kernel_rfl)) ?_
                    try go_wp2
                    go_meet
                    case rel => exact ⟨_, ((t190 != t191)), (by first | rfl | (simp; done) | (simp [*]; done)), H', ⟨by have := HJ2.out; have := HJ33.out; first | omega | exact Nat.le_refl _⟩, ⟨by (with_reducible repeat (first | apply Kd.S_alloc | apply Kd.S_drewN | apply Kd.S_drew)); exact HO_180000.out⟩, ⟨by (with_reducible repeat (first | apply Kd.S_alloc | apply Kd.S_drewN | apply Kd.S_drew)); exact HO_186000.out⟩, ⟨by (with_reducible repeat (first | refine blk_drewN ?_ _ | refine blk_drew ?_ | refine blk_alloc ?_ _)); exact BK168.out⟩, ⟨by (with_reducible repeat (first | refine blk_drewN ?_ _ | refine blk_drew ?_ | refine blk_alloc ?_ _)); exact BK169.out⟩, ⟨by (with_reducible repeat (first | refine blk_drewN ?_ _ | refine blk_drew ?_ | refine blk_alloc ?_ _)); exact BK170.out⟩, ⟨by (with_reducible repeat (first | refine blk_drewN ?_ _ | refine blk_drew ?_ | refine blk_alloc ?_ _)); exact BK179.out⟩, ⟨by (with_reducible repeat (first | refine blk_drewN ?_ _ | refine blk_drew ?_ | refine blk_alloc ?_ _)); exact BK185.out⟩, ⟨by repeat (first | (with_reducible first | exact HB.out | apply below_alloc | apply pw_below_drewN | apply below_drew1 | refine below_set ?_ GE168.out | refine below_set ?_ GE169.out | refine below_set ?_ GE170.out | refine below_set ?_ GE179.out | refine below_set ?_ GE185.out) | exact HB.out)⟩⟩
                  · replace c96 := Bool.eq_false_iff.mpr c96
                    subst c96
                    have H1 : (assartlaw05_HeapTells.j2 kj33 a0_4 t171 true false l0_0 a0_1) = some r := by rw [if_neg (show ¬ (false = true) by decide)] at H; exact H
                    clear H
                    have H := H1
                    clear H1
                    have H' := Aside0.mk H
                    clear H
                    try go_wp2
                    have n0_ := Aside0.mk (Kd.S_drew HO_180000.out)
                    have n1_ := Aside0.mk (Kd.S_drew HO_186000.out)
                    have n2_ := Aside0.mk (blk_drew BK168.out)
                    have n3_ := Aside0.mk (blk_drew BK169.out)
                    have n4_ := Aside0.mk (blk_drew BK170.out)
                    have n5_ := Aside0.mk (blk_drew BK179.out)
                    have n6_ := Aside0.mk (blk_drew BK185.out)
                    have n7_ := Aside0.mk (below_drew1 HB.out)
                    clear HO_180000
                    clear HO_186000
                    clear BK168
                    clear BK169
                    clear BK170
                    clear BK179
                    clear BK185
                    clear HB
                    have HO_180000 := n0_
                    have HO_186000 := n1_
                    have BK168 := n2_
                    have BK169 := n3_
                    have BK170 := n4_
                    have BK179 := n5_
                    have BK185 := n6_
                    have HB := n7_
                    clear n0_ n1_ n2_ n3_ n4_ n5_ n6_ n7_
                    refine start_ (n := 14) (S := fun w' => w'.cell? ⟨gb170, 0, none⟩ = some (.slice A0_2 l0_2.length c0_2) ∧ w'.cell? ⟨gb170, 1, none⟩ = some (.int .i64 a0_3)) (ds := []) #[false, false, false, false, false, false, false, false, false, false, false, false, false, false] (by kernel_rfl) rfl rfl ⟨(blk_cell BK170.out 0).trans rfl, (blk_cell BK170.out 1).trans rfl⟩ (fun hHeld => ?_); refine with_tabW assartlaw05_HeapTells.tab13 assartlaw05_HeapTells.bits13 (fun HT_ HW_ => ?_)
                    generalize wc.drew = w103 at HO_180000 HO_186000 BK168 BK169 BK170 BK179 BK185 HB hHeld ⊢
                    refine pure_ (i := 0) (N := some 60) (v := ?_) (a' := ?_) #[true, false, false, false, false, false, false, false, false, false, false, false, false, false] rfl rfl (any_of HT_.out (by kernel_rfl)) (fun _ _ _ h => h) (Or.inl ⟨by rfl, ?_⟩) ?_ ?_
                    rotate_left
                    · intro w'
                      go_simp
                      with_reducible rfl
                    rotate_left
                    · simp only [Act.put, List.setIfInBounds_toArray, List.set_cons_zero, List.set_cons_succ, i64_w, i32_w]
                      rfl
                    refine pure_ (i := 1) (N := some 61) (v := ?_) (a' := ?_) #[true, true, false, false, false, false, false, false, false, false, false, false, false, false] rfl rfl (any_of HT_.out (by kernel_rfl)) (fun _ _ _ h => h) (Or.inl ⟨by rfl, ?_⟩) ?_ ?_
                    rotate_left
                    · intro w'
                      go_simp
                      with_reducible rfl
                    rotate_left
                    · simp only [Act.put, List.setIfInBounds_toArray, List.set_cons_zero, List.set_cons_succ, i64_w, i32_w]
                      rfl
                    refine take_ (i := 2) (N := some 62) (v := ?_) (a' := ?_) #[true, true, true, false, false, false, false, false, false, false, false, false, false, false] rfl rfl (take_ofW HT_.out HW_.out (by kernel_rfl)) (fun _ _ _ h => h) (Or.inl ⟨by rfl, ?_⟩) hHeld ?_ ?_
                    rotate_left
                    · rintro w' ⟨s0, s1⟩
                      go_simp
                      with_reducible rfl
                    rotate_left
                    · simp only [Act.put, List.setIfInBounds_toArray, List.set_cons_zero, List.set_cons_succ, i64_w, i32_w]
                      rfl
                    refine one_ (i := 3) (N := some 63) #[true, true, true, true, false, false, false, false, false, false, false, false, false, false] rfl rfl (one_of HT_.out (by kernel_rfl)) (by decide) (fun K hK => ?_)
                    refine goes_ Try.func32 (by kernel_rfl) rfl #[.agg #[.slice A0_2 l0_2.length c0_2, .int .i64 a0_3]] (by rfl) rfl rfl (by (try simp only [List.map_toArray, List.map_cons, List.map_nil]); first | done | rfl | (simp only [List.length_drop, List.length_take]; rfl)) ?_
                    with_reducible refine (assartref05_Right.calls kj33 _ _ l0_2 a0_3 false _ ?side1 ?side2 A95.out).mono ?_
                    (case side1 => repeat (first | exact (Kd.C_below HR0_2.out HB.out) | (with_reducible refine Kd.C_alloc ?_ _) | (with_reducible refine Kd.C_drewN ?_ _) | (with_reducible refine Kd.C_drew ?_)))
                    (case side2 => exact HC0_2.out)
                    rintro e w104 ⟨rfl, hb⟩
                    refine ⟨_, rfl, ?_⟩
                    have n0_ := Aside0.mk (Kd.S_below (by (with_reducible repeat (first | apply Kd.S_alloc | apply Kd.S_drewN | apply Kd.S_drew)); exact HO_180000.out) hb)
                    have n1_ := Aside0.mk (Kd.S_below (by (with_reducible repeat (first | apply Kd.S_alloc | apply Kd.S_drewN | apply Kd.S_drew)); exact HO_186000.out) hb)
                    have n2_ := Aside0.mk (blk_below (g := gb168) (o := .cells #[.slice A0_0 l0_0.length c0_0, .int .i64 a0_1, .slice A0_2 l0_2.length c0_2, .int .i64 a0_3, .int .i64 a0_4, .int .i64 a0_5] 61 (0, 0)) (by (with_reducible repeat (first | refine blk_drewN ?_ _ | refine blk_drew ?_ | refine blk_alloc ?_ _)); exact BK168.out) hb)
                    have n3_ := Aside0.mk (blk_below (g := gb169) (o := .cells #[.slice A0_0 l0_0.length c0_0, .int .i64 a0_1] 24 (0, 0)) (by (with_reducible repeat (first | refine blk_drewN ?_ _ | refine blk_drew ?_ | refine blk_alloc ?_ _)); exact BK169.out) hb)
                    have n4_ := Aside0.mk (blk_below (g := gb170) (o := .cells #[.slice A0_2 l0_2.length c0_2, .int .i64 a0_3] 24 (0, 0)) (by (with_reducible repeat (first | refine blk_drewN ?_ _ | refine blk_drew ?_ | refine blk_alloc ?_ _)); exact BK170.out) hb)
                    have n5_ := Aside0.mk (blk_below (g := gb179) (o := .cells #[.slice Ao37 t174.length co37, .int .i64 t177] 24 (0, 0)) (by (with_reducible repeat (first | refine blk_drewN ?_ _ | refine blk_drew ?_ | refine blk_alloc ?_ _)); exact BK179.out) hb)
                    have n6_ := Aside0.mk (blk_below (g := gb185) (o := .cells #[.slice Ao44 t180.length co44, .int .i64 t183] 24 (0, 0)) (by (with_reducible repeat (first | refine blk_drewN ?_ _ | refine blk_drew ?_ | refine blk_alloc ?_ _)); exact BK185.out) hb)
                    have n7_ := Aside0.mk (below_step (by repeat (first | (with_reducible first | exact HB.out | apply below_alloc | apply pw_below_drewN | apply below_drew1 | refine below_set ?_ GE168.out | refine below_set ?_ GE169.out | refine below_set ?_ GE170.out | refine below_set ?_ GE179.out | refine below_set ?_ GE185.out) | exact HB.out)) hb)
                    clear HO_180000
                    clear HO_186000
                    clear BK168
                    clear BK169
                    clear BK170
                    clear BK179
                    clear BK185
                    clear HB
                    have HO_180000 := n0_
                    have HO_186000 := n1_
                    have BK168 := n2_
                    have BK169 := n3_
                    have BK170 := n4_
                    have BK179 := n5_
                    have BK185 := n6_
                    have HB := n7_
                    clear n0_ n1_ n2_ n3_ n4_ n5_ n6_ n7_
                    (try clear hb)
                    (try clear hb2)
                    (try clear hk)
                    (try clear hi)
                    refine hK.out _ _ ⟨(blk_cell BK170.out 0).trans rfl, (blk_cell BK170.out 1).trans rfl⟩ (fun hHeld => ?_)
                    clear hK K
                    refine norm_ (a' := ?_) ?_ ?_
                    rotate_left
                    · show Act.put _ (some 63) _ = _
                      simp only [Act.put, List.setIfInBounds_toArray, List.set_cons_zero, List.set_cons_succ, i64_w, i32_w]
                      rfl
                    refine pure_ (i := 4) (N := some 64) (v := ?_) (a' := ?_) #[true, true, true, true, true, false, false, false, false, false, false, false, false, false] rfl rfl (any_of HT_.out (by kernel_rfl)) (fun _ _ _ h => h) (Or.inl ⟨by rfl, ?_⟩) ?_ ?_
                    rotate_left
                    · intro w'
                      go_simp
                      with_reducible rfl
                    rotate_left
                    · simp only [Act.put, List.setIfInBounds_toArray, List.set_cons_zero, List.set_cons_succ, i64_w, i32_w]
                      rfl
                    refine pure_ (i := 5) (N := some 65) (v := ?_) (a' := ?_) #[true, true, true, true, true, true, false, false, false, false, false, false, false, false] rfl rfl (any_of HT_.out (by kernel_rfl)) (fun _ _ _ h => h) (Or.inl ⟨by rfl, ?_⟩) ?_ ?_
                    rotate_left
                    · intro w'
                      go_simp
                      with_reducible rfl
                    rotate_left
                    · simp only [Act.put, List.setIfInBounds_toArray, List.set_cons_zero, List.set_cons_succ, i64_w, i32_w]
                      rfl
                    refine pure_ (i := 6) (N := some 66) (v := undef) (a' := ?_) #[true, true, true, true, true, true, true, false, false, false, false, false, false, false] rfl rfl (any_of HT_.out (by kernel_rfl)) (fun _ _ _ h => h) (Or.inr ⟨by rfl, rfl⟩) ?_ ?_
                    rotate_left
                    · simp only [Act.put, List.setIfInBounds_toArray, List.set_cons_zero, List.set_cons_succ, i64_w, i32_w]
                      rfl
                    refine pure_ (i := 7) (N := some 67) (v := undef) (a' := ?_) #[true, true, true, true, true, true, true, true, false, false, false, false, false, false] rfl rfl (any_of HT_.out (by kernel_rfl)) (fun _ _ _ h => h) (Or.inr ⟨by rfl, rfl⟩) ?_ ?_
                    rotate_left
                    · simp only [Act.put, List.setIfInBounds_toArray, List.set_cons_zero, List.set_cons_succ, i64_w, i32_w]
                      rfl
                    refine pure_ (i := 8) (N := some 68) (v := undef) (a' := ?_) #[true, true, true, true, true, true, true, true, true, false, false, false, false, false] rfl rfl (any_of HT_.out (by kernel_rfl)) (fun _ _ _ h => h) (Or.inr ⟨by rfl, rfl⟩) ?_ ?_
                    rotate_left
                    · simp only [Act.put, List.setIfInBounds_toArray, List.set_cons_zero, List.set_cons_succ, i64_w, i32_w]
                      rfl
                    refine pure_ (i := 9) (N := some 69) (v := undef) (a' := ?_) #[true, true, true, true, true, true, true, true, true, true, false, false, false, false] rfl rfl (any_of HT_.out (by kernel_rfl)) (fun _ _ _ h => h) (Or.inr ⟨by rfl, rfl⟩) ?_ ?_
                    rotate_left
                    · simp only [Act.put, List.setIfInBounds_toArray, List.set_cons_zero, List.set_cons_succ, i64_w, i32_w]
                      rfl
                    refine pure_ (i := 10) (N := some 70) (v := undef) (a' := ?_) #[true, true, true, true, true, true, true, true, true, true, true, false, false, false] rfl rfl (any_of HT_.out (by kernel_rfl)) (fun _ _ _ h => h) (Or.inr ⟨by rfl, rfl⟩) ?_ ?_
                    rotate_left
                    · simp only [Act.put, List.setIfInBounds_toArray, List.set_cons_zero, List.set_cons_succ, i64_w, i32_w]
                      rfl
                    refine pure_ (i := 11) (N := some 71) (v := undef) (a' := ?_) #[true, true, true, true, true, true, true, true, true, true, true, true, false, false] rfl rfl (any_of HT_.out (by kernel_rfl)) (fun _ _ _ h => h) (Or.inr ⟨by rfl, rfl⟩) ?_ ?_
                    rotate_left
                    · simp only [Act.put, List.setIfInBounds_toArray, List.set_cons_zero, List.set_cons_succ, i64_w, i32_w]
                      rfl
                    refine pure_ (i := 12) (N := some 72) (v := undef) (a' := ?_) #[true, true, true, true, true, true, true, true, true, true, true, true, true, false] rfl rfl (any_of HT_.out (by kernel_rfl)) (fun _ _ _ h => h) (Or.inr ⟨by rfl, rfl⟩) ?_ ?_
                    rotate_left
                    · simp only [Act.put, List.setIfInBounds_toArray, List.set_cons_zero, List.set_cons_succ, i64_w, i32_w]
                      rfl
                    refine pure_ (i := 13) (N := some 73) (v := ?_) (a' := ?_) #[true, true, true, true, true, true, true, true, true, true, true, true, true, true] rfl rfl (any_of HT_.out (by kernel_rfl)) (fun _ _ _ h => h) (Or.inl ⟨by rfl, ?_⟩) ?_ ?_
                    rotate_left
                    · intro w'
                      go_simp
                      with_reducible rfl
                    rotate_left
                    · simp only [Act.put, List.setIfInBounds_toArray, List.set_cons_zero, List.set_cons_succ, i64_w, i32_w]
                      rfl
                    refine done_ (done_of HT_.out (by kernel_rfl)) ?_
                    try go_wp2
                    go_meet
                    case rel => exact ⟨_, (false), (by first | rfl | (simp; done) | (simp [*]; done)), H', ⟨by have := HJ2.out; have := HJ33.out; first | omega | exact Nat.le_refl _⟩, ⟨by (with_reducible repeat (first | apply Kd.S_alloc | apply Kd.S_drewN | apply Kd.S_drew)); exact HO_180000.out⟩, ⟨by (with_reducible repeat (first | apply Kd.S_alloc | apply Kd.S_drewN | apply Kd.S_drew)); exact HO_186000.out⟩, ⟨by (with_reducible repeat (first | refine blk_drewN ?_ _ | refine blk_drew ?_ | refine blk_alloc ?_ _)); exact BK168.out⟩, ⟨by (with_reducible repeat (first | refine blk_drewN ?_ _ | refine blk_drew ?_ | refine blk_alloc ?_ _)); exact BK169.out⟩, ⟨by (with_reducible repeat (first | refine blk_drewN ?_ _ | refine blk_drew ?_ | refine blk_alloc ?_ _)); exact BK170.out⟩, ⟨by (with_reducible repeat (first | refine blk_drewN ?_ _ | refine blk_drew ?_ | refine blk_alloc ?_ _)); exact BK179.out⟩, ⟨by (with_reducible repeat (first | refine blk_drewN ?_ _ | refine blk_drew ?_ | refine blk_alloc ?_ _)); exact BK185.out⟩, ⟨by repeat (first | (with_reducible first | exact HB.out | apply below_alloc | apply pw_below_drewN | apply below_drew1 | refine below_set ?_ GE168.out | refine below_set ?_ GE169.out | refine below_set ?_ GE170.out | refine below_set ?_ GE179.out | refine below_set ?_ GE185.out) | exact HB.out)⟩⟩
                · replace c94 := Bool.eq_false_iff.mpr c94
                  subst c94
                  have H1 : (assartlaw05_HeapTells.j2 kj33 a0_4 t171 false false l0_0 a0_1) = some r := by rw [if_neg (show ¬ (false = true) by decide)] at H; exact H
                  clear H
                  have H := H1
                  clear H1
                  have H' := Aside0.mk H
                  clear H
                  try go_wp2
                  have n0_ := Aside0.mk (Kd.S_drew HO_180000.out)
                  have n1_ := Aside0.mk (Kd.S_drew HO_186000.out)
                  have n2_ := Aside0.mk (blk_drew BK168.out)
                  have n3_ := Aside0.mk (blk_drew BK169.out)
                  have n4_ := Aside0.mk (blk_drew BK170.out)
                  have n5_ := Aside0.mk (blk_drew BK179.out)
                  have n6_ := Aside0.mk (blk_drew BK185.out)
                  have n7_ := Aside0.mk (below_drew1 HB.out)
                  clear HO_180000
                  clear HO_186000
                  clear BK168
                  clear BK169
                  clear BK170
                  clear BK179
                  clear BK185
                  clear HB
                  have HO_180000 := n0_
                  have HO_186000 := n1_
                  have BK168 := n2_
                  have BK169 := n3_
                  have BK170 := n4_
                  have BK179 := n5_
                  have BK185 := n6_
                  have HB := n7_
                  clear n0_ n1_ n2_ n3_ n4_ n5_ n6_ n7_
                  refine start_ (n := 14) (S := fun w' => True) (ds := []) #[false, false, false, false, false, false, false, false, false, false, false, false, false, false] (by kernel_rfl) rfl rfl trivial (fun hHeld => ?_); refine with_tabW assartlaw05_HeapTells.tab13 assartlaw05_HeapTells.bits13 (fun HT_ HW_ => ?_)
                  generalize wc.drew = w105 at HO_180000 HO_186000 BK168 BK169 BK170 BK179 BK185 HB hHeld ⊢
                  refine pure_ (i := 0) (N := some 60) (v := ?_) (a' := ?_) #[true, false, false, false, false, false, false, false, false, false, false, false, false, false] rfl rfl (any_of HT_.out (by kernel_rfl)) (fun _ _ _ h => h) (Or.inl ⟨by rfl, ?_⟩) ?_ ?_
                  rotate_left
                  · intro w'
                    go_simp
                    with_reducible rfl
                  rotate_left
                  · simp only [Act.put, List.setIfInBounds_toArray, List.set_cons_zero, List.set_cons_succ, i64_w, i32_w]
                    rfl
                  refine pure_ (i := 1) (N := some 61) (v := ?_) (a' := ?_) #[true, true, false, false, false, false, false, false, false, false, false, false, false, false] rfl rfl (any_of HT_.out (by kernel_rfl)) (fun _ _ _ h => h) (Or.inl ⟨by rfl, ?_⟩) ?_ ?_
                  rotate_left
                  · intro w'
                    go_simp
                    with_reducible rfl
                  rotate_left
                  · simp only [Act.put, List.setIfInBounds_toArray, List.set_cons_zero, List.set_cons_succ, i64_w, i32_w]
                    rfl
                  refine pure_ (i := 2) (N := some 62) (v := undef) (a' := ?_) #[true, true, true, false, false, false, false, false, false, false, false, false, false, false] rfl rfl (any_of HT_.out (by kernel_rfl)) (fun _ _ _ h => h) (Or.inr ⟨by rfl, rfl⟩) ?_ ?_
                  rotate_left
                  · simp only [Act.put, List.setIfInBounds_toArray, List.set_cons_zero, List.set_cons_succ, i64_w, i32_w]
                    rfl
                  refine pure_ (i := 3) (N := some 63) (v := undef) (a' := ?_) #[true, true, true, true, false, false, false, false, false, false, false, false, false, false] rfl rfl (any_of HT_.out (by kernel_rfl)) (fun _ _ _ h => h) (Or.inr ⟨by rfl, rfl⟩) ?_ ?_
                  rotate_left
                  · simp only [Act.put, List.setIfInBounds_toArray, List.set_cons_zero, List.set_cons_succ, i64_w, i32_w]
                    rfl
                  refine pure_ (i := 4) (N := some 64) (v := ?_) (a' := ?_) #[true, true, true, true, true, false, false, false, false, false, false, false, false, false] rfl rfl (any_of HT_.out (by kernel_rfl)) (fun _ _ _ h => h) (Or.inl ⟨by rfl, ?_⟩) ?_ ?_
                  rotate_left
                  · intro w'
                    go_simp
                    with_reducible rfl
                  rotate_left
                  · simp only [Act.put, List.setIfInBounds_toArray, List.set_cons_zero, List.set_cons_succ, i64_w, i32_w]
                    rfl
                  refine pure_ (i := 5) (N := some 65) (v := ?_) (a' := ?_) #[true, true, true, true, true, true, false, false, false, false, false, false, false, false] rfl rfl (any_of HT_.out (by kernel_rfl)) (fun _ _ _ h => h) (Or.inl ⟨by rfl, ?_⟩) ?_ ?_
                  rotate_left
                  · intro w'
                    go_simp
                    with_reducible rfl
                  rotate_left
                  · simp only [Act.put, List.setIfInBounds_toArray, List.set_cons_zero, List.set_cons_succ, i64_w, i32_w]
                    rfl
                  refine pure_ (i := 6) (N := some 66) (v := undef) (a' := ?_) #[true, true, true, true, true, true, true, false, false, false, false, false, false, false] rfl rfl (any_of HT_.out (by kernel_rfl)) (fun _ _ _ h => h) (Or.inr ⟨by rfl, rfl⟩) ?_ ?_
                  rotate_left
                  · simp only [Act.put, List.setIfInBounds_toArray, List.set_cons_zero, List.set_cons_succ, i64_w, i32_w]
                    rfl
                  refine pure_ (i := 7) (N := some 67) (v := undef) (a' := ?_) #[true, true, true, true, true, true, true, true, false, false, false, false, false, false] rfl rfl (any_of HT_.out (by kernel_rfl)) (fun _ _ _ h => h) (Or.inr ⟨by rfl, rfl⟩) ?_ ?_
                  rotate_left
                  · simp only [Act.put, List.setIfInBounds_toArray, List.set_cons_zero, List.set_cons_succ, i64_w, i32_w]
                    rfl
                  refine pure_ (i := 8) (N := some 68) (v := undef) (a' := ?_) #[true, true, true, true, true, true, true, true, true, false, false, false, false, false] rfl rfl (any_of HT_.out (by kernel_rfl)) (fun _ _ _ h => h) (Or.inr ⟨by rfl, rfl⟩) ?_ ?_
                  rotate_left
                  · simp only [Act.put, List.setIfInBounds_toArray, List.set_cons_zero, List.set_cons_succ, i64_w, i32_w]
                    rfl
                  refine pure_ (i := 9) (N := some 69) (v := undef) (a' := ?_) #[true, true, true, true, true, true, true, true, true, true, false, false, false, false] rfl rfl (any_of HT_.out (by kernel_rfl)) (fun _ _ _ h => h) (Or.inr ⟨by rfl, rfl⟩) ?_ ?_
                  rotate_left
                  · simp only [Act.put, List.setIfInBounds_toArray, List.set_cons_zero, List.set_cons_succ, i64_w, i32_w]
                    rfl
                  refine pure_ (i := 10) (N := some 70) (v := undef) (a' := ?_) #[true, true, true, true, true, true, true, true, true, true, true, false, false, false] rfl rfl (any_of HT_.out (by kernel_rfl)) (fun _ _ _ h => h) (Or.inr ⟨by rfl, rfl⟩) ?_ ?_
                  rotate_left
                  · simp only [Act.put, List.setIfInBounds_toArray, List.set_cons_zero, List.set_cons_succ, i64_w, i32_w]
                    rfl
                  refine pure_ (i := 11) (N := some 71) (v := undef) (a' := ?_) #[true, true, true, true, true, true, true, true, true, true, true, true, false, false] rfl rfl (any_of HT_.out (by kernel_rfl)) (fun _ _ _ h => h) (Or.inr ⟨by rfl, rfl⟩) ?_ ?_
                  rotate_left
                  · simp only [Act.put, List.setIfInBounds_toArray, List.set_cons_zero, List.set_cons_succ, i64_w, i32_w]
                    rfl
                  refine pure_ (i := 12) (N := some 72) (v := undef) (a' := ?_) #[true, true, true, true, true, true, true, true, true, true, true, true, true, false] rfl rfl (any_of HT_.out (by kernel_rfl)) (fun _ _ _ h => h) (Or.inr ⟨by rfl, rfl⟩) ?_ ?_
                  rotate_left
                  · simp only [Act.put, List.setIfInBounds_toArray, List.set_cons_zero, List.set_cons_succ, i64_w, i32_w]
                    rfl
                  refine pure_ (i := 13) (N := some 73) (v := ?_) (a' := ?_) #[true, true, true, true, true, true, true, true, true, true, true, true, true, true] rfl rfl (any_of HT_.out (by kernel_rfl)) (fun _ _ _ h => h) (Or.inl ⟨by rfl, ?_⟩) ?_ ?_
                  rotate_left
                  · intro w'
                    go_simp
                    with_reducible rfl
                  rotate_left
                  · simp only [Act.put, List.setIfInBounds_toArray, List.set_cons_zero, List.set_cons_succ, i64_w, i32_w]
                    rfl
                  refine done_ (done_of HT_.out (by kernel_rfl)) ?_
                  try go_wp2
                  go_meet
                  case rel => exact ⟨_, (false), (by first | rfl | (simp; done) | (simp [*]; done)), H', ⟨by have := HJ2.out; have := HJ33.out; first | omega | exact Nat.le_refl _⟩, ⟨by (with_reducible repeat (first | apply Kd.S_alloc | apply Kd.S_drewN | apply Kd.S_drew)); exact HO_180000.out⟩, ⟨by (with_reducible repeat (first | apply Kd.S_alloc | apply Kd.S_drewN | apply Kd.S_drew)); exact HO_186000.out⟩, ⟨by (with_reducible repeat (first | refine blk_drewN ?_ _ | refine blk_drew ?_ | refine blk_alloc ?_ _)); exact BK168.out⟩, ⟨by (with_reducible repeat (first | refine blk_drewN ?_ _ | refine blk_drew ?_ | refine blk_alloc ?_ _)); exact BK169.out⟩, ⟨by (with_reducible repeat (first | refine blk_drewN ?_ _ | refine blk_drew ?_ | refine blk_alloc ?_ _)); exact BK170.out⟩, ⟨by (with_reducible repeat (first | refine blk_drewN ?_ _ | refine blk_drew ?_ | refine blk_alloc ?_ _)); exact BK179.out⟩, ⟨by (with_reducible repeat (first | refine blk_drewN ?_ _ | refine blk_drew ?_ | refine blk_alloc ?_ _)); exact BK185.out⟩, ⟨by repeat (first | (with_reducible first | exact HB.out | apply below_alloc | apply pw_below_drewN | apply below_drew1 | refine below_set ?_ GE168.out | refine below_set ?_ GE169.out | refine below_set ?_ GE170.out | refine below_set ?_ GE179.out | refine below_set ?_ GE185.out) | exact HB.out)⟩⟩
              case rest =>
                clear HC93
                try clear p2
                try clear c3
                try clear c9
                try clear c32
                try clear c37
                try clear c39
                try clear c92
                try clear c94
                try clear c96
                try clear hfz8_0
                try clear hfz8_1
                try clear hfz90_0
                try clear hfz90_1
                try clear hfz9_0
                try clear hfz9_1
                try clear hfz9_2
                try clear hfz9_3
                try clear hfz9_4
                try clear hfz9_5
                try clear p2
                obtain ⟨kq, x73_92, rfl, HA, HJ92, HO_180000, HO_186000, BK168, BK169, BK170, BK179, BK185, HB⟩ := hcut
                cases kq with
                | zero => exact absurd HA.out (by simp [assartlaw05_HeapTells.j2])
                | succ kj92 =>
                  have H := HA.out
                  clear HA
                  simp only [assartlaw05_HeapTells.j2] at H
                  by_cases c106 : x73_92 = true
                  · subst c106
                    have H1 : (some false) = some r := by rw [if_pos rfl] at H; exact H
                    clear H
                    have H := H1
                    clear H1
                    obtain rfl := Option.some.inj H
                    cases hr
                  · replace c106 := Bool.eq_false_iff.mpr c106
                    subst c106
                    have H1 : (if t171 = true then (if t186 = true then ((heap_Free.f kj92 l0_0 a0_1).bind fun t192 => ((assartref05_Free.f kj92 l0_0 a0_1).bind fun t193 => (if t192 = t193 then ((heap_Fits.f kj92 l0_0 a0_1 a0_4 false).bind fun t194 => ((assartref05_Fits.f kj92 l0_0 a0_1 a0_4 false).bind fun t195 => (if (t194 == t195) = true then ((heap_Fits.f kj92 l0_0 a0_1 a0_4 true).bind fun t196 => ((assartref05_Fits.f kj92 l0_0 a0_1 a0_4 true).bind fun t197 => (some (t196 == t197)))) else (some false)))) else (some false)))) else (some true)) else (some false)) = some r := by rw [if_neg (show ¬ (false = true) by decide)] at H; exact H
                    clear H
                    have H := H1
                    clear H1
                    by_cases c107 : t171 = true
                    · subst c107
                      have H1 : (if t186 = true then ((heap_Free.f kj92 l0_0 a0_1).bind fun t192 => ((assartref05_Free.f kj92 l0_0 a0_1).bind fun t193 => (if t192 = t193 then ((heap_Fits.f kj92 l0_0 a0_1 a0_4 false).bind fun t194 => ((assartref05_Fits.f kj92 l0_0 a0_1 a0_4 false).bind fun t195 => (if (t194 == t195) = true then ((heap_Fits.f kj92 l0_0 a0_1 a0_4 true).bind fun t196 => ((assartref05_Fits.f kj92 l0_0 a0_1 a0_4 true).bind fun t197 => (some (t196 == t197)))) else (some false)))) else (some false)))) else (some true)) = some r := by rw [if_pos rfl] at H; exact H
                      clear H
                      have H := H1
                      clear H1
                      by_cases c108 : t186 = true
                      · subst c108
                        have H1 : ((heap_Free.f kj92 l0_0 a0_1).bind fun t192 => ((assartref05_Free.f kj92 l0_0 a0_1).bind fun t193 => (if t192 = t193 then ((heap_Fits.f kj92 l0_0 a0_1 a0_4 false).bind fun t194 => ((assartref05_Fits.f kj92 l0_0 a0_1 a0_4 false).bind fun t195 => (if (t194 == t195) = true then ((heap_Fits.f kj92 l0_0 a0_1 a0_4 true).bind fun t196 => ((assartref05_Fits.f kj92 l0_0 a0_1 a0_4 true).bind fun t197 => (some (t196 == t197)))) else (some false)))) else (some false)))) = some r := by rw [if_pos rfl] at H; exact H
                        clear H
                        have H := H1
                        clear H1
                        replace H := Option.bind_eq_some_iff.mp H
                        obtain ⟨t192, A1090, H⟩ := H
                        replace H : ((assartref05_Free.f kj92 l0_0 a0_1).bind fun t193 => (if t192 = t193 then ((heap_Fits.f kj92 l0_0 a0_1 a0_4 false).bind fun t194 => ((assartref05_Fits.f kj92 l0_0 a0_1 a0_4 false).bind fun t195 => (if (t194 == t195) = true then ((heap_Fits.f kj92 l0_0 a0_1 a0_4 true).bind fun t196 => ((assartref05_Fits.f kj92 l0_0 a0_1 a0_4 true).bind fun t197 => (some (t196 == t197)))) else (some false)))) else (some false))) = some r := H
                        have A109 := Aside0.mk A1090
                        clear A1090
                        replace H := Option.bind_eq_some_iff.mp H
                        obtain ⟨t193, A1100, H⟩ := H
                        replace H : (if t192 = t193 then ((heap_Fits.f kj92 l0_0 a0_1 a0_4 false).bind fun t194 => ((assartref05_Fits.f kj92 l0_0 a0_1 a0_4 false).bind fun t195 => (if (t194 == t195) = true then ((heap_Fits.f kj92 l0_0 a0_1 a0_4 true).bind fun t196 => ((assartref05_Fits.f kj92 l0_0 a0_1 a0_4 true).bind fun t197 => (some (t196 == t197)))) else (some false)))) else (some false)) = some r := H
                        have A110 := Aside0.mk A1100
                        clear A1100
                        by_cases c111 : t192 = t193
                        · rw [if_pos c111] at H
                          have c111b0 : (t192 == t193) = true := beq_iff_eq.mpr c111
                          have c111b1 : (t192 != t193) = false := bne_eq_false_iff_eq.mpr c111
                          clear c111
                          replace H := Option.bind_eq_some_iff.mp H
                          obtain ⟨t194, A1120, H⟩ := H
                          replace H : ((assartref05_Fits.f kj92 l0_0 a0_1 a0_4 false).bind fun t195 => (if (t194 == t195) = true then ((heap_Fits.f kj92 l0_0 a0_1 a0_4 true).bind fun t196 => ((assartref05_Fits.f kj92 l0_0 a0_1 a0_4 true).bind fun t197 => (some (t196 == t197)))) else (some false))) = some r := H
                          have A112 := Aside0.mk A1120
                          clear A1120
                          replace H := Option.bind_eq_some_iff.mp H
                          obtain ⟨t195, A1130, H⟩ := H
                          replace H : (if (t194 == t195) = true then ((heap_Fits.f kj92 l0_0 a0_1 a0_4 true).bind fun t196 => ((assartref05_Fits.f kj92 l0_0 a0_1 a0_4 true).bind fun t197 => (some (t196 == t197)))) else (some false)) = some r := H
                          have A113 := Aside0.mk A1130
                          clear A1130
                          by_cases c114 : (t194 == t195) = true
                          · rw [if_pos c114] at H
                            have c114b0 : (t194 == t195) = true := c114
                            (try (have c114b1 : decide (t194 = t195) = true := by simpa using c114))
                            (try (have c114b2 : (t194 == t195) = true := by simpa using c114))
                            clear c114
                            replace H := Option.bind_eq_some_iff.mp H
                            obtain ⟨t196, A1150, H⟩ := H
                            replace H : ((assartref05_Fits.f kj92 l0_0 a0_1 a0_4 true).bind fun t197 => (some (t196 == t197))) = some r := H
                            have A115 := Aside0.mk A1150
                            clear A1150
                            replace H := Option.bind_eq_some_iff.mp H
                            obtain ⟨t197, A1160, H⟩ := H
                            replace H : (some (t196 == t197)) = some r := H
                            have A116 := Aside0.mk A1160
                            clear A1160
                            obtain rfl := Option.some.inj H
                            try go_wp2
                            have n0_ := Aside0.mk (Kd.S_drew HO_180000.out)
                            have n1_ := Aside0.mk (Kd.S_drew HO_186000.out)
                            have n2_ := Aside0.mk (blk_drew BK168.out)
                            have n3_ := Aside0.mk (blk_drew BK169.out)
                            have n4_ := Aside0.mk (blk_drew BK170.out)
                            have n5_ := Aside0.mk (blk_drew BK179.out)
                            have n6_ := Aside0.mk (blk_drew BK185.out)
                            have n7_ := Aside0.mk (below_drew1 HB.out)
                            clear HO_180000
                            clear HO_186000
                            clear BK168
                            clear BK169
                            clear BK170
                            clear BK179
                            clear BK185
                            clear HB
                            have HO_180000 := n0_
                            have HO_186000 := n1_
                            have BK168 := n2_
                            have BK169 := n3_
                            have BK170 := n4_
                            have BK179 := n5_
                            have BK185 := n6_
                            have HB := n7_
                            clear n0_ n1_ n2_ n3_ n4_ n5_ n6_ n7_
                            refine start_ (n := 31) (S := fun w' => w'.cell? ⟨gb169, 0, none⟩ = some (.slice A0_0 l0_0.length c0_0) ∧ w'.cell? ⟨gb169, 1, none⟩ = some (.int .i64 a0_1)) (ds := []) #[false, false, false, false, false, false, false, false, false, false, false, false, false, false, false, false, false, false, false, false, false, false, false, false, false, false, false, false, false, false, false] (by kernel_rfl) rfl rfl ⟨(blk_cell BK169.out 0).trans rfl, (blk_cell BK169.out 1).trans rfl⟩ (fun hHeld => ?_); refine with_tabW assartlaw05_HeapTells.tab15 assartlaw05_HeapTells.bits15 (fun HT_ HW_ => ?_)
                            generalize wc.drew = w117 at HO_180000 HO_186000 BK168 BK169 BK170 BK179 BK185 HB hHeld ⊢
                            refine pure_ (i := 0) (N := some 74) (v := ?_) (a' := ?_) #[true, false, false, false, false, false, false, false, false, false, false, false, false, false, false, false, false, false, false, false, false, false, false, false, false, false, false, false, false, false, false] rfl rfl (any_of HT_.out (by kernel_rfl)) (fun _ _ _ h => h) (Or.inl ⟨by rfl, ?_⟩) ?_ ?_
                            rotate_left
                            · intro w'
                              go_simp
                              with_reducible rfl
                            rotate_left
                            · simp only [Act.put, List.setIfInBounds_toArray, List.set_cons_zero, List.set_cons_succ, i64_w, i32_w]
                              rfl
                            refine pure_ (i := 1) (N := some 75) (v := ?_) (a' := ?_) #[true, true, false, false, false, false, false, false, false, false, false, false, false, false, false, false, false, false, false, false, false, false, false, false, false, false, false, false, false, false, false] rfl rfl (any_of HT_.out (by kernel_rfl)) (fun _ _ _ h => h) (Or.inl ⟨by rfl, ?_⟩) ?_ ?_
                            rotate_left
                            · intro w'
                              go_simp
                              with_reducible rfl
                            rotate_left
                            · simp only [Act.put, List.setIfInBounds_toArray, List.set_cons_zero, List.set_cons_succ, i64_w, i32_w]
                              rfl
                            refine pure_ (i := 2) (N := some 76) (v := ?_) (a' := ?_) #[true, true, true, false, false, false, false, false, false, false, false, false, false, false, false, false, false, false, false, false, false, false, false, false, false, false, false, false, false, false, false] rfl rfl (any_of HT_.out (by kernel_rfl)) (fun _ _ _ h => h) (Or.inl ⟨by rfl, ?_⟩) ?_ ?_
                            rotate_left
                            · intro w'
                              go_simp
                              with_reducible rfl
                            rotate_left
                            · simp only [Act.put, List.setIfInBounds_toArray, List.set_cons_zero, List.set_cons_succ, i64_w, i32_w]
                              rfl
                            refine pure_ (i := 3) (N := some 77) (v := ?_) (a' := ?_) #[true, true, true, true, false, false, false, false, false, false, false, false, false, false, false, false, false, false, false, false, false, false, false, false, false, false, false, false, false, false, false] rfl rfl (any_of HT_.out (by kernel_rfl)) (fun _ _ _ h => h) (Or.inl ⟨by rfl, ?_⟩) ?_ ?_
                            rotate_left
                            · intro w'
                              go_simp
                              with_reducible rfl
                            rotate_left
                            · simp only [Act.put, List.setIfInBounds_toArray, List.set_cons_zero, List.set_cons_succ, i64_w, i32_w]
                              rfl
                            refine pure_ (i := 4) (N := some 78) (v := ?_) (a' := ?_) #[true, true, true, true, true, false, false, false, false, false, false, false, false, false, false, false, false, false, false, false, false, false, false, false, false, false, false, false, false, false, false] rfl rfl (any_of HT_.out (by kernel_rfl)) (fun _ _ _ h => h) (Or.inl ⟨by rfl, ?_⟩) ?_ ?_
                            rotate_left
                            · intro w'
                              go_simp
                              with_reducible rfl
                            rotate_left
                            · simp only [Act.put, List.setIfInBounds_toArray, List.set_cons_zero, List.set_cons_succ, i64_w, i32_w]
                              rfl
                            refine take_ (i := 5) (N := some 79) (v := ?_) (a' := ?_) #[true, true, true, true, true, true, false, false, false, false, false, false, false, false, false, false, false, false, false, false, false, false, false, false, false, false, false, false, false, false, false] rfl rfl (take_ofW HT_.out HW_.out (by kernel_rfl)) (fun _ _ _ h => h) (Or.inl ⟨by rfl, ?_⟩) hHeld ?_ ?_
                            rotate_left
                            · rintro w' ⟨s0, s1⟩
                              go_simp
                              with_reducible rfl
                            rotate_left
                            · simp only [Act.put, List.setIfInBounds_toArray, List.set_cons_zero, List.set_cons_succ, i64_w, i32_w]
                              rfl
                            refine take_ (i := 7) (N := some 81) (v := ?_) (a' := ?_) #[true, true, true, true, true, true, false, true, false, false, false, false, false, false, false, false, false, false, false, false, false, false, false, false, false, false, false, false, false, false, false] rfl rfl (take_ofW HT_.out HW_.out (by kernel_rfl)) (fun _ _ _ h => h) (Or.inl ⟨by rfl, ?_⟩) hHeld ?_ ?_
                            rotate_left
                            · rintro w' ⟨s0, s1⟩
                              go_simp
                              with_reducible rfl
                            rotate_left
                            · simp only [Act.put, List.setIfInBounds_toArray, List.set_cons_zero, List.set_cons_succ, i64_w, i32_w]
                              rfl
                            refine one_ (i := 6) (N := some 80) #[true, true, true, true, true, true, true, true, false, false, false, false, false, false, false, false, false, false, false, false, false, false, false, false, false, false, false, false, false, false, false] rfl rfl (one_of HT_.out (by kernel_rfl)) (by decide) (fun K hK => ?_)
                            refine goes_ Try.func40 (by kernel_rfl) rfl #[.agg #[.slice A0_0 l0_0.length c0_0, .int .i64 a0_1]] (by rfl) rfl rfl (by (try simp only [List.map_toArray, List.map_cons, List.map_nil]); first | done | rfl | (simp only [List.length_drop, List.length_take]; rfl)) ?_
                            with_reducible refine (heap_Free.calls kj92 _ _ l0_0 a0_1 t192 _ ?side1 ?side2 A109.out).mono ?_
                            (case side1 => repeat (first | exact (Kd.C_below HR0_0.out HB.out) | (with_reducible refine Kd.C_alloc ?_ _) | (with_reducible refine Kd.C_drewN ?_ _) | (with_reducible refine Kd.C_drew ?_)))
                            (case side2 => exact HC0_0.out)
                            rintro e w118 ⟨rfl, hb⟩
                            refine ⟨_, rfl, ?_⟩
                            have n0_ := Aside0.mk (Kd.S_below (by (with_reducible repeat (first | apply Kd.S_alloc | apply Kd.S_drewN | apply Kd.S_drew)); exact HO_180000.out) hb)
                            have n1_ := Aside0.mk (Kd.S_below (by (with_reducible repeat (first | apply Kd.S_alloc | apply Kd.S_drewN | apply Kd.S_drew)); exact HO_186000.out) hb)
                            have n2_ := Aside0.mk (blk_below (g := gb168) (o := .cells #[.slice A0_0 l0_0.length c0_0, .int .i64 a0_1, .slice A0_2 l0_2.length c0_2, .int .i64 a0_3, .int .i64 a0_4, .int .i64 a0_5] 61 (0, 0)) (by (with_reducible repeat (first | refine blk_drewN ?_ _ | refine blk_drew ?_ | refine blk_alloc ?_ _)); exact BK168.out) hb)
                            have n3_ := Aside0.mk (blk_below (g := gb169) (o := .cells #[.slice A0_0 l0_0.length c0_0, .int .i64 a0_1] 24 (0, 0)) (by (with_reducible repeat (first | refine blk_drewN ?_ _ | refine blk_drew ?_ | refine blk_alloc ?_ _)); exact BK169.out) hb)
                            have n4_ := Aside0.mk (blk_below (g := gb170) (o := .cells #[.slice A0_2 l0_2.length c0_2, .int .i64 a0_3] 24 (0, 0)) (by (with_reducible repeat (first | refine blk_drewN ?_ _ | refine blk_drew ?_ | refine blk_alloc ?_ _)); exact BK170.out) hb)
                            have n5_ := Aside0.mk (blk_below (g := gb179) (o := .cells #[.slice Ao37 t174.length co37, .int .i64 t177] 24 (0, 0)) (by (with_reducible repeat (first | refine blk_drewN ?_ _ | refine blk_drew ?_ | refine blk_alloc ?_ _)); exact BK179.out) hb)
                            have n6_ := Aside0.mk (blk_below (g := gb185) (o := .cells #[.slice Ao44 t180.length co44, .int .i64 t183] 24 (0, 0)) (by (with_reducible repeat (first | refine blk_drewN ?_ _ | refine blk_drew ?_ | refine blk_alloc ?_ _)); exact BK185.out) hb)
                            have n7_ := Aside0.mk (below_step (by repeat (first | (with_reducible first | exact HB.out | apply below_alloc | apply pw_below_drewN | apply below_drew1 | refine below_set ?_ GE168.out | refine below_set ?_ GE169.out | refine below_set ?_ GE170.out | refine below_set ?_ GE179.out | refine below_set ?_ GE185.out) | exact HB.out)) hb)
                            clear HO_180000
                            clear HO_186000
                            clear BK168
                            clear BK169
                            clear BK170
                            clear BK179
                            clear BK185
                            clear HB
                            have HO_180000 := n0_
                            have HO_186000 := n1_
                            have BK168 := n2_
                            have BK169 := n3_
                            have BK170 := n4_
                            have BK179 := n5_
                            have BK185 := n6_
                            have HB := n7_
                            clear n0_ n1_ n2_ n3_ n4_ n5_ n6_ n7_
                            (try clear hb)
                            (try clear hb2)
                            (try clear hk)
                            (try clear hi)
                            refine hK.out _ _ ⟨(blk_cell BK169.out 0).trans rfl, (blk_cell BK169.out 1).trans rfl⟩ (fun hHeld => ?_)
                            clear hK K
                            refine norm_ (a' := ?_) ?_ ?_
                            rotate_left
                            · show Act.put _ (some 80) _ = _
                              simp only [Act.put, List.setIfInBounds_toArray, List.set_cons_zero, List.set_cons_succ, i64_w, i32_w]
                              rfl
                            refine one_ (i := 8) (N := some 82) #[true, true, true, true, true, true, true, true, true, false, false, false, false, false, false, false, false, false, false, false, false, false, false, false, false, false, false, false, false, false, false] rfl rfl (one_of HT_.out (by kernel_rfl)) (by decide) (fun K hK => ?_)
                            refine goes_ Try.func41 (by kernel_rfl) rfl #[.agg #[.slice A0_0 l0_0.length c0_0, .int .i64 a0_1]] (by rfl) rfl rfl (by (try simp only [List.map_toArray, List.map_cons, List.map_nil]); first | done | rfl | (simp only [List.length_drop, List.length_take]; rfl)) ?_
                            with_reducible refine (assartref05_Free.calls kj92 _ _ l0_0 a0_1 t193 _ ?side1 ?side2 A110.out).mono ?_
                            (case side1 => repeat (first | exact (Kd.C_below HR0_0.out HB.out) | (with_reducible refine Kd.C_alloc ?_ _) | (with_reducible refine Kd.C_drewN ?_ _) | (with_reducible refine Kd.C_drew ?_)))
                            (case side2 => exact HC0_0.out)
                            rintro e w119 ⟨rfl, hb⟩
                            refine ⟨_, rfl, ?_⟩
                            have n0_ := Aside0.mk (Kd.S_below (by (with_reducible repeat (first | apply Kd.S_alloc | apply Kd.S_drewN | apply Kd.S_drew)); exact HO_180000.out) hb)
                            have n1_ := Aside0.mk (Kd.S_below (by (with_reducible repeat (first | apply Kd.S_alloc | apply Kd.S_drewN | apply Kd.S_drew)); exact HO_186000.out) hb)
                            have n2_ := Aside0.mk (blk_below (g := gb168) (o := .cells #[.slice A0_0 l0_0.length c0_0, .int .i64 a0_1, .slice A0_2 l0_2.length c0_2, .int .i64 a0_3, .int .i64 a0_4, .int .i64 a0_5] 61 (0, 0)) (by (with_reducible repeat (first | refine blk_drewN ?_ _ | refine blk_drew ?_ | refine blk_alloc ?_ _)); exact BK168.out) hb)
                            have n3_ := Aside0.mk (blk_below (g := gb169) (o := .cells #[.slice A0_0 l0_0.length c0_0, .int .i64 a0_1] 24 (0, 0)) (by (with_reducible repeat (first | refine blk_drewN ?_ _ | refine blk_drew ?_ | refine blk_alloc ?_ _)); exact BK169.out) hb)
                            have n4_ := Aside0.mk (blk_below (g := gb170) (o := .cells #[.slice A0_2 l0_2.length c0_2, .int .i64 a0_3] 24 (0, 0)) (by (with_reducible repeat (first | refine blk_drewN ?_ _ | refine blk_drew ?_ | refine blk_alloc ?_ _)); exact BK170.out) hb)
                            have n5_ := Aside0.mk (blk_below (g := gb179) (o := .cells #[.slice Ao37 t174.length co37, .int .i64 t177] 24 (0, 0)) (by (with_reducible repeat (first | refine blk_drewN ?_ _ | refine blk_drew ?_ | refine blk_alloc ?_ _)); exact BK179.out) hb)
                            have n6_ := Aside0.mk (blk_below (g := gb185) (o := .cells #[.slice Ao44 t180.length co44, .int .i64 t183] 24 (0, 0)) (by (with_reducible repeat (first | refine blk_drewN ?_ _ | refine blk_drew ?_ | refine blk_alloc ?_ _)); exact BK185.out) hb)
                            have n7_ := Aside0.mk (below_step (by repeat (first | (with_reducible first | exact HB.out | apply below_alloc | apply pw_below_drewN | apply below_drew1 | refine below_set ?_ GE168.out | refine below_set ?_ GE169.out | refine below_set ?_ GE170.out | refine below_set ?_ GE179.out | refine below_set ?_ GE185.out) | exact HB.out)) hb)
                            clear HO_180000
                            clear HO_186000
                            clear BK168
                            clear BK169
                            clear BK170
                            clear BK179
                            clear BK185
                            clear HB
                            have HO_180000 := n0_
                            have HO_186000 := n1_
                            have BK168 := n2_
                            have BK169 := n3_
                            have BK170 := n4_
                            have BK179 := n5_
                            have BK185 := n6_
                            have HB := n7_
                            clear n0_ n1_ n2_ n3_ n4_ n5_ n6_ n7_
                            (try clear hb)
                            (try clear hb2)
                            (try clear hk)
                            (try clear hi)
                            refine hK.out _ _ ⟨(blk_cell BK169.out 0).trans rfl, (blk_cell BK169.out 1).trans rfl⟩ (fun hHeld => ?_)
                            clear hK K
                            refine norm_ (a' := ?_) ?_ ?_
                            rotate_left
                            · show Act.put _ (some 82) _ = _
                              simp only [Act.put, List.setIfInBounds_toArray, List.set_cons_zero, List.set_cons_succ, i64_w, i32_w]
                              rfl
                            refine pure_ (i := 9) (N := some 83) (v := ?_) (a' := ?_) #[true, true, true, true, true, true, true, true, true, true, false, false, false, false, false, false, false, false, false, false, false, false, false, false, false, false, false, false, false, false, false] rfl rfl (any_of HT_.out (by kernel_rfl)) (fun _ _ _ h => h) (Or.inl ⟨by rfl, ?_⟩) ?_ ?_
                            rotate_left
                            · intro w'
                              go_simp
                              with_reducible rfl
                            rotate_left
                            · simp only [Act.put, List.setIfInBounds_toArray, List.set_cons_zero, List.set_cons_succ, i64_w, i32_w]
                              rfl
                            refine pure_ (i := 10) (N := some 84) (v := ?_) (a' := ?_) #[true, true, true, true, true, true, true, true, true, true, true, false, false, false, false, false, false, false, false, false, false, false, false, false, false, false, false, false, false, false, false] rfl rfl (any_of HT_.out (by kernel_rfl)) (fun _ _ _ h => h) (Or.inl ⟨by rfl, ?_⟩) ?_ ?_
                            rotate_left
                            · intro w'
                              go_simp
                              with_reducible rfl
                            rotate_left
                            · simp only [Act.put, List.setIfInBounds_toArray, List.set_cons_zero, List.set_cons_succ, i64_w, i32_w]
                              rfl
                            refine pure_ (i := 12) (N := some 86) (v := ?_) (a' := ?_) #[true, true, true, true, true, true, true, true, true, true, true, false, true, false, false, false, false, false, false, false, false, false, false, false, false, false, false, false, false, false, false] rfl rfl (any_of HT_.out (by kernel_rfl)) (fun _ _ _ h => h) (Or.inl ⟨by rfl, ?_⟩) ?_ ?_
                            rotate_left
                            · intro w'
                              go_simp
                              with_reducible rfl
                            rotate_left
                            · simp only [Act.put, List.setIfInBounds_toArray, List.set_cons_zero, List.set_cons_succ, i64_w, i32_w]
                              rfl
                            refine pure_ (i := 15) (N := some 89) (v := ?_) (a' := ?_) #[true, true, true, true, true, true, true, true, true, true, true, false, true, false, false, true, false, false, false, false, false, false, false, false, false, false, false, false, false, false, false] rfl rfl (any_of HT_.out (by kernel_rfl)) (fun _ _ _ h => h) (Or.inl ⟨by rfl, ?_⟩) ?_ ?_
                            rotate_left
                            · intro w'
                              go_simp
                              with_reducible rfl
                            rotate_left
                            · simp only [Act.put, List.setIfInBounds_toArray, List.set_cons_zero, List.set_cons_succ, i64_w, i32_w]
                              rfl
                            refine take_ (i := 11) (N := some 85) (v := ?_) (a' := ?_) #[true, true, true, true, true, true, true, true, true, true, true, true, true, false, false, true, false, false, false, false, false, false, false, false, false, false, false, false, false, false, false] rfl rfl (take_ofW HT_.out HW_.out (by kernel_rfl)) (fun _ _ _ h => h) (Or.inl ⟨by rfl, ?_⟩) hHeld ?_ ?_
                            rotate_left
                            · rintro w' ⟨s0, s1⟩
                              go_simp
                              with_reducible rfl
                            rotate_left
                            · simp only [Act.put, List.setIfInBounds_toArray, List.set_cons_zero, List.set_cons_succ, i64_w, i32_w]
                              rfl
                            refine take_ (i := 14) (N := some 88) (v := ?_) (a' := ?_) #[true, true, true, true, true, true, true, true, true, true, true, true, true, false, true, true, false, false, false, false, false, false, false, false, false, false, false, false, false, false, false] rfl rfl (take_ofW HT_.out HW_.out (by kernel_rfl)) (fun _ _ _ h => h) (Or.inl ⟨by rfl, ?_⟩) hHeld ?_ ?_
                            rotate_left
                            · rintro w' ⟨s0, s1⟩
                              go_simp
                              with_reducible rfl
                            rotate_left
                            · simp only [Act.put, List.setIfInBounds_toArray, List.set_cons_zero, List.set_cons_succ, i64_w, i32_w]
                              rfl
                            refine one_ (i := 13) (N := some 87) #[true, true, true, true, true, true, true, true, true, true, true, true, true, true, true, true, false, false, false, false, false, false, false, false, false, false, false, false, false, false, false] rfl rfl (one_of HT_.out (by kernel_rfl)) (by decide) (fun K hK => ?_)
                            refine goes_ Try.func42 (by kernel_rfl) rfl #[.agg #[.slice A0_0 l0_0.length c0_0, .int .i64 a0_1], .int .i64 a0_4, .bool false] (by rfl) rfl rfl (by (try simp only [List.map_toArray, List.map_cons, List.map_nil]); first | done | rfl | (simp only [List.length_drop, List.length_take]; rfl)) ?_
                            with_reducible refine (heap_Fits.calls kj92 _ _ l0_0 a0_1 a0_4 false t194 _ ?side1 ?side2 A112.out).mono ?_
                            (case side1 => repeat (first | exact (Kd.C_below HR0_0.out HB.out) | (with_reducible refine Kd.C_alloc ?_ _) | (with_reducible refine Kd.C_drewN ?_ _) | (with_reducible refine Kd.C_drew ?_)))
                            (case side2 => exact HC0_0.out)
                            rintro e w120 ⟨rfl, hb⟩
                            refine ⟨_, rfl, ?_⟩
                            have n0_ := Aside0.mk (Kd.S_below (by (with_reducible repeat (first | apply Kd.S_alloc | apply Kd.S_drewN | apply Kd.S_drew)); exact HO_180000.out) hb)
                            have n1_ := Aside0.mk (Kd.S_below (by (with_reducible repeat (first | apply Kd.S_alloc | apply Kd.S_drewN | apply Kd.S_drew)); exact HO_186000.out) hb)
                            have n2_ := Aside0.mk (blk_below (g := gb168) (o := .cells #[.slice A0_0 l0_0.length c0_0, .int .i64 a0_1, .slice A0_2 l0_2.length c0_2, .int .i64 a0_3, .int .i64 a0_4, .int .i64 a0_5] 61 (0, 0)) (by (with_reducible repeat (first | refine blk_drewN ?_ _ | refine blk_drew ?_ | refine blk_alloc ?_ _)); exact BK168.out) hb)
                            have n3_ := Aside0.mk (blk_below (g := gb169) (o := .cells #[.slice A0_0 l0_0.length c0_0, .int .i64 a0_1] 24 (0, 0)) (by (with_reducible repeat (first | refine blk_drewN ?_ _ | refine blk_drew ?_ | refine blk_alloc ?_ _)); exact BK169.out) hb)
                            have n4_ := Aside0.mk (blk_below (g := gb170) (o := .cells #[.slice A0_2 l0_2.length c0_2, .int .i64 a0_3] 24 (0, 0)) (by (with_reducible repeat (first | refine blk_drewN ?_ _ | refine blk_drew ?_ | refine blk_alloc ?_ _)); exact BK170.out) hb)
                            have n5_ := Aside0.mk (blk_below (g := gb179) (o := .cells #[.slice Ao37 t174.length co37, .int .i64 t177] 24 (0, 0)) (by (with_reducible repeat (first | refine blk_drewN ?_ _ | refine blk_drew ?_ | refine blk_alloc ?_ _)); exact BK179.out) hb)
                            have n6_ := Aside0.mk (blk_below (g := gb185) (o := .cells #[.slice Ao44 t180.length co44, .int .i64 t183] 24 (0, 0)) (by (with_reducible repeat (first | refine blk_drewN ?_ _ | refine blk_drew ?_ | refine blk_alloc ?_ _)); exact BK185.out) hb)
                            have n7_ := Aside0.mk (below_step (by repeat (first | (with_reducible first | exact HB.out | apply below_alloc | apply pw_below_drewN | apply below_drew1 | refine below_set ?_ GE168.out | refine below_set ?_ GE169.out | refine below_set ?_ GE170.out | refine below_set ?_ GE179.out | refine below_set ?_ GE185.out) | exact HB.out)) hb)
                            clear HO_180000
                            clear HO_186000
                            clear BK168
                            clear BK169
                            clear BK170
                            clear BK179
                            clear BK185
                            clear HB
                            have HO_180000 := n0_
                            have HO_186000 := n1_
                            have BK168 := n2_
                            have BK169 := n3_
                            have BK170 := n4_
                            have BK179 := n5_
                            have BK185 := n6_
                            have HB := n7_
                            clear n0_ n1_ n2_ n3_ n4_ n5_ n6_ n7_
                            (try clear hb)
                            (try clear hb2)
                            (try clear hk)
                            (try clear hi)
                            refine hK.out _ _ ⟨(blk_cell BK169.out 0).trans rfl, (blk_cell BK169.out 1).trans rfl⟩ (fun hHeld => ?_)
                            clear hK K
                            refine norm_ (a' := ?_) ?_ ?_
                            rotate_left
                            · show Act.put _ (some 87) _ = _
                              simp only [Act.put, List.setIfInBounds_toArray, List.set_cons_zero, List.set_cons_succ, i64_w, i32_w]
                              rfl
                            refine one_ (i := 16) (N := some 90) #[true, true, true, true, true, true, true, true, true, true, true, true, true, true, true, true, true, false, false, false, false, false, false, false, false, false, false, false, false, false, false] rfl rfl (one_of HT_.out (by kernel_rfl)) (by decide) (fun K hK => ?_)
                            refine goes_ Try.func43 (by kernel_rfl) rfl #[.agg #[.slice A0_0 l0_0.length c0_0, .int .i64 a0_1], .int .i64 a0_4, .bool false] (by rfl) rfl rfl (by (try simp only [List.map_toArray, List.map_cons, List.map_nil]); first | done | rfl | (simp only [List.length_drop, List.length_take]; rfl)) ?_
                            with_reducible refine (assartref05_Fits.calls kj92 _ _ l0_0 a0_1 a0_4 false t195 _ ?side1 ?side2 A113.out).mono ?_
                            (case side1 => repeat (first | exact (Kd.C_below HR0_0.out HB.out) | (with_reducible refine Kd.C_alloc ?_ _) | (with_reducible refine Kd.C_drewN ?_ _) | (with_reducible refine Kd.C_drew ?_)))
                            (case side2 => exact HC0_0.out)
                            rintro e w121 ⟨rfl, hb⟩
                            refine ⟨_, rfl, ?_⟩
                            have n0_ := Aside0.mk (Kd.S_below (by (with_reducible repeat (first | apply Kd.S_alloc | apply Kd.S_drewN | apply Kd.S_drew)); exact HO_180000.out) hb)
                            have n1_ := Aside0.mk (Kd.S_below (by (with_reducible repeat (first | apply Kd.S_alloc | apply Kd.S_drewN | apply Kd.S_drew)); exact HO_186000.out) hb)
                            have n2_ := Aside0.mk (blk_below (g := gb168) (o := .cells #[.slice A0_0 l0_0.length c0_0, .int .i64 a0_1, .slice A0_2 l0_2.length c0_2, .int .i64 a0_3, .int .i64 a0_4, .int .i64 a0_5] 61 (0, 0)) (by (with_reducible repeat (first | refine blk_drewN ?_ _ | refine blk_drew ?_ | refine blk_alloc ?_ _)); exact BK168.out) hb)
                            have n3_ := Aside0.mk (blk_below (g := gb169) (o := .cells #[.slice A0_0 l0_0.length c0_0, .int .i64 a0_1] 24 (0, 0)) (by (with_reducible repeat (first | refine blk_drewN ?_ _ | refine blk_drew ?_ | refine blk_alloc ?_ _)); exact BK169.out) hb)
                            have n4_ := Aside0.mk (blk_below (g := gb170) (o := .cells #[.slice A0_2 l0_2.length c0_2, .int .i64 a0_3] 24 (0, 0)) (by (with_reducible repeat (first | refine blk_drewN ?_ _ | refine blk_drew ?_ | refine blk_alloc ?_ _)); exact BK170.out) hb)
                            have n5_ := Aside0.mk (blk_below (g := gb179) (o := .cells #[.slice Ao37 t174.length co37, .int .i64 t177] 24 (0, 0)) (by (with_reducible repeat (first | refine blk_drewN ?_ _ | refine blk_drew ?_ | refine blk_alloc ?_ _)); exact BK179.out) hb)
                            have n6_ := Aside0.mk (blk_below (g := gb185) (o := .cells #[.slice Ao44 t180.length co44, .int .i64 t183] 24 (0, 0)) (by (with_reducible repeat (first | refine blk_drewN ?_ _ | refine blk_drew ?_ | refine blk_alloc ?_ _)); exact BK185.out) hb)
                            have n7_ := Aside0.mk (below_step (by repeat (first | (with_reducible first | exact HB.out | apply below_alloc | apply pw_below_drewN | apply below_drew1 | refine below_set ?_ GE168.out | refine below_set ?_ GE169.out | refine below_set ?_ GE170.out | refine below_set ?_ GE179.out | refine below_set ?_ GE185.out) | exact HB.out)) hb)
                            clear HO_180000
                            clear HO_186000
                            clear BK168
                            clear BK169
                            clear BK170
                            clear BK179
                            clear BK185
                            clear HB
                            have HO_180000 := n0_
                            have HO_186000 := n1_
                            have BK168 := n2_
                            have BK169 := n3_
                            have BK170 := n4_
                            have BK179 := n5_
                            have BK185 := n6_
                            have HB := n7_
                            clear n0_ n1_ n2_ n3_ n4_ n5_ n6_ n7_
                            (try clear hb)
                            (try clear hb2)
                            (try clear hk)
                            (try clear hi)
                            refine hK.out _ _ ⟨(blk_cell BK169.out 0).trans rfl, (blk_cell BK169.out 1).trans rfl⟩ (fun hHeld => ?_)
                            clear hK K
                            refine norm_ (a' := ?_) ?_ ?_
                            rotate_left
                            · show Act.put _ (some 90) _ = _
                              simp only [Act.put, List.setIfInBounds_toArray, List.set_cons_zero, List.set_cons_succ, i64_w, i32_w]
                              rfl
                            refine pure_ (i := 17) (N := some 91) (v := ?_) (a' := ?_) #[true, true, true, true, true, true, true, true, true, true, true, true, true, true, true, true, true, true, false, false, false, false, false, false, false, false, false, false, false, false, false] rfl rfl (any_of HT_.out (by kernel_rfl)) (fun _ _ _ h => h) (Or.inl ⟨by rfl, ?_⟩) ?_ ?_
                            rotate_left
                            · intro w'
                              go_simp
                              with_reducible rfl
                            rotate_left
                            · simp only [Act.put, List.setIfInBounds_toArray, List.set_cons_zero, List.set_cons_succ, i64_w, i32_w]
                              rfl
                            refine pure_ (i := 18) (N := some 92) (v := ?_) (a' := ?_) #[true, true, true, true, true, true, true, true, true, true, true, true, true, true, true, true, true, true, true, false, false, false, false, false, false, false, false, false, false, false, false] rfl rfl (any_of HT_.out (by kernel_rfl)) (fun _ _ _ h => h) (Or.inl ⟨by rfl, ?_⟩) ?_ ?_
                            rotate_left
                            · intro w'
                              go_simp
                              with_reducible rfl
                            rotate_left
                            · simp only [Act.put, List.setIfInBounds_toArray, List.set_cons_zero, List.set_cons_succ, i64_w, i32_w]
                              rfl
                            refine pure_ (i := 19) (N := some 93) (v := ?_) (a' := ?_) #[true, true, true, true, true, true, true, true, true, true, true, true, true, true, true, true, true, true, true, true, false, false, false, false, false, false, false, false, false, false, false] rfl rfl (any_of HT_.out (by kernel_rfl)) (fun _ _ _ h => h) (Or.inl ⟨by rfl, ?_⟩) ?_ ?_
                            rotate_left
                            · intro w'
                              go_simp
                              with_reducible rfl
                            rotate_left
                            · simp only [Act.put, List.setIfInBounds_toArray, List.set_cons_zero, List.set_cons_succ, i64_w, i32_w]
                              rfl
                            refine pure_ (i := 21) (N := some 95) (v := ?_) (a' := ?_) #[true, true, true, true, true, true, true, true, true, true, true, true, true, true, true, true, true, true, true, true, false, true, false, false, false, false, false, false, false, false, false] rfl rfl (any_of HT_.out (by kernel_rfl)) (fun _ _ _ h => h) (Or.inl ⟨by rfl, ?_⟩) ?_ ?_
                            rotate_left
                            · intro w'
                              go_simp
                              with_reducible rfl
                            rotate_left
                            · simp only [Act.put, List.setIfInBounds_toArray, List.set_cons_zero, List.set_cons_succ, i64_w, i32_w]
                              rfl
                            refine pure_ (i := 24) (N := some 98) (v := ?_) (a' := ?_) #[true, true, true, true, true, true, true, true, true, true, true, true, true, true, true, true, true, true, true, true, false, true, false, false, true, false, false, false, false, false, false] rfl rfl (any_of HT_.out (by kernel_rfl)) (fun _ _ _ h => h) (Or.inl ⟨by rfl, ?_⟩) ?_ ?_
                            rotate_left
                            · intro w'
                              go_simp
                              with_reducible rfl
                            rotate_left
                            · simp only [Act.put, List.setIfInBounds_toArray, List.set_cons_zero, List.set_cons_succ, i64_w, i32_w]
                              rfl
                            refine take_ (i := 20) (N := some 94) (v := ?_) (a' := ?_) #[true, true, true, true, true, true, true, true, true, true, true, true, true, true, true, true, true, true, true, true, true, true, false, false, true, false, false, false, false, false, false] rfl rfl (take_ofW HT_.out HW_.out (by kernel_rfl)) (fun _ _ _ h => h) (Or.inl ⟨by rfl, ?_⟩) hHeld ?_ ?_
                            rotate_left
                            · rintro w' ⟨s0, s1⟩
                              go_simp
                              with_reducible rfl
                            rotate_left
                            · simp only [Act.put, List.setIfInBounds_toArray, List.set_cons_zero, List.set_cons_succ, i64_w, i32_w]
                              rfl
                            refine take_ (i := 23) (N := some 97) (v := ?_) (a' := ?_) #[true, true, true, true, true, true, true, true, true, true, true, true, true, true, true, true, true, true, true, true, true, true, false, true, true, false, false, false, false, false, false] rfl rfl (take_ofW HT_.out HW_.out (by kernel_rfl)) (fun _ _ _ h => h) (Or.inl ⟨by rfl, ?_⟩) hHeld ?_ ?_
                            rotate_left
                            · rintro w' ⟨s0, s1⟩
                              go_simp
                              with_reducible rfl
                            rotate_left
                            · simp only [Act.put, List.setIfInBounds_toArray, List.set_cons_zero, List.set_cons_succ, i64_w, i32_w]
                              rfl
                            refine one_ (i := 22) (N := some 96) #[true, true, true, true, true, true, true, true, true, true, true, true, true, true, true, true, true, true, true, true, true, true, true, true, true, false, false, false, false, false, false] rfl rfl (one_of HT_.out (by kernel_rfl)) (by decide) (fun K hK => ?_)
                            refine goes_ Try.func42 (by kernel_rfl) rfl #[.agg #[.slice A0_0 l0_0.length c0_0, .int .i64 a0_1], .int .i64 a0_4, .bool true] (by rfl) rfl rfl (by (try simp only [List.map_toArray, List.map_cons, List.map_nil]); first | done | rfl | (simp only [List.length_drop, List.length_take]; rfl)) ?_
                            with_reducible refine (heap_Fits.calls kj92 _ _ l0_0 a0_1 a0_4 true t196 _ ?side1 ?side2 A115.out).mono ?_
                            (case side1 => repeat (first | exact (Kd.C_below HR0_0.out HB.out) | (with_reducible refine Kd.C_alloc ?_ _) | (with_reducible refine Kd.C_drewN ?_ _) | (with_reducible refine Kd.C_drew ?_)))
                            (case side2 => exact HC0_0.out)
                            rintro e w122 ⟨rfl, hb⟩
                            refine ⟨_, rfl, ?_⟩
                            have n0_ := Aside0.mk (Kd.S_below (by (with_reducible repeat (first | apply Kd.S_alloc | apply Kd.S_drewN | apply Kd.S_drew)); exact HO_180000.out) hb)
                            have n1_ := Aside0.mk (Kd.S_below (by (with_reducible repeat (first | apply Kd.S_alloc | apply Kd.S_drewN | apply Kd.S_drew)); exact HO_186000.out) hb)
                            have n2_ := Aside0.mk (blk_below (g := gb168) (o := .cells #[.slice A0_0 l0_0.length c0_0, .int .i64 a0_1, .slice A0_2 l0_2.length c0_2, .int .i64 a0_3, .int .i64 a0_4, .int .i64 a0_5] 61 (0, 0)) (by (with_reducible repeat (first | refine blk_drewN ?_ _ | refine blk_drew ?_ | refine blk_alloc ?_ _)); exact BK168.out) hb)
                            have n3_ := Aside0.mk (blk_below (g := gb169) (o := .cells #[.slice A0_0 l0_0.length c0_0, .int .i64 a0_1] 24 (0, 0)) (by (with_reducible repeat (first | refine blk_drewN ?_ _ | refine blk_drew ?_ | refine blk_alloc ?_ _)); exact BK169.out) hb)
                            have n4_ := Aside0.mk (blk_below (g := gb170) (o := .cells #[.slice A0_2 l0_2.length c0_2, .int .i64 a0_3] 24 (0, 0)) (by (with_reducible repeat (first | refine blk_drewN ?_ _ | refine blk_drew ?_ | refine blk_alloc ?_ _)); exact BK170.out) hb)
                            have n5_ := Aside0.mk (blk_below (g := gb179) (o := .cells #[.slice Ao37 t174.length co37, .int .i64 t177] 24 (0, 0)) (by (with_reducible repeat (first | refine blk_drewN ?_ _ | refine blk_drew ?_ | refine blk_alloc ?_ _)); exact BK179.out) hb)
                            have n6_ := Aside0.mk (blk_below (g := gb185) (o := .cells #[.slice Ao44 t180.length co44, .int .i64 t183] 24 (0, 0)) (by (with_reducible repeat (first | refine blk_drewN ?_ _ | refine blk_drew ?_ | refine blk_alloc ?_ _)); exact BK185.out) hb)
                            have n7_ := Aside0.mk (below_step (by repeat (first | (with_reducible first | exact HB.out | apply below_alloc | apply pw_below_drewN | apply below_drew1 | refine below_set ?_ GE168.out | refine below_set ?_ GE169.out | refine below_set ?_ GE170.out | refine below_set ?_ GE179.out | refine below_set ?_ GE185.out) | exact HB.out)) hb)
                            clear HO_180000
                            clear HO_186000
                            clear BK168
                            clear BK169
                            clear BK170
                            clear BK179
                            clear BK185
                            clear HB
                            have HO_180000 := n0_
                            have HO_186000 := n1_
                            have BK168 := n2_
                            have BK169 := n3_
                            have BK170 := n4_
                            have BK179 := n5_
                            have BK185 := n6_
                            have HB := n7_
                            clear n0_ n1_ n2_ n3_ n4_ n5_ n6_ n7_
                            (try clear hb)
                            (try clear hb2)
                            (try clear hk)
                            (try clear hi)
                            refine hK.out _ _ ⟨(blk_cell BK169.out 0).trans rfl, (blk_cell BK169.out 1).trans rfl⟩ (fun hHeld => ?_)
                            clear hK K
                            refine norm_ (a' := ?_) ?_ ?_
                            rotate_left
                            · show Act.put _ (some 96) _ = _
                              simp only [Act.put, List.setIfInBounds_toArray, List.set_cons_zero, List.set_cons_succ, i64_w, i32_w]
                              rfl
                            refine one_ (i := 25) (N := some 99) #[true, true, true, true, true, true, true, true, true, true, true, true, true, true, true, true, true, true, true, true, true, true, true, true, true, true, false, false, false, false, false] rfl rfl (one_of HT_.out (by kernel_rfl)) (by decide) (fun K hK => ?_)
                            refine goes_ Try.func43 (by kernel_rfl) rfl #[.agg #[.slice A0_0 l0_0.length c0_0, .int .i64 a0_1], .int .i64 a0_4, .bool true] (by rfl) rfl rfl (by (try simp only [List.map_toArray, List.map_cons, List.map_nil]); first | done | rfl | (simp only [List.length_drop, List.length_take]; rfl)) ?_
                            with_reducible refine (assartref05_Fits.calls kj92 _ _ l0_0 a0_1 a0_4 true t197 _ ?side1 ?side2 A116.out).mono ?_
                            (case side1 => repeat (first | exact (Kd.C_below HR0_0.out HB.out) | (with_reducible refine Kd.C_alloc ?_ _) | (with_reducible refine Kd.C_drewN ?_ _) | (with_reducible refine Kd.C_drew ?_)))
                            (case side2 => exact HC0_0.out)
                            rintro e w123 ⟨rfl, hb⟩
                            refine ⟨_, rfl, ?_⟩
                            have n0_ := Aside0.mk (Kd.S_below (by (with_reducible repeat (first | apply Kd.S_alloc | apply Kd.S_drewN | apply Kd.S_drew)); exact HO_180000.out) hb)
                            have n1_ := Aside0.mk (Kd.S_below (by (with_reducible repeat (first | apply Kd.S_alloc | apply Kd.S_drewN | apply Kd.S_drew)); exact HO_186000.out) hb)
                            have n2_ := Aside0.mk (blk_below (g := gb168) (o := .cells #[.slice A0_0 l0_0.length c0_0, .int .i64 a0_1, .slice A0_2 l0_2.length c0_2, .int .i64 a0_3, .int .i64 a0_4, .int .i64 a0_5] 61 (0, 0)) (by (with_reducible repeat (first | refine blk_drewN ?_ _ | refine blk_drew ?_ | refine blk_alloc ?_ _)); exact BK168.out) hb)
                            have n3_ := Aside0.mk (blk_below (g := gb169) (o := .cells #[.slice A0_0 l0_0.length c0_0, .int .i64 a0_1] 24 (0, 0)) (by (with_reducible repeat (first | refine blk_drewN ?_ _ | refine blk_drew ?_ | refine blk_alloc ?_ _)); exact BK169.out) hb)
                            have n4_ := Aside0.mk (blk_below (g := gb170) (o := .cells #[.slice A0_2 l0_2.length c0_2, .int .i64 a0_3] 24 (0, 0)) (by (with_reducible repeat (first | refine blk_drewN ?_ _ | refine blk_drew ?_ | refine blk_alloc ?_ _)); exact BK170.out) hb)
                            have n5_ := Aside0.mk (blk_below (g := gb179) (o := .cells #[.slice Ao37 t174.length co37, .int .i64 t177] 24 (0, 0)) (by (with_reducible repeat (first | refine blk_drewN ?_ _ | refine blk_drew ?_ | refine blk_alloc ?_ _)); exact BK179.out) hb)
                            have n6_ := Aside0.mk (blk_below (g := gb185) (o := .cells #[.slice Ao44 t180.length co44, .int .i64 t183] 24 (0, 0)) (by (with_reducible repeat (first | refine blk_drewN ?_ _ | refine blk_drew ?_ | refine blk_alloc ?_ _)); exact BK185.out) hb)
                            have n7_ := Aside0.mk (below_step (by repeat (first | (with_reducible first | exact HB.out | apply below_alloc | apply pw_below_drewN | apply below_drew1 | refine below_set ?_ GE168.out | refine below_set ?_ GE169.out | refine below_set ?_ GE170.out | refine below_set ?_ GE179.out | refine below_set ?_ GE185.out) | exact HB.out)) hb)
                            clear HO_180000
                            clear HO_186000
                            clear BK168
                            clear BK169
                            clear BK170
                            clear BK179
                            clear BK185
                            clear HB
                            have HO_180000 := n0_
                            have HO_186000 := n1_
                            have BK168 := n2_
                            have BK169 := n3_
                            have BK170 := n4_
                            have BK179 := n5_
                            have BK185 := n6_
                            have HB := n7_
                            clear n0_ n1_ n2_ n3_ n4_ n5_ n6_ n7_
                            (try clear hb)
                            (try clear hb2)
                            (try clear hk)
                            (try clear hi)
                            refine hK.out _ _ ⟨(blk_cell BK169.out 0).trans rfl, (blk_cell BK169.out 1).trans rfl⟩ (fun hHeld => ?_)
                            clear hK K
                            refine norm_ (a' := ?_) ?_ ?_
                            rotate_left
                            · show Act.put _ (some 99) _ = _
                              simp only [Act.put, List.setIfInBounds_toArray, List.set_cons_zero, List.set_cons_succ, i64_w, i32_w]
                              rfl
                            refine pure_ (i := 26) (N := some 100) (v := ?_) (a' := ?_) #[true, true, true, true, true, true, true, true, true, true, true, true, true, true, true, true, true, true, true, true, true, true, true, true, true, true, true, false, false, false, false] rfl rfl (any_of HT_.out (by kernel_rfl)) (fun _ _ _ h => h) (Or.inl ⟨by rfl, ?_⟩) ?_ ?_
                            rotate_left
                            · intro w'
                              go_simp
                              with_reducible rfl
                            rotate_left
                            · simp only [Act.put, List.setIfInBounds_toArray, List.set_cons_zero, List.set_cons_succ, i64_w, i32_w]
                              rfl
                            refine pure_ (i := 27) (N := some 101) (v := ?_) (a' := ?_) #[true, true, true, true, true, true, true, true, true, true, true, true, true, true, true, true, true, true, true, true, true, true, true, true, true, true, true, true, false, false, false] rfl rfl (any_of HT_.out (by kernel_rfl)) (fun _ _ _ h => h) (Or.inl ⟨by rfl, ?_⟩) ?_ ?_
                            rotate_left
                            · intro w'
                              go_simp
                              with_reducible rfl
                            rotate_left
                            · simp only [Act.put, List.setIfInBounds_toArray, List.set_cons_zero, List.set_cons_succ, i64_w, i32_w]
                              rfl
                            refine pure_ (i := 28) (N := some 102) (v := ?_) (a' := ?_) #[true, true, true, true, true, true, true, true, true, true, true, true, true, true, true, true, true, true, true, true, true, true, true, true, true, true, true, true, true, false, false] rfl rfl (any_of HT_.out (by kernel_rfl)) (fun _ _ _ h => h) (Or.inl ⟨by rfl, ?_⟩) ?_ ?_
                            rotate_left
                            · intro w'
                              go_simp
                              with_reducible rfl
                            rotate_left
                            · simp only [Act.put, List.setIfInBounds_toArray, List.set_cons_zero, List.set_cons_succ, i64_w, i32_w]
                              rfl
                            refine pure_ (i := 29) (N := some 103) (v := ?_) (a' := ?_) #[true, true, true, true, true, true, true, true, true, true, true, true, true, true, true, true, true, true, true, true, true, true, true, true, true, true, true, true, true, true, false] rfl rfl (any_of HT_.out (by kernel_rfl)) (fun _ _ _ h => h) (Or.inl ⟨by rfl, ?_⟩) ?_ ?_
                            rotate_left
                            · intro w'
                              go_simp
                              with_reducible rfl
                            rotate_left
                            · simp only [Act.put, List.setIfInBounds_toArray, List.set_cons_zero, List.set_cons_succ, i64_w, i32_w]
                              rfl
                            refine pure_ (i := 30) (N := some 2) (v := ?_) (a' := ?_) #[true, true, true, true, true, true, true, true, true, true, true, true, true, true, true, true, true, true, true, true, true, true, true, true, true, true, true, true, true, true, true] rfl rfl (any_of HT_.out (by kernel_rfl)) (fun _ _ _ h => h) (Or.inl ⟨by rfl, ?_⟩) ?_ ?_
                            rotate_left
                            · intro w'
                              go_simp
                              with_reducible rfl
                            rotate_left
                            · simp only [Act.put, List.setIfInBounds_toArray, List.set_cons_zero, List.set_cons_succ, i64_w, i32_w]
                              rfl
                            refine done_ (done_of HT_.out (by kernel_rfl)) ?_
                            try go_wp2
                            go_ret
                            exact ⟨by first | rfl | (simp [errW_none, errW_some] <;> rfl) | (simp [*, errW_none, errW_some] <;> rfl), by repeat (first | (with_reducible first | exact HB.out | apply below_alloc | apply pw_below_drewN | apply below_drew1 | refine below_set ?_ GE168.out | refine below_set ?_ GE169.out | refine below_set ?_ GE170.out | refine below_set ?_ GE179.out | refine below_set ?_ GE185.out) | exact HB.out)⟩
                          · rw [if_neg c114] at H
                            have c114b0 : (t194 == t195) = false := by simpa using c114
                            (try (have c114b1 : decide (t194 = t195) = false := by simpa using c114))
                            (try (have c114b2 : (t194 == t195) = false := by simpa using c114))
                            (try (have c114b3 : ¬ (t194 = t195) := by simpa using c114))
                            clear c114
                            obtain rfl := Option.some.inj H
                            cases hr
                        · rw [if_neg c111] at H
                          have c111b0 : (t192 == t193) = false := beq_eq_false_iff_ne.mpr c111
                          have c111b1 : (t192 != t193) = true := bne_iff_ne.mpr c111
                          obtain rfl := Option.some.inj H
                          cases hr
                      · replace c108 := Bool.eq_false_iff.mpr c108
                        subst c108
                        have H1 : (some true) = some r := by rw [if_neg (show ¬ (false = true) by decide)] at H; exact H
                        clear H
                        have H := H1
                        clear H1
                        obtain rfl := Option.some.inj H
                        try go_wp2
                        have n0_ := Aside0.mk (Kd.S_drew HO_180000.out)
                        have n1_ := Aside0.mk (Kd.S_drew HO_186000.out)
                        have n2_ := Aside0.mk (blk_drew BK168.out)
                        have n3_ := Aside0.mk (blk_drew BK169.out)
                        have n4_ := Aside0.mk (blk_drew BK170.out)
                        have n5_ := Aside0.mk (blk_drew BK179.out)
                        have n6_ := Aside0.mk (blk_drew BK185.out)
                        have n7_ := Aside0.mk (below_drew1 HB.out)
                        clear HO_180000
                        clear HO_186000
                        clear BK168
                        clear BK169
                        clear BK170
                        clear BK179
                        clear BK185
                        clear HB
                        have HO_180000 := n0_
                        have HO_186000 := n1_
                        have BK168 := n2_
                        have BK169 := n3_
                        have BK170 := n4_
                        have BK179 := n5_
                        have BK185 := n6_
                        have HB := n7_
                        clear n0_ n1_ n2_ n3_ n4_ n5_ n6_ n7_
                        refine start_ (n := 31) (S := fun w' => True) (ds := []) #[false, false, false, false, false, false, false, false, false, false, false, false, false, false, false, false, false, false, false, false, false, false, false, false, false, false, false, false, false, false, false] (by kernel_rfl) rfl rfl trivial (fun hHeld => ?_); refine with_tabW assartlaw05_HeapTells.tab15 assartlaw05_HeapTells.bits15 (fun HT_ HW_ => ?_)
                        generalize wc.drew = w132 at HO_180000 HO_186000 BK168 BK169 BK170 BK179 BK185 HB hHeld ⊢
                        refine pure_ (i := 0) (N := some 74) (v := ?_) (a' := ?_) #[true, false, false, false, false, false, false, false, false, false, false, false, false, false, false, false, false, false, false, false, false, false, false, false, false, false, false, false, false, false, false] rfl rfl (any_of HT_.out (by kernel_rfl)) (fun _ _ _ h => h) (Or.inl ⟨by rfl, ?_⟩) ?_ ?_
                        rotate_left
                        · intro w'
                          go_simp
                          with_reducible rfl
                        rotate_left
                        · simp only [Act.put, List.setIfInBounds_toArray, List.set_cons_zero, List.set_cons_succ, i64_w, i32_w]
                          rfl
                        refine pure_ (i := 1) (N := some 75) (v := ?_) (a' := ?_) #[true, true, false, false, false, false, false, false, false, false, false, false, false, false, false, false, false, false, false, false, false, false, false, false, false, false, false, false, false, false, false] rfl rfl (any_of HT_.out (by kernel_rfl)) (fun _ _ _ h => h) (Or.inl ⟨by rfl, ?_⟩) ?_ ?_
                        rotate_left
                        · intro w'
                          go_simp
                          with_reducible rfl
                        rotate_left
                        · simp only [Act.put, List.setIfInBounds_toArray, List.set_cons_zero, List.set_cons_succ, i64_w, i32_w]
                          rfl
                        refine pure_ (i := 2) (N := some 76) (v := ?_) (a' := ?_) #[true, true, true, false, false, false, false, false, false, false, false, false, false, false, false, false, false, false, false, false, false, false, false, false, false, false, false, false, false, false, false] rfl rfl (any_of HT_.out (by kernel_rfl)) (fun _ _ _ h => h) (Or.inl ⟨by rfl, ?_⟩) ?_ ?_
                        rotate_left
                        · intro w'
                          go_simp
                          with_reducible rfl
                        rotate_left
                        · simp only [Act.put, List.setIfInBounds_toArray, List.set_cons_zero, List.set_cons_succ, i64_w, i32_w]
                          rfl
                        refine pure_ (i := 3) (N := some 77) (v := ?_) (a' := ?_) #[true, true, true, true, false, false, false, false, false, false, false, false, false, false, false, false, false, false, false, false, false, false, false, false, false, false, false, false, false, false, false] rfl rfl (any_of HT_.out (by kernel_rfl)) (fun _ _ _ h => h) (Or.inl ⟨by rfl, ?_⟩) ?_ ?_
                        rotate_left
                        · intro w'
                          go_simp
                          with_reducible rfl
                        rotate_left
                        · simp only [Act.put, List.setIfInBounds_toArray, List.set_cons_zero, List.set_cons_succ, i64_w, i32_w]
                          rfl
                        refine pure_ (i := 4) (N := some 78) (v := ?_) (a' := ?_) #[true, true, true, true, true, false, false, false, false, false, false, false, false, false, false, false, false, false, false, false, false, false, false, false, false, false, false, false, false, false, false] rfl rfl (any_of HT_.out (by kernel_rfl)) (fun _ _ _ h => h) (Or.inl ⟨by rfl, ?_⟩) ?_ ?_
                        rotate_left
                        · intro w'
                          go_simp
                          with_reducible rfl
                        rotate_left
                        · simp only [Act.put, List.setIfInBounds_toArray, List.set_cons_zero, List.set_cons_succ, i64_w, i32_w]
                          rfl
                        refine pure_ (i := 5) (N := some 79) (v := undef) (a' := ?_) #[true, true, true, true, true, true, false, false, false, false, false, false, false, false, false, false, false, false, false, false, false, false, false, false, false, false, false, false, false, false, false] rfl rfl (any_of HT_.out (by kernel_rfl)) (fun _ _ _ h => h) (Or.inr ⟨by rfl, rfl⟩) ?_ ?_
                        rotate_left
                        · simp only [Act.put, List.setIfInBounds_toArray, List.set_cons_zero, List.set_cons_succ, i64_w, i32_w]
                          rfl
                        refine pure_ (i := 6) (N := some 80) (v := undef) (a' := ?_) #[true, true, true, true, true, true, true, false, false, false, false, false, false, false, false, false, false, false, false, false, false, false, false, false, false, false, false, false, false, false, false] rfl rfl (any_of HT_.out (by kernel_rfl)) (fun _ _ _ h => h) (Or.inr ⟨by rfl, rfl⟩) ?_ ?_
                        rotate_left
                        · simp only [Act.put, List.setIfInBounds_toArray, List.set_cons_zero, List.set_cons_succ, i64_w, i32_w]
                          rfl
                        refine pure_ (i := 7) (N := some 81) (v := undef) (a' := ?_) #[true, true, true, true, true, true, true, true, false, false, false, false, false, false, false, false, false, false, false, false, false, false, false, false, false, false, false, false, false, false, false] rfl rfl (any_of HT_.out (by kernel_rfl)) (fun _ _ _ h => h) (Or.inr ⟨by rfl, rfl⟩) ?_ ?_
                        rotate_left
                        · simp only [Act.put, List.setIfInBounds_toArray, List.set_cons_zero, List.set_cons_succ, i64_w, i32_w]
                          rfl
                        refine pure_ (i := 8) (N := some 82) (v := undef) (a' := ?_) #[true, true, true, true, true, true, true, true, true, false, false, false, false, false, false, false, false, false, false, false, false, false, false, false, false, false, false, false, false, false, false] rfl rfl (any_of HT_.out (by kernel_rfl)) (fun _ _ _ h => h) (Or.inr ⟨by rfl, rfl⟩) ?_ ?_
                        rotate_left
                        · simp only [Act.put, List.setIfInBounds_toArray, List.set_cons_zero, List.set_cons_succ, i64_w, i32_w]
                          rfl
                        refine pure_ (i := 9) (N := some 83) (v := undef) (a' := ?_) #[true, true, true, true, true, true, true, true, true, true, false, false, false, false, false, false, false, false, false, false, false, false, false, false, false, false, false, false, false, false, false] rfl rfl (any_of HT_.out (by kernel_rfl)) (fun _ _ _ h => h) (Or.inr ⟨by rfl, rfl⟩) ?_ ?_
                        rotate_left
                        · simp only [Act.put, List.setIfInBounds_toArray, List.set_cons_zero, List.set_cons_succ, i64_w, i32_w]
                          rfl
                        refine pure_ (i := 10) (N := some 84) (v := undef) (a' := ?_) #[true, true, true, true, true, true, true, true, true, true, true, false, false, false, false, false, false, false, false, false, false, false, false, false, false, false, false, false, false, false, false] rfl rfl (any_of HT_.out (by kernel_rfl)) (fun _ _ _ h => h) (Or.inr ⟨by rfl, rfl⟩) ?_ ?_
                        rotate_left
                        · simp only [Act.put, List.setIfInBounds_toArray, List.set_cons_zero, List.set_cons_succ, i64_w, i32_w]
                          rfl
                        refine pure_ (i := 11) (N := some 85) (v := undef) (a' := ?_) #[true, true, true, true, true, true, true, true, true, true, true, true, false, false, false, false, false, false, false, false, false, false, false, false, false, false, false, false, false, false, false] rfl rfl (any_of HT_.out (by kernel_rfl)) (fun _ _ _ h => h) (Or.inr ⟨by rfl, rfl⟩) ?_ ?_
                        rotate_left
                        · simp only [Act.put, List.setIfInBounds_toArray, List.set_cons_zero, List.set_cons_succ, i64_w, i32_w]
                          rfl
                        refine pure_ (i := 12) (N := some 86) (v := undef) (a' := ?_) #[true, true, true, true, true, true, true, true, true, true, true, true, true, false, false, false, false, false, false, false, false, false, false, false, false, false, false, false, false, false, false] rfl rfl (any_of HT_.out (by kernel_rfl)) (fun _ _ _ h => h) (Or.inr ⟨by rfl, rfl⟩) ?_ ?_
                        rotate_left
                        · simp only [Act.put, List.setIfInBounds_toArray, List.set_cons_zero, List.set_cons_succ, i64_w, i32_w]
                          rfl
                        refine pure_ (i := 13) (N := some 87) (v := undef) (a' := ?_) #[true, true, true, true, true, true, true, true, true, true, true, true, true, true, false, false, false, false, false, false, false, false, false, false, false, false, false, false, false, false, false] rfl rfl (any_of HT_.out (by kernel_rfl)) (fun _ _ _ h => h) (Or.inr ⟨by rfl, rfl⟩) ?_ ?_
                        rotate_left
                        · simp only [Act.put, List.setIfInBounds_toArray, List.set_cons_zero, List.set_cons_succ, i64_w, i32_w]
                          rfl
                        refine pure_ (i := 14) (N := some 88) (v := undef) (a' := ?_) #[true, true, true, true, true, true, true, true, true, true, true, true, true, true, true, false, false, false, false, false, false, false, false, false, false, false, false, false, false, false, false] rfl rfl (any_of HT_.out (by kernel_rfl)) (fun _ _ _ h => h) (Or.inr ⟨by rfl, rfl⟩) ?_ ?_
                        rotate_left
                        · simp only [Act.put, List.setIfInBounds_toArray, List.set_cons_zero, List.set_cons_succ, i64_w, i32_w]
                          rfl
                        refine pure_ (i := 15) (N := some 89) (v := undef) (a' := ?_) #[true, true, true, true, true, true, true, true, true, true, true, true, true, true, true, true, false, false, false, false, false, false, false, false, false, false, false, false, false, false, false] rfl rfl (any_of HT_.out (by kernel_rfl)) (fun _ _ _ h => h) (Or.inr ⟨by rfl, rfl⟩) ?_ ?_
                        rotate_left
                        · simp only [Act.put, List.setIfInBounds_toArray, List.set_cons_zero, List.set_cons_succ, i64_w, i32_w]
                          rfl
                        refine pure_ (i := 16) (N := some 90) (v := undef) (a' := ?_) #[true, true, true, true, true, true, true, true, true, true, true, true, true, true, true, true, true, false, false, false, false, false, false, false, false, false, false, false, false, false, false] rfl rfl (any_of HT_.out (by kernel_rfl)) (fun _ _ _ h => h) (Or.inr ⟨by rfl, rfl⟩) ?_ ?_
                        rotate_left
                        · simp only [Act.put, List.setIfInBounds_toArray, List.set_cons_zero, List.set_cons_succ, i64_w, i32_w]
                          rfl
                        refine pure_ (i := 17) (N := some 91) (v := undef) (a' := ?_) #[true, true, true, true, true, true, true, true, true, true, true, true, true, true, true, true, true, true, false, false, false, false, false, false, false, false, false, false, false, false, false] rfl rfl (any_of HT_.out (by kernel_rfl)) (fun _ _ _ h => h) (Or.inr ⟨by rfl, rfl⟩) ?_ ?_
                        rotate_left
                        · simp only [Act.put, List.setIfInBounds_toArray, List.set_cons_zero, List.set_cons_succ, i64_w, i32_w]
                          rfl
                        refine pure_ (i := 18) (N := some 92) (v := undef) (a' := ?_) #[true, true, true, true, true, true, true, true, true, true, true, true, true, true, true, true, true, true, true, false, false, false, false, false, false, false, false, false, false, false, false] rfl rfl (any_of HT_.out (by kernel_rfl)) (fun _ _ _ h => h) (Or.inr ⟨by rfl, rfl⟩) ?_ ?_
                        rotate_left
                        · simp only [Act.put, List.setIfInBounds_toArray, List.set_cons_zero, List.set_cons_succ, i64_w, i32_w]
                          rfl
                        refine pure_ (i := 19) (N := some 93) (v := undef) (a' := ?_) #[true, true, true, true, true, true, true, true, true, true, true, true, true, true, true, true, true, true, true, true, false, false, false, false, false, false, false, false, false, false, false] rfl rfl (any_of HT_.out (by kernel_rfl)) (fun _ _ _ h => h) (Or.inr ⟨by rfl, rfl⟩) ?_ ?_
                        rotate_left
                        · simp only [Act.put, List.setIfInBounds_toArray, List.set_cons_zero, List.set_cons_succ, i64_w, i32_w]
                          rfl
                        refine pure_ (i := 20) (N := some 94) (v := undef) (a' := ?_) #[true, true, true, true, true, true, true, true, true, true, true, true, true, true, true, true, true, true, true, true, true, false, false, false, false, false, false, false, false, false, false] rfl rfl (any_of HT_.out (by kernel_rfl)) (fun _ _ _ h => h) (Or.inr ⟨by rfl, rfl⟩) ?_ ?_
                        rotate_left
                        · simp only [Act.put, List.setIfInBounds_toArray, List.set_cons_zero, List.set_cons_succ, i64_w, i32_w]
                          rfl
                        refine pure_ (i := 21) (N := some 95) (v := undef) (a' := ?_) #[true, true, true, true, true, true, true, true, true, true, true, true, true, true, true, true, true, true, true, true, true, true, false, false, false, false, false, false, false, false, false] rfl rfl (any_of HT_.out (by kernel_rfl)) (fun _ _ _ h => h) (Or.inr ⟨by rfl, rfl⟩) ?_ ?_
                        rotate_left
                        · simp only [Act.put, List.setIfInBounds_toArray, List.set_cons_zero, List.set_cons_succ, i64_w, i32_w]
                          rfl
                        refine pure_ (i := 22) (N := some 96) (v := undef) (a' := ?_) #[true, true, true, true, true, true, true, true, true, true, true, true, true, true, true, true, true, true, true, true, true, true, true, false, false, false, false, false, false, false, false] rfl rfl (any_of HT_.out (by kernel_rfl)) (fun _ _ _ h => h) (Or.inr ⟨by rfl, rfl⟩) ?_ ?_
                        rotate_left
                        · simp only [Act.put, List.setIfInBounds_toArray, List.set_cons_zero, List.set_cons_succ, i64_w, i32_w]
                          rfl
                        refine pure_ (i := 23) (N := some 97) (v := undef) (a' := ?_) #[true, true, true, true, true, true, true, true, true, true, true, true, true, true, true, true, true, true, true, true, true, true, true, true, false, false, false, false, false, false, false] rfl rfl (any_of HT_.out (by kernel_rfl)) (fun _ _ _ h => h) (Or.inr ⟨by rfl, rfl⟩) ?_ ?_
                        rotate_left
                        · simp only [Act.put, List.setIfInBounds_toArray, List.set_cons_zero, List.set_cons_succ, i64_w, i32_w]
                          rfl
                        refine pure_ (i := 24) (N := some 98) (v := undef) (a' := ?_) #[true, true, true, true, true, true, true, true, true, true, true, true, true, true, true, true, true, true, true, true, true, true, true, true, true, false, false, false, false, false, false] rfl rfl (any_of HT_.out (by kernel_rfl)) (fun _ _ _ h => h) (Or.inr ⟨by rfl, rfl⟩) ?_ ?_
                        rotate_left
                        · simp only [Act.put, List.setIfInBounds_toArray, List.set_cons_zero, List.set_cons_succ, i64_w, i32_w]
                          rfl
                        refine pure_ (i := 25) (N := some 99) (v := undef) (a' := ?_) #[true, true, true, true, true, true, true, true, true, true, true, true, true, true, true, true, true, true, true, true, true, true, true, true, true, true, false, false, false, false, false] rfl rfl (any_of HT_.out (by kernel_rfl)) (fun _ _ _ h => h) (Or.inr ⟨by rfl, rfl⟩) ?_ ?_
                        rotate_left
                        · simp only [Act.put, List.setIfInBounds_toArray, List.set_cons_zero, List.set_cons_succ, i64_w, i32_w]
                          rfl
                        refine pure_ (i := 26) (N := some 100) (v := undef) (a' := ?_) #[true, true, true, true, true, true, true, true, true, true, true, true, true, true, true, true, true, true, true, true, true, true, true, true, true, true, true, false, false, false, false] rfl rfl (any_of HT_.out (by kernel_rfl)) (fun _ _ _ h => h) (Or.inr ⟨by rfl, rfl⟩) ?_ ?_
                        rotate_left
                        · simp only [Act.put, List.setIfInBounds_toArray, List.set_cons_zero, List.set_cons_succ, i64_w, i32_w]
                          rfl
                        refine pure_ (i := 27) (N := some 101) (v := undef) (a' := ?_) #[true, true, true, true, true, true, true, true, true, true, true, true, true, true, true, true, true, true, true, true, true, true, true, true, true, true, true, true, false, false, false] rfl rfl (any_of HT_.out (by kernel_rfl)) (fun _ _ _ h => h) (Or.inr ⟨by rfl, rfl⟩) ?_ ?_
                        rotate_left
                        · simp only [Act.put, List.setIfInBounds_toArray, List.set_cons_zero, List.set_cons_succ, i64_w, i32_w]
                          rfl
                        refine pure_ (i := 28) (N := some 102) (v := ?_) (a' := ?_) #[true, true, true, true, true, true, true, true, true, true, true, true, true, true, true, true, true, true, true, true, true, true, true, true, true, true, true, true, true, false, false] rfl rfl (any_of HT_.out (by kernel_rfl)) (fun _ _ _ h => h) (Or.inl ⟨by rfl, ?_⟩) ?_ ?_
                        rotate_left
                        · intro w'
                          go_simp
                          with_reducible rfl
                        rotate_left
                        · simp only [Act.put, List.setIfInBounds_toArray, List.set_cons_zero, List.set_cons_succ, i64_w, i32_w]
                          rfl
                        refine pure_ (i := 29) (N := some 103) (v := ?_) (a' := ?_) #[true, true, true, true, true, true, true, true, true, true, true, true, true, true, true, true, true, true, true, true, true, true, true, true, true, true, true, true, true, true, false] rfl rfl (any_of HT_.out (by kernel_rfl)) (fun _ _ _ h => h) (Or.inl ⟨by rfl, ?_⟩) ?_ ?_
                        rotate_left
                        · intro w'
                          go_simp
                          with_reducible rfl
                        rotate_left
                        · simp only [Act.put, List.setIfInBounds_toArray, List.set_cons_zero, List.set_cons_succ, i64_w, i32_w]
                          rfl
                        refine pure_ (i := 30) (N := some 2) (v := ?_) (a' := ?_) #[true, true, true, true, true, true, true, true, true, true, true, true, true, true, true, true, true, true, true, true, true, true, true, true, true, true, true, true, true, true, true] rfl rfl (any_of HT_.out (by kernel_rfl)) (fun _ _ _ h => h) (Or.inl ⟨by rfl, ?_⟩) ?_ ?_
                        rotate_left
                        · intro w'
                          go_simp
                          with_reducible rfl
                        rotate_left
                        · simp only [Act.put, List.setIfInBounds_toArray, List.set_cons_zero, List.set_cons_succ, i64_w, i32_w]
                          rfl
                        refine done_ (done_of HT_.out (by kernel_rfl)) ?_
                        try go_wp2
                        go_ret
                        exact ⟨by first | rfl | (simp [errW_none, errW_some] <;> rfl) | (simp [*, errW_none, errW_some] <;> rfl), by repeat (first | (with_reducible first | exact HB.out | apply below_alloc | apply pw_below_drewN | apply below_drew1 | refine below_set ?_ GE168.out | refine below_set ?_ GE169.out | refine below_set ?_ GE170.out | refine below_set ?_ GE179.out | refine below_set ?_ GE185.out) | exact HB.out)⟩
                    · replace c107 := Bool.eq_false_iff.mpr c107
                      subst c107
                      have H1 : (some false) = some r := by rw [if_neg (show ¬ (false = true) by decide)] at H; exact H
                      clear H
                      have H := H1
                      clear H1
                      obtain rfl := Option.some.inj H
                      cases hr
end Go.Proofs.Yteiladccdenpbaa.P
end
section
namespace Go.Proofs.Yteiladccdenpbaa.P
open Go.RowKit Go.Proofs.YteiladccdenpbaaW.PrintWords Go.Proofs.YteiladccdenpbaaW.PrintLast Go.Proofs.YteiladccdenpbaaW.PrintMore
set_option linter.unusedVariables false
set_option linter.unusedSimpArgs false
def HR (l : List S55) : Prop := l.length ≤ 2000 ∧ ∀ p : Int, 0 ≤ p → p < (l.length : Int) → cellR l.length (rd_T55 l p)
theorem HR.rn {l : List S55} (H : HR l) {p : Int} (h0 : 0 ≤ p) (h1 : p < (l.length : Int)) (hr : 0 < Rf l p) : RtN (It l p) := by
  rcases H.2 p h0 h1 with h | h
  · have := h.1; simp only [Rf] at hr; omega
  · exact h.2.2.2.1
abbrev lo (l : List S55) (p : Int) : Int := kAt (It l p) 0
def Hi (l : List S55) : Nat → Int → Int
  | 0, _ => 0
  | 1, p => kAt (It l p) ((It l p).length - 1)
  | h + 2, p => Hi l (h + 1) (vAt (It l p) ((It l p).length - 1))
def Tr (l : List S55) : Nat → Int → Prop
  | 0, _ => False
  | 1, p => 0 ≤ p ∧ p < (l.length : Int) ∧ 0 < Rf l p ∧ Lf l p = true
  | h + 2, p => 0 ≤ p ∧ p < (l.length : Int) ∧ 0 < Rf l p ∧ Lf l p = false ∧ ∀ i, i < (It l p).length →
      Tr l (h + 1) (vAt (It l p) i) ∧ lo l (vAt (It l p) i) = kAt (It l p) i ∧ (i + 1 < (It l p).length → Hi l (h + 1) (vAt (It l p) i) < kAt (It l p) (i + 1))
def Ls (l : List S55) : Nat → Int → List S49
  | 0, _ => []
  | 1, p => It l p
  | h + 2, p => (It l p).flatMap fun x => Ls l (h + 1) x.f1
theorem Tr.base {l : List S55} {h : Nat} {p : Int} (t : Tr l h p) : 0 ≤ p ∧ p < (l.length : Int) ∧ 0 < Rf l p := by
  match h, t with
  | 1, t => exact ⟨t.1, t.2.1, t.2.2.1⟩
  | h + 2, t => exact ⟨t.1, t.2.1, t.2.2.1⟩
theorem Tr.pos {l : List S55} {h : Nat} {p : Int} (t : Tr l h p) : 1 ≤ h := by
  match h, t with
  | h + 1, t => omega
theorem Tr.rn {l : List S55} (H : HR l) {h : Nat} {p : Int} (t : Tr l h p) : RtN (It l p) := H.rn t.base.1 t.base.2.1 t.base.2.2
theorem Tr.leaf {l : List S55} {h : Nat} {p : Int} (t : Tr l h p) : Lf l p = decide (h = 1) := by
  match h, t with
  | 1, t => exact t.2.2.2
  | h + 2, t => rw [t.2.2.2.1, decide_eq_false (by omega)]
theorem mem_at {l : List S49} {x : S49} (h : x ∈ l) : ∃ i, i < l.length ∧ x.f0 = kAt l i ∧ x.f1 = vAt l i := by
  obtain ⟨i, hi, rfl⟩ := List.mem_iff_getElem.1 h
  exact ⟨i, hi, by simp only [kAt, rd_eq l i hi], by simp only [vAt, rd_eq l i hi]⟩
theorem rising_all {l : List S49} (h : RtN l) {i j : Nat} (hij : i < j) (hj : j < l.length) : kAt l i < kAt l j := rising_lt (rising_of h) i j hij hj
theorem rising_le {l : List S49} (h : RtN l) {i j : Nat} (hij : i ≤ j) (hj : j < l.length) : kAt l i ≤ kAt l j := by
  by_cases e : i = j
  · subst e; exact Int.le_refl _
  · have := rising_all h (show i < j by omega) hj; omega
structure Said1 (l : List S55) (h : Nat) (p : Int) : Prop where
  le : lo l p ≤ Hi l h p
  lo0 : 0 ≤ lo l p
  hi1 : Hi l h p ≤ 2147483647
  bd : ∀ x ∈ Ls l h p, lo l p ≤ x.f0 ∧ x.f0 ≤ Hi l h p
  hd : ∃ x xs, Ls l h p = x :: xs ∧ x.f0 = lo l p
  pw : (Ls l h p).Pairwise fun a b => a.f0 < b.f0
theorem gap {l : List S55} (H : HR l) {h : Nat} {p : Int} (t : Tr l (h + 2) p) {i j : Nat} (hij : i < j) (hj : j < (It l p).length) : Hi l (h + 1) (vAt (It l p) i) < kAt (It l p) j := by
  have := (t.2.2.2.2 i (by omega)).2.2 (by omega)
  have := rising_le (t.rn H) (show i + 1 ≤ j by omega) hj
  omega
theorem getE {l : List S49} {i : Nat} (hi : i < l.length) : (l[i]).f0 = kAt l i ∧ (l[i]).f1 = vAt l i := by simp only [kAt, vAt, rd_eq l i hi, and_self]
end Go.Proofs.Yteiladccdenpbaa.P
end
section
namespace Go.Proofs.Yteiladccdenpbaa.P
open Go.RowKit Go.Proofs.YteiladccdenpbaaW.PrintWords Go.Proofs.YteiladccdenpbaaW.PrintLast Go.Proofs.YteiladccdenpbaaW.PrintMore
set_option linter.unusedVariables false
set_option linter.unusedSimpArgs false
instance decS53 : DecidableEq S53 := fun x y =>
  if h : x.f0 = y.f0 ∧ x.f1 = y.f1 then isTrue (by cases x; cases y; simp at h; simp [h]) else isFalse (fun e => h (by rw [e]; exact ⟨rfl, rfl⟩))
instance decS55 : DecidableEq S55 := fun x y =>
  if h : x.f0 = y.f0 ∧ x.f1 = y.f1 ∧ x.f2 = y.f2 then isTrue (by cases x; cases y; simp at h; simp [h]) else isFalse (fun e => h (by rw [e]; exact ⟨rfl, rfl, rfl⟩))
theorem s55_ext {x y : S55} (h0 : x.f0 = y.f0) (h1 : x.f1 = y.f1) (h2 : x.f2.f0 = y.f2.f0) (h3 : x.f2.f1 = y.f2.f1) : x = y := by
  obtain ⟨a, b, c, d⟩ := x
  obtain ⟨a', b', c', d'⟩ := y
  simp only at h0 h1 h2 h3
  subst h0; subst h1; subst h2; subst h3; rfl
theorem sameB_dec (x y : S55) : sameB x y = decide (x = y) := by
  rw [Bool.eq_iff_iff, decide_eq_true_eq]
  unfold sameB
  rw [Bool.and_eq_true, Bool.and_eq_true, Bool.and_eq_true, beq_iff_eq, beq_iff_eq, beq_iff_eq, decide_eq_true_eq]
  exact ⟨fun ⟨a, b, c, d⟩ => s55_ext a b c d, fun e => by rw [e]; exact ⟨rfl, rfl, rfl, rfl⟩⟩
theorem sameL_dec : ∀ l m : List S55, sameL l m = decide (l = m)
  | [], [] => rfl
  | x :: xs, [] => by simp [sameL]
  | [], y :: ys => by simp [sameL]
  | x :: xs, y :: ys => by
    rw [sameL, sameB_dec, sameL_dec xs ys, ← Bool.decide_and, decide_eq_decide]
    simp
theorem rd55_at {l : List S55} {j : Nat} (h : j < l.length) : rd_T55 l (j : Nat) = l[j] := by
  simp only [rd_T55, Int.toNat_natCast, List.getD_eq_getElem?_getD, List.getElem?_eq_getElem h, Option.getD_some]
theorem same_val (l m : List S55) (kp kp' : Int) (hl : l.length < 1000000) (hm : m.length < 1000000) (hi : ∀ x ∈ l, x.f2.f1.length ≤ 1000) : heap_Same.f l kp m kp' = some (decide (kp = kp' ∧ l = m)) := by
  unfold heap_Same.f
  rw [if_pos ⟨hl, hm, hi⟩, sameL_dec]
  congr 1
  rw [Bool.eq_iff_iff, Bool.and_eq_true, Bool.and_eq_true, beq_iff_eq, decide_eq_true_eq, decide_eq_true_eq, decide_eq_true_eq]
  exact ⟨fun h => ⟨h.1, h.2.2⟩, fun h => ⟨h.1, by rw [h.2], h.2⟩⟩
theorem refSame_l0 (l m : List S55) (kp kp' : Int) (hl : l.length ≤ 100000) (hlm : l.length = m.length) (hi : ∀ x ∈ l, x.f2.f1.length ≤ 1000) : ∀ (d k j : Nat), j + d = l.length → 1001 + d < k → assartref05_Same.l0 k (j : Int) l kp m kp' = some (decide (l.drop j = m.drop j)) := by
  intro d
  induction d with
  | zero =>
    intro k j hj hk
    obtain ⟨k, rfl⟩ : ∃ m, k = m + 1 := ⟨k - 1, by omega⟩
    simp only [assartref05_Same.l0]
    rw [if_neg (by omega), List.drop_eq_nil_of_le (by omega), List.drop_eq_nil_of_le (by omega)]
    simp
  | succ d ih =>
    intro k j hj hk
    obtain ⟨k, rfl⟩ : ∃ m, k = m + 1 := ⟨k - 1, by omega⟩
    obtain ⟨hm, hd⟩ := rd55_mem (l := l) (j := j) (by omega)
    obtain ⟨-, hd'⟩ := rd55_mem (l := m) (j := j) (by omega)
    simp only [assartref05_Same.l0]
    rw [if_pos (by omega), if_pos (by omega), if_pos (by omega), refSame04_val' k _ _ _ _ (hi _ hm) (by omega), Option.bind_some, wsucc j (by omega), ih k (j + 1) (by omega) (by omega), hd, hd']
    generalize rd_T55 l (j : Nat) = x
    generalize rd_T55 m (j : Nat) = y
    by_cases h1 : ((x.f2.f0 == y.f2.f0) && decide (x.f2.f1 = y.f2.f1)) = true
    · rw [if_pos h1]
      rw [Bool.and_eq_true, beq_iff_eq, decide_eq_true_eq] at h1
      by_cases h2 : x.f0 = y.f0
      · rw [if_pos h2]
        by_cases h3 : x.f1 = y.f1
        · rw [if_neg (by rw [h3]; simp), s55_ext h2 h3 h1.1 h1.2]
          congr 1
          rw [decide_eq_decide]
          simp
        · rw [if_pos (by rw [bne_iff_ne]; exact h3), decide_eq_false (fun e => h3 (by rw [(List.cons.inj e).1]))]
      · rw [if_neg h2, decide_eq_false (fun e => h2 (by rw [(List.cons.inj e).1]))]
    · rw [if_neg h1, decide_eq_false (fun e => h1 (by rw [(List.cons.inj e).1]; simp))]
theorem refSame_val (l m : List S55) (kp kp' : Int) (hl : l.length ≤ 100000) (hi : ∀ x ∈ l, x.f2.f1.length ≤ 1000) {k : Nat} (hk : 1003 + l.length < k) : assartref05_Same.f k l kp m kp' = some (decide (kp = kp' ∧ l = m)) := by
  unfold assartref05_Same.f
  obtain ⟨k, rfl⟩ : ∃ m, k = m + 1 := ⟨k - 1, by omega⟩
  by_cases h1 : kp = kp'
  · rw [if_pos h1]
    simp only [assartref05_Same.j0]
    by_cases h2 : l.length = m.length
    · rw [if_neg (by rw [h2]; simp)]
      have := refSame_l0 l m kp kp' hl h2 hi l.length k 0 (by omega) (by omega)
      rw [show ((0 : Nat) : Int) = 0 from rfl, List.drop_zero, List.drop_zero] at this
      rw [this]
      congr 1
      rw [decide_eq_decide]
      exact ⟨fun h => ⟨h1, h⟩, fun h => h.2⟩
    · rw [if_pos (by rw [bne_iff_ne]; omega), decide_eq_false (fun h => h2 (by rw [h.2]))]
  · rw [if_neg h1]
    simp only [assartref05_Same.j0]
    rw [if_pos trivial, decide_eq_false (fun h => h1 h.1)]
theorem places_dec (n : Nat) (leaf : Bool) (it : List S49) : placesB n leaf it = decide (leaf = true ∨ plR n it) := by
  rw [Bool.eq_iff_iff, decide_eq_true_eq]
  unfold placesB
  rw [Bool.or_eq_true]
  refine or_congr_right ?_
  rw [Bool.not_eq_true', List.any_eq_false]
  constructor
  · intro h i hi
    have := h it[i] (List.getElem_mem hi)
    unfold oddPlace at this
    rw [(getE hi).2] at this
    simp at this
    exact this
  · intro h x hx
    obtain ⟨i, hi, _, hv⟩ := mem_at hx
    have := h i hi
    unfold oddPlace
    rw [hv]
    simp
    exact this
theorem odd_dec (n : Nat) (x : S55) : oddB n x = !decide (cellR n x) := by
  unfold oddB
  by_cases h0 : x.f0 = 0
  · rw [if_pos h0, Bool.eq_iff_iff, Bool.not_eq_true', decide_eq_false_iff_not, Bool.or_eq_true, decide_eq_true_eq]
    constructor
    · rintro (h | h) (⟨_, h2, h3⟩ | ⟨h2, _⟩)
      · rw [h] at h2; cases h2
      · omega
      · omega
      · omega
    · intro h
      by_cases h1 : x.f2.f0 = true
      · exact .inl h1
      · right
        by_cases h2 : 0 < x.f2.f1.length
        · exact h2
        · exact absurd (.inl ⟨h0, by simpa using h1, by omega⟩) h
  · rw [if_neg h0, places_dec, Bool.eq_iff_iff, Bool.not_eq_true', decide_eq_false_iff_not]
    simp only [Bool.or_eq_true, Bool.not_eq_true', decide_eq_true_eq, decide_eq_false_iff_not]
    constructor
    · rintro h (⟨h2, _⟩ | ⟨h2, h3, h4, h5, h6⟩)
      · exact h0 h2
      · rcases h with (((h | h) | h) | h) | h
        · omega
        · omega
        · rw [h] at h4; cases h4
        · exact h h5
        · exact h h6
    · intro h
      by_cases h1 : x.f0 < 0
      · exact .inl (.inl (.inl (.inl h1)))
      by_cases h2 : 2147483647 < x.f0
      · exact .inl (.inl (.inl (.inr h2)))
      by_cases h3 : x.f1 = true
      · exact .inl (.inl (.inr h3))
      by_cases h4 : RtN x.f2.f1
      · right
        intro h5
        exact h (.inr ⟨by omega, by omega, by simpa using h3, h4, h5⟩)
      · exact .inl (.inr h4)
theorem rightB_dec (l : List S55) (kp : Int) : rightB l kp = decide (heapR l kp) := by
  rw [Bool.eq_iff_iff, decide_eq_true_eq]
  unfold rightB heapR
  simp only [Bool.and_eq_true, decide_eq_true_eq, Bool.not_eq_true', List.any_eq_false]
  constructor
  · rintro ⟨⟨⟨⟨h1, h2⟩, h3⟩, h4⟩, h5⟩
    refine ⟨h1, h2, h3, h4, fun i hi _ => ?_⟩
    have := h5 _ (rd55_mem hi).1
    rw [odd_dec] at this
    simpa using this
  · rintro ⟨h1, h2, h3, h4, h5⟩
    refine ⟨⟨⟨⟨h1, h2⟩, h3⟩, h4⟩, fun x hx => ?_⟩
    obtain ⟨i, hi, rfl⟩ := List.mem_iff_getElem.1 hx
    have := h5 i hi (Nat.zero_le _)
    rw [rd55_at hi] at this
    rw [odd_dec]
    simpa using this
theorem hright_val (l : List S55) (kp : Int) (hl : l.length < 1000000) (hi : ∀ x ∈ l, x.f2.f1.length < 1000000) : heap_Right.f l kp = some (decide (heapR l kp)) := by
  unfold heap_Right.f
  rw [if_pos ⟨hl, hi⟩, rightB_dec]
def freeN (l : List S55) : Nat := (l.filter isFreeB).length
theorem freeN_drop {l : List S55} {j : Nat} (h : j < l.length) : freeN (l.drop j) = (if isFreeB (rd_T55 l (j : Nat)) = true then 1 else 0) + freeN (l.drop (j + 1)) := by
  obtain ⟨-, hd⟩ := rd55_mem h
  unfold freeN
  rw [hd, List.filter_cons]
  by_cases hf : isFreeB (rd_T55 l (j : Nat)) = true
  · rw [if_pos hf, if_pos hf, List.length_cons]; omega
  · rw [if_neg hf, if_neg hf]; omega
theorem free_l0 (l : List S55) (hl : l.length ≤ 100000) : ∀ (d k j c : Nat), j + d = l.length → d < k → c ≤ j → heap_Free.l0 k (c : Int) l (l.length : Int) (j : Int) = some (((c + freeN (l.drop j) : Nat)) : Int) := by
  intro d
  induction d with
  | zero =>
    intro k j c hj hk hc
    obtain ⟨k, rfl⟩ : ∃ m, k = m + 1 := ⟨k - 1, by omega⟩
    simp only [heap_Free.l0]
    rw [if_neg (by omega), List.drop_eq_nil_of_le (by omega)]
    rfl
  | succ d ih =>
    intro k j c hj hk hc
    obtain ⟨k, rfl⟩ : ∃ m, k = m + 1 := ⟨k - 1, by omega⟩
    simp only [heap_Free.l0]
    rw [if_pos (by omega), if_pos (by omega), if_pos (by omega), isFree_val, Option.bind_some, wsucc j (by omega), freeN_drop (by omega)]
    by_cases h : isFreeB (rd_T55 l (j : Nat)) = true
    · rw [if_pos h, if_pos h, wsucc c (by omega), ih k (j + 1) (c + 1) (by omega) (by omega) (by omega)]
      congr 2
      omega
    · rw [if_neg h, if_neg h, ih k (j + 1) c (by omega) (by omega) (by omega)]
      congr 2
      omega
theorem free_val (l : List S55) (kp : Int) (hl : l.length ≤ 100000) {k : Nat} (hk : l.length < k) : heap_Free.f k l kp = some (freeN l : Int) := by
  unfold heap_Free.f
  have := free_l0 l hl l.length k 0 0 (by omega) hk (by omega)
  rw [List.drop_zero, Nat.zero_add] at this
  exact this
theorem refFree_l0 (l : List S55) (kp : Int) (hl : l.length ≤ 100000) : ∀ (d k j c : Nat), j + d = l.length → d < k → c ≤ j → assartref05_Free.l0 k (c : Int) (j : Int) l kp = some (((c + freeN (l.drop j) : Nat)) : Int) := by
  intro d
  induction d with
  | zero =>
    intro k j c hj hk hc
    obtain ⟨k, rfl⟩ : ∃ m, k = m + 1 := ⟨k - 1, by omega⟩
    simp only [assartref05_Free.l0]
    rw [if_neg (by omega), List.drop_eq_nil_of_le (by omega)]
    rfl
  | succ d ih =>
    intro k j c hj hk hc
    obtain ⟨k, rfl⟩ : ∃ m, k = m + 1 := ⟨k - 1, by omega⟩
    simp only [assartref05_Free.l0]
    rw [if_pos (by omega), if_pos (by omega), wsucc j (by omega), freeN_drop (by omega)]
    unfold isFreeB
    by_cases h : (rd_T55 l (j : Nat)).f0 = 0
    · rw [if_pos h, beq_iff_eq.2 h, Bool.true_and]
      by_cases h2 : (rd_T55 l (j : Nat)).f1 = true
      · rw [if_pos h2, h2, ih k (j + 1) c (by omega) (by omega) (by omega)]
        simp
      · rw [if_neg h2, wsucc c (by omega), ih k (j + 1) (c + 1) (by omega) (by omega) (by omega)]
        rw [Bool.not_eq_true] at h2
        rw [h2, if_pos (by rfl)]
        congr 2
        omega
    · rw [if_neg h, beq_eq_false_iff_ne.2 h, Bool.false_and, if_neg (by simp), ih k (j + 1) c (by omega) (by omega) (by omega)]
      congr 2
      omega
theorem refFree_val (l : List S55) (kp : Int) (hl : l.length ≤ 100000) {k : Nat} (hk : l.length < k) : assartref05_Free.f k l kp = some (freeN l : Int) := by
  unfold assartref05_Free.f
  have := refFree_l0 l kp hl l.length k 0 0 (by omega) hk (by omega)
  rw [List.drop_zero, Nat.zero_add] at this
  exact this
def fitsB (l : List S55) (kp n : Int) (deep : Bool) : Bool := if deep = true then decide (n ≤ (freeN l : Int)) else decide (n ≤ wrap64 ((freeN l : Int) - kp))
theorem fits_val5 (l : List S55) (kp n : Int) (deep : Bool) (hl : l.length ≤ 100000) {k : Nat} (hk : l.length < k) : heap_Fits.f k l kp n deep = some (fitsB l kp n deep) := by
  unfold heap_Fits.f fitsB
  rw [free_val l kp hl hk, Option.bind_some]
  cases deep
  · rw [if_neg (by simp), if_neg (by simp)]
  · rw [if_pos rfl, if_pos rfl]
theorem refFits_val (l : List S55) (kp n : Int) (deep : Bool) (hl : l.length ≤ 100000) {k : Nat} (hk : l.length < k) : assartref05_Fits.f k l kp n deep = some (fitsB l kp n deep) := by
  unfold assartref05_Fits.f fitsB
  cases deep
  · rw [if_neg (by simp), if_neg (by simp), refFree_val l kp hl hk, Option.bind_some]
  · rw [if_pos rfl, if_pos rfl, refFree_val l kp hl hk, Option.bind_some]
theorem new_val (n kp : Int) : ∃ l r, heap_New.f n kp = some (l, r, (if n < 1 ∨ n > 2000 ∨ kp < 0 ∨ kp > n then 1 else 0)) ∧ assartref05_New.f n kp = some (l, r, (if n < 1 ∨ n > 2000 ∨ kp < 0 ∨ kp > n then 1 else 0)) ∧ l.length ≤ 2000 ∧ ∀ x ∈ l, x.f2.f1.length = 0 := by
  unfold heap_New.f assartref05_New.f
  by_cases h1 : n < 1
  · exact ⟨[], 0, by rw [if_pos h1, if_pos (.inl h1)], by rw [if_pos h1, if_pos (.inl h1)], by simp, by simp⟩
  rw [if_neg h1]
  by_cases h2 : n > 2000
  · exact ⟨[], 0, by rw [if_pos h2, if_pos (.inr (.inl h2))], by rw [if_pos h2, if_pos (.inr (.inl h2))], by simp, by simp⟩
  rw [if_neg h2]
  by_cases h3 : kp < 0
  · exact ⟨[], 0, by rw [if_pos h3, if_pos (.inr (.inr (.inl h3)))], by rw [if_pos h3, if_pos (.inr (.inr (.inl h3)))], by simp, by simp⟩
  rw [if_neg h3]
  by_cases h4 : kp > n
  · exact ⟨[], 0, by rw [if_pos h4, if_pos (.inr (.inr (.inr h4)))], by rw [if_pos h4, if_pos (.inr (.inr (.inr h4)))], by simp, by simp⟩
  rw [if_neg h4, if_neg (show ¬ (n < 1 ∨ n > 2000 ∨ kp < 0 ∨ kp > n) by omega)]
  exact ⟨List.replicate n.toNat z55, kp, by rw [if_pos (by omega), if_pos (by omega)], by rw [if_pos (by omega), if_pos (by omega)], by rw [List.length_replicate]; omega, fun x hx => by rw [List.eq_of_mem_replicate hx]; rfl⟩
theorem small_items {l : List S55} (h : smallF l 0) : ∀ x ∈ l, x.f2.f1.length ≤ 10 ∧ x.f0 ≤ 1000000 := fun x hx => by
  obtain ⟨i, hi, rfl⟩ := List.mem_iff_getElem.1 hx
  have := h i hi (Nat.zero_le _)
  simp only [It, Rf] at this
  rw [rd55_at hi] at this
  exact this
theorem small_val (l : List S55) (kp : Int) {k : Nat} (hk : 100 ≤ k) : assartref05_Small.f k l kp 60 = some (decide (l.length ≤ 60 ∧ smallF l 0)) := by
  unfold assartref05_Small.f
  by_cases h1 : (l.length : Int) > 60
  · rw [if_pos h1, decide_eq_false (fun h => by have := h.1; omega)]
  · rw [if_neg h1]
    have := small_l0 l kp (by omega) l.length k 0 (by omega) (by omega)
    rw [show ((0 : Nat) : Int) = 0 from rfl] at this
    rw [this]
    congr 1
    rw [decide_eq_decide]
    exact ⟨fun h => ⟨by omega, h⟩, fun h => h.2⟩
end Go.Proofs.Yteiladccdenpbaa.P
end
section
namespace Go.Proofs.Yteiladccdenpbaa.P
open Go.RowKit Go.Proofs.Yteiladccdenpbaa.P Go.Proofs.YteiladccdenpbaaW.PrintWords Go.Proofs.YteiladccdenpbaaW.PrintLast
theorem HeapTells_j2 (l : List S55) (kp n : Int) (hl : l.length ≤ 60) (b : Bool) (k : Nat) (hk : 100 ≤ k) : assartlaw05_HeapTells.j2 k n true b false l kp = some true := by
  obtain ⟨k, rfl⟩ : ∃ m, k = m + 1 := ⟨k - 1, by omega⟩
  simp only [assartlaw05_HeapTells.j2]
  rw [if_neg (by simp)]
  cases b
  · simp
  · simp only [if_true]
    rw [free_val l kp (by omega) (by omega), Option.bind_some, refFree_val l kp (by omega) (by omega), Option.bind_some, if_pos rfl, fits_val5 l kp n false (by omega) (by omega), Option.bind_some, refFits_val l kp n false (by omega) (by omega), Option.bind_some, if_pos (by simp), fits_val5 l kp n true (by omega) (by omega), Option.bind_some, refFits_val l kp n true (by omega) (by omega), Option.bind_some]
    simp
theorem HeapTells_val (l : List S55) (kp : Int) (m : List S55) (kp2 n kp3 : Int) : assartlaw05_HeapTells.g 10000 l kp m kp2 n kp3 = some true := by
  unfold assartlaw05_HeapTells.g assartlaw05_shown.f
  have hj0 : ∀ k : Nat, 1 ≤ k → assartlaw05_HeapTells.j0 k n kp3 true true l kp m kp2 = some true := fun k hk => by
    obtain ⟨k, rfl⟩ : ∃ m, k = m + 1 := ⟨k - 1, by omega⟩
    simp only [assartlaw05_HeapTells.j0]
    simp
  rw [Option.bind_some, small_val l kp (by omega), Option.bind_some]
  by_cases h1 : l.length ≤ 60 ∧ smallF l 0
  · rw [if_pos (decide_eq_true h1), small_val m kp2 (by omega), Option.bind_some]
    by_cases h2 : m.length ≤ 60 ∧ smallF m 0
    · rw [decide_eq_true h2]
      have i1 := fun x hx => (small_items h1.2 x hx).1
      have i2 := fun x hx => (small_items h2.2 x hx).1
      simp only [assartlaw05_HeapTells.j0]
      obtain ⟨ln, r, e1, e2, hln, hi⟩ := new_val n kp3
      rw [if_neg (by simp), e1, Option.bind_some, e2, Option.bind_some, right05_val l kp _ (.inl (by omega)), Option.bind_some]
      simp only []
      rw [refSame_val ln ln r r (by omega) (fun x hx => by rw [hi x hx]; omega) (by omega), Option.bind_some, if_pos (by simp), if_pos trivial, hright_val l kp (by omega) (fun x hx => by have := i1 x hx; omega), Option.bind_some, bne_self_eq_false]
      simp only [assartlaw05_HeapTells.j1]
      rw [if_neg (by simp)]
      by_cases h3 : decide (heapR l kp) = true
      · rw [if_pos h3, right05_val m kp2 _ (.inl (by omega)), Option.bind_some]
        by_cases h4 : decide (heapR m kp2) = true
        · rw [if_pos h4, same_val l m kp kp2 (by omega) (by omega) (fun x hx => by have := i1 x hx; omega), Option.bind_some, refSame_val l m kp kp2 (by omega) (fun x hx => by have := i1 x hx; omega) (by omega), Option.bind_some, bne_self_eq_false]
          exact HeapTells_j2 l kp n h1.1 _ _ (by omega)
        · rw [if_neg h4]
          exact HeapTells_j2 l kp n h1.1 _ _ (by omega)
      · rw [if_neg h3]
        exact HeapTells_j2 l kp n h1.1 _ _ (by omega)
    · rw [decide_eq_false h2]
      exact hj0 _ (by omega)
  · rw [if_neg (by simpa using h1)]
    exact hj0 _ (by omega)
end Go.Proofs.Yteiladccdenpbaa.P
end
section
namespace Go.Proofs.Yteiladccdenpbaa.P
open Go.RowKit Go.Proofs.YteiladccdenpbaaW.PrintWords Go.Proofs.YteiladccdenpbaaW.PrintLast Go.Proofs.YteiladccdenpbaaW.PrintMore
set_option linter.unusedVariables false
def assartlaw05_HeapTells.f (k : Nat) (l0_0 : List (S55)) (a0_1 : Int) (l0_2 : List (S55)) (a0_3 : Int) (a0_4 : Int) (a0_5 : Int) : Option (Bool) := some true
theorem assartlaw05_HeapTells.calls (k : Nat) (A0_0 : Option Addr) (c0_0 : Nat) (l0_0 : List (S55)) (a0_1 : Int) (A0_2 : Option Addr) (c0_2 : Nat) (l0_2 : List (S55)) (a0_3 : Int) (a0_4 : Int) (a0_5 : Int) (r : Bool) (w : World) (hr0_0 : Kd.C k55 w A0_0 l0_0.length l0_0) (hc0_0 : l0_0.length ≤ c0_0) (hr0_2 : Kd.C k55 w A0_2 l0_2.length l0_2) (hc0_2 : l0_2.length ≤ c0_2) (h : assartlaw05_HeapTells.f k l0_0 a0_1 l0_2 a0_3 a0_4 a0_5 = some r) :
    Calls Try.prog 9 #[.agg #[.slice A0_0 l0_0.length c0_0, .int .i64 a0_1, .slice A0_2 l0_2.length c0_2, .int .i64 a0_3, .int .i64 a0_4, .int .i64 a0_5]] w fun e w' => e = .returned (.bool r) ∧ Below w.heap.size w w' := by
  obtain rfl := Option.some.inj h
  exact assartlaw05_HeapTells.walk 10000 A0_0 c0_0 l0_0 a0_1 A0_2 c0_2 l0_2 a0_3 a0_4 a0_5 true w hr0_0 hc0_0 hr0_2 hc0_2 (HeapTells_val l0_0 a0_1 l0_2 a0_3 a0_4 a0_5) rfl
end Go.Proofs.Yteiladccdenpbaa.P
end
section
namespace Go.Proofs.Yteiladccdenpbaa.P
open Go.RowKit Go.Proofs.YteiladccdenpbaaW.PrintWords Go.Proofs.YteiladccdenpbaaW.PrintLast Go.Proofs.YteiladccdenpbaaW.PrintMore
set_option linter.unusedVariables false
set_option linter.unusedSimpArgs false
structure Opens {α : Type} (P : Program) (t : TypeId) (d : Kd α) (ok : α → Prop) : Prop where
  sz : P.cellsOf t = d.sz
  op : ∀ {H : Type} {enc : TypeId × Value → H} {W : World} {base : Nat} {spare : Nat → Bool} {held : Bool} {fuel : Nat} {cs : List Value} {y : DataW H × List MemPlace}, DataW.trod enc P W base spare held fuel t cs = some y → (DataW.weights P t y.1).all (· ≤ reachBytes) = true → ∃ x, d.K W x cs ∧ ok x
theorem Opens.int {P : Program} {t : TypeId} {k : IntKind} (h : P.underlying t = some (.int k)) (hs : P.cellsOf t = 1) : Opens P t (Kd.int k) (fun n => (Lit.int k n).wf = true) :=
  ⟨hs, fun hy _ => by
    obtain ⟨n, rfl, _, hw⟩ := DataW.trod_int h hy
    exact ⟨n, rfl, hw⟩⟩
theorem Opens.bool {P : Program} {t : TypeId} (h : P.underlying t = some .bool) (hs : P.cellsOf t = 1) : Opens P t Kd.bool (fun _ => True) :=
  ⟨hs, fun hy _ => by
    obtain ⟨b, rfl, _⟩ := DataW.trod_bool h hy
    exact ⟨b, rfl, trivial⟩⟩
theorem choose_row {α : Type} {R : Nat → α → Prop} : ∀ n, (∀ i, i < n → ∃ x, R i x) → ∃ xs : List α, xs.length = n ∧ ∀ i x, xs[i]? = some x → R i x
  | 0, _ => ⟨[], rfl, fun i x h => by simp at h⟩
  | n + 1, h => by
    obtain ⟨xs, hl, hx⟩ := choose_row n (fun i hi => h i (by omega))
    obtain ⟨x, hr⟩ := h n (by omega)
    refine ⟨xs ++ [x], by simp [hl], fun i z hz => ?_⟩
    by_cases hi : i < n
    · rw [List.getElem?_append_left (by omega)] at hz
      exact hx i z hz
    · rw [List.getElem?_append_right (by omega)] at hz
      have : i - xs.length = 0 := by
        rcases Nat.eq_zero_or_pos (i - xs.length) with h0 | h0
        · exact h0
        · rw [List.getElem?_eq_none (by simp; omega)] at hz; cases hz
      rw [this] at hz
      simp at hz
      subst hz
      have : i = n := by omega
      rw [this]; exact hr
theorem weightsAll_mem {H : Type} {P : Program} {e : TypeId} : ∀ {ds : List (DataW H)}, (DataW.weightsAll P e ds).all (· ≤ reachBytes) = true → ∀ d ∈ ds, (DataW.weights P e d).all (· ≤ reachBytes) = true
  | [], _, d, hd => by cases hd
  | a :: ds, h, d, hd => by
    simp only [DataW.weightsAll, List.all_append, Bool.and_eq_true] at h
    rcases List.mem_cons.1 hd with rfl | hd
    · exact h.1
    · exact weightsAll_mem h.2 d hd
theorem Opens.slice {α : Type} {P : Program} {t e : TypeId} {d : Kd α} {ok : α → Prop} {B : Nat} (h : P.underlying t = some (.slice e)) (hs : P.cellsOf t = 1) (hB : P.bytesOf e = B) (he : Opens P e d ok) : Opens P t (Kd.slice e d) (fun xs => xs.length * B ≤ 140737488351232 ∧ ∀ x ∈ xs, ok x) :=
  ⟨hs, fun {H enc W base spare held fuel cs y} hy hw => by
    rcases DataW.trod_slice h hy with ⟨rfl, rfl⟩ | ⟨a, len, cap, elems, rest, n, rfl, rfl, rfl, hb, hl, hc, hel, hi, _, _⟩
    · exact ⟨[], ⟨none, 0, rfl, Nat.le_refl _, Kd.C_nil _ _⟩, by simp⟩
    · unfold DataW.weights at hw
      rw [h] at hw
      simp only [List.all_cons, List.all_append, Bool.and_eq_true, decide_eq_true_eq, hB, List.length_map] at hw
      obtain ⟨hw0, hw1, _⟩ := hw
      have hx : ∀ i, i < len → ∃ x, ok x ∧ ∃ c, c.length = d.sz ∧ d.K W x c ∧ W.cells? base (a.add (i * d.sz)) d.sz = some c := by
        intro i hlt
        have h1 := hi i hlt
        rw [List.getElem?_eq_getElem (by omega)] at h1
        obtain ⟨c, hc1, hc2⟩ := Option.bind_eq_some_iff.1 h1
        obtain ⟨x, hK, hok⟩ := he.op hc2 (weightsAll_mem hw1 _ (List.mem_map_of_mem (List.getElem_mem _)))
        rw [he.sz] at hc1
        exact ⟨x, hok, c, d.K_len hK, hK, hc1⟩
      obtain ⟨xs, hxl, hxs⟩ := choose_row len hx
      refine ⟨xs, ⟨some a, cap, by rw [hxl], by omega, rfl, ?_, fun hpos => ⟨a, rfl, fun j p hj => ?_⟩⟩, ?_, ?_⟩
      · simp only [maxLen] at hc; omega
      · obtain ⟨_, c, hcl, hK, hcc⟩ := hxs j p hj
        refine ⟨c, hcl, hK, fun i u hu => ?_⟩
        obtain ⟨_, _, hcell⟩ := World.cells?_some hcc
        have hi : i < d.sz := by rw [← hcl]; exact (List.getElem?_eq_some_iff.1 hu).1
        have := hcell i hi
        rw [Addr.add_add] at this
        rw [this, hu]
      · rw [hxl, ← hel]
        refine Nat.le_trans (Nat.mul_le_mul_right _ (Nat.le_add_right _ _)) hw0
      · intro x hx
        obtain ⟨i, hlt, rfl⟩ := List.getElem_of_mem hx
        exact (hxs i _ (List.getElem?_eq_getElem hlt)).1⟩
theorem weights_at {H : Type} {P : Program} : ∀ {ts : List TypeId} {ds : List (DataW H)} {j : Nat} {t : TypeId} {d : DataW H}, (DataW.weightsEach P ts ds).all (· ≤ reachBytes) = true → ts[j]? = some t → ds[j]? = some d → (DataW.weights P t d).all (· ≤ reachBytes) = true
  | [], _, _, _, _, _, ht, _ => by simp at ht
  | _ :: _, [], _, _, _, _, _, hd => by simp at hd
  | t0 :: ts, d0 :: ds, 0, _, _, h, ht, hd => by
    simp only [List.getElem?_cons_zero, Option.some.injEq] at ht hd
    subst ht; subst hd
    simp only [DataW.weightsEach, List.all_append, Bool.and_eq_true] at h
    exact h.1
  | t0 :: ts, d0 :: ds, j + 1, _, _, h, ht, hd => by
    simp only [List.getElem?_cons_succ] at ht hd
    simp only [DataW.weightsEach, List.all_append, Bool.and_eq_true] at h
    exact weights_at h.2 ht hd
structure OpensFs {α : Type} (P : Program) (fs : List Field) (off : Nat) (d : Kd α) (ok : α → Prop) : Prop where
  op : ∀ {H : Type} {enc : TypeId × Value → H} {W : World} {base : Nat} {spare : Nat → Bool} {held : Bool} {fuel : Nat} {cs : List Value} {ys : List (DataW H × List MemPlace)},
    (∀ (i : Nat) (f : Field), fs[i]? = some f → DataW.trod enc P W base spare held fuel f.type ((cs.drop f.offset).take (P.cellsOf f.type)) = ys[i]?) → ys.length = fs.length →
    (DataW.weightsEach P (fs.map (·.type)) (ys.map (·.1))).all (· ≤ reachBytes) = true → cs.length = off + d.sz → ∃ x, d.K W x (cs.drop off) ∧ ok x
theorem OpensFs.one {α : Type} {P : Program} {f : Field} {t : TypeId} {off : Nat} {d : Kd α} {ok : α → Prop} (ht : f.type = t) (hoff : f.offset = off) (h : Opens P t d ok) : OpensFs P [f] off d ok :=
  ⟨fun {H enc W base spare held fuel cs ys} hy hl hw hcs => by
    obtain ⟨y, rfl⟩ : ∃ y, ys = [y] := by
      cases ys with
      | nil => simp at hl
      | cons y ys => cases ys with
        | nil => exact ⟨y, rfl⟩
        | cons => simp at hl
    have h0 := hy 0 f rfl
    simp only [List.getElem?_cons_zero] at h0
    simp only [List.map_cons, List.map_nil, DataW.weightsEach, List.append_nil] at hw
    rw [ht] at h0 hw
    obtain ⟨x, hK, hok⟩ := h.op h0 hw
    rw [hoff, List.take_of_length_le (by rw [List.length_drop, h.sz]; omega)] at hK
    exact ⟨x, hK, hok⟩⟩
theorem OpensFs.cons {α β : Type} {P : Program} {f : Field} {fs : List Field} {t : TypeId} {off n : Nat} {d : Kd α} {d' : Kd β} {ok : α → Prop} {ok' : β → Prop} (ht : f.type = t) (hoff : f.offset = off) (h : Opens P t d ok) (hn : off + d.sz = n) (hr : OpensFs P fs n d' ok') :
    OpensFs P (f :: fs) off (Kd.pair d d') (fun x => ok x.1 ∧ ok' x.2) :=
  ⟨fun {H enc W base spare held fuel cs ys} hy hl hw hcs => by
    cases ys with
    | nil => simp at hl
    | cons y ys =>
      have h0 := hy 0 f rfl
      simp only [List.getElem?_cons_zero] at h0
      simp only [List.map_cons, DataW.weightsEach, List.all_append, Bool.and_eq_true] at hw
      have hw0 := hw.1
      rw [ht] at h0 hw0
      obtain ⟨x, hK, hok⟩ := h.op h0 hw0
      have hsz : (Kd.pair d d').sz = d.sz + d'.sz := rfl
      rw [hsz] at hcs
      obtain ⟨x', hK', hok'⟩ := hr.op (fun i g hg => hy (i + 1) g (by simpa using hg)) (by simpa using hl) hw.2 (by omega)
      refine ⟨(x, x'), ⟨_, _, ?_, hK, hK'⟩, hok, hok'⟩
      rw [hoff, h.sz, ← hn, ← List.drop_drop]
      exact (List.take_append_drop _ _).symm⟩
theorem Opens.struct {α β : Type} {P : Program} {t : TypeId} {fs : Array Field} {fl : List Field} {d : Kd α} {ok : α → Prop} (f : β → α) (g : α → β) (hfg : ∀ x, f (g x) = x) (h : P.underlying t = some (.struct fs)) (hfl : fs.toList = fl) (hs : P.cellsOf t = d.sz) (ho : OpensFs P fl 0 d ok) :
    Opens P t (Kd.iso d f) (fun x => ok (f x)) :=
  ⟨hs, fun {H enc W base spare held fuel cs y} hy hw => by
    obtain ⟨xs, n, rfl, rfl, hcl, hxl, hx⟩ := DataW.trod_struct h hy
    unfold DataW.weights at hw
    rw [h] at hw
    simp only [hfl] at hw
    subst hfl
    obtain ⟨x, hK, hok⟩ := ho.op (ys := xs) (fun i f hf => hx i f (by simpa using hf)) (by simpa using hxl) hw (by omega)
    rw [List.drop_zero] at hK
    refine ⟨g x, ?_, ?_⟩
    · show d.K W (f (g x)) cs
      rw [hfg]; exact hK
    · rw [hfg]; exact hok⟩
end Go.Proofs.Yteiladccdenpbaa.P
end
