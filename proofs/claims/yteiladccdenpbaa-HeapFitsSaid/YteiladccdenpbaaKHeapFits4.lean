/- Texts of this claim's proof put together: HShown5, HHeapFits, PTr, PHeap1, PureHeapFitsV, CHeapFits, HRow, QHeapFits, PureHeapFits, LawHeapFits. -/
import Derived.Below
import Derived.Deep.Draws
import Derived.Deep.AppendLies
import Derived.Maps.AppendAt
import Derived.OwnWalk
import Derived.Laws.BytesArg
import Derived.Laws.MakeOwn
import Derived.Laws.OwnMore
import Derived.Deep.OwnRows
import Derived.Tactics
import Derived.Lib.ConvBytes
import Derived.Laws.Slices
import Derived.WalkKit
import Derived.KernelRfl
import Derived.RowKit3
import Derived.Deep.LoopGhost
import Derived.Deep.QuietTactic
import Derived.BigQuiet
import Derived.WideLaws
import Derived.Deep.DeepCutAuto
import Derived.Deep.CutBlock
import Derived.Deep.RegionHeld3
import Derived.Laws.Rows
import Derived.Lib.AppendStr
import Derived.ArgAppend
import Derived.Laws.IdiomCopy
import Derived.RowKit
import Derived.OrdersHeld
import Derived.Laws.BitsLemmas
import Derived.Laws.StructEq
import Derived.Test.YteiladccdenpbaaProg
import Derived.Shelf.RegionOpenPlain
import Derived.Shelf.Abstract
import Derived.Laws.CopyOwn
import Derived.Lib.SlBuf
import Derived.ChangeArms
import Derived.DataReads
import Derived.DataElems
import Derived.SizedLaws
import Derived.Test.YteiladccdenpbaaRows
import Derived.ProofKit
import Derived.OpenShut
import Derived.ShutString
import Derived.ChangeOld
import Derived.Test.YteiladccdenpbaaKHeapFits0
import Derived.Test.YteiladccdenpbaaKHeapFits1
import Derived.Test.YteiladccdenpbaaKHeapFits2
import Derived.Test.YteiladccdenpbaaKHeapFits3
namespace Foot
end Foot
namespace Go.Proofs.Yteiladccdenpbaa
end Go.Proofs.Yteiladccdenpbaa
namespace Go.Proofs.Yteiladccdenpbaa.P
end Go.Proofs.Yteiladccdenpbaa.P
namespace Go.Proofs.Yteiladccdenpbaa.Pure
end Go.Proofs.Yteiladccdenpbaa.Pure
namespace Go.Proofs.Yteiladccdenpbaa.heapFits
end Go.Proofs.Yteiladccdenpbaa.heapFits
namespace Go.Proofs.YteiladccdenpbaaW.PrintLast
end Go.Proofs.YteiladccdenpbaaW.PrintLast
namespace Go.Proofs.YteiladccdenpbaaW.PrintMore
end Go.Proofs.YteiladccdenpbaaW.PrintMore
namespace Go.Proofs.YteiladccdenpbaaW.PrintWords
end Go.Proofs.YteiladccdenpbaaW.PrintWords
namespace Kd
end Kd
section
namespace Go.Proofs.Yteiladccdenpbaa.P
open Go.RowKit Go.Proofs.YteiladccdenpbaaW.PrintWords Go.Proofs.YteiladccdenpbaaW.PrintLast Go.Proofs.YteiladccdenpbaaW.PrintMore
set_option linter.unusedVariables false
set_option linter.unusedSimpArgs false
theorem V_true {α : Type} {d : Kd α} (hd : Kd.Heap d) {e base c : Nat} {W : World} {A : Option Addr} {xs : List α} (hl : xs.length ≤ c) (h : d.C W A xs.length xs) : Kd.V d e W base (fun _ => True) (.slice A xs.length c) xs :=
  Kd.V_mk hl (fun W' hW => hd.C (fun k hk => hW k trivial hk) h)
theorem lit49 (W : World) (k v : Int) : Kd.C k49 (W.alloc (.cells #[.int .i64 k, .int .i64 v] 49)) (some ⟨W.heap.size, 0, none⟩) 1 [⟨k, v⟩] := by
  refine ⟨rfl, by omega, fun _ => ⟨_, rfl, fun j p hj => ?_⟩⟩
  match j, hj with
  | 0, hj =>
    simp at hj
    subst hj
    refine ⟨_, rfl, k49_mk _ _, fun i u hu => ?_⟩
    rw [add_g, blk_cell (alloc_new W _)]
    match i, hu with
    | 0, hu => simpa using hu
    | 1, hu => simpa using hu
    | i + 2, hu => simp at hu
  | j + 1, hj => simp at hj
def s5a : List S55 := [⟨1, false, ⟨true, [⟨1, 2⟩]⟩⟩, z55]
def s5b : List S55 := [⟨2, false, ⟨true, [⟨1, 2⟩]⟩⟩, ⟨1, false, ⟨false, [⟨1, 0⟩]⟩⟩]
def s5c : List S55 := [⟨1, false, ⟨true, [⟨1, 2⟩]⟩⟩, ⟨0, true, ⟨false, []⟩⟩]
def s5d : List S55 := [⟨2, false, ⟨true, [⟨1, 2⟩]⟩⟩, z55]
theorem s5_new : heap_New.f 2 1 = some ([z55, z55], 1, 0) := by kernel_rfl
theorem s5_a : heap_Alloc.f [z55, z55] 1 true [⟨1, 2⟩] [] = some (s5a, 1, 0, 0) := by kernel_rfl
theorem s5_b : heap_Alloc.f s5a 1 false [⟨1, 0⟩] [] = some (s5b, 1, 1, 0) := by kernel_rfl
theorem s5_c : heap_Loose.f s5b 1 1 = some (s5c, 1, 0) := by kernel_rfl
theorem s5_d : heap_Hold.f s5a 1 0 = some (s5d, 1, 0) := by kernel_rfl
theorem s5_f1 : heap_Fits.f 10 [z55, z55] 1 1 false = some true := by kernel_rfl
theorem s5_f2 : heap_Fits.f 10 [z55, z55] 1 2 false = some false := by kernel_rfl
theorem s5_f3 : heap_Fits.f 10 [z55, z55] 1 2 true = some true := by kernel_rfl
theorem s5_f4 : heap_Free.f 10 s5a 1 = some 1 := by kernel_rfl
theorem s5_s : heap_Settle.f s5c 1 = some (s5c.map fun x => ⟨x.f0, false, x.f2⟩, 1) := by kernel_rfl
theorem s5_f5 : heap_Free.f 10 (s5c.map fun x => ⟨x.f0, false, x.f2⟩) 1 = some 1 := by kernel_rfl
theorem s5_r : heap_Right.f s5b 1 = some true := by kernel_rfl
theorem s5_e : heap_Same.f s5a 1 s5d 1 = some false := by kernel_rfl
def assartlaw05_shown.f : Option Bool := some true
set_option maxHeartbeats 8000000 in
set_option maxRecDepth 100000 in
theorem assartlaw05_shown.calls (r : Bool) (w : World) (h : assartlaw05_shown.f = some r) : Calls Try.prog 33 #[] w fun e w' => e = .returned (.bool r) ∧ Below w.heap.size w w' := by
  obtain rfl := Option.some.inj h
  clear h
  have hu24 := Try.underlying24
  have hu43 := Try.underlying43
  have hu53 := Try.underlying53
  have hu55 := Try.underlying55
  go_enter Try.func33, Try.ntmps33
  go_wp2_with fail
  have hpre : Below w.heap.size w w := Below.refl w.heap.size w
  refine (heap_New.calls 2 1 _ _ _ w s5_new).mono ?_
  rintro e w1 ⟨v1, rfl, hv, hb⟩
  obtain ⟨A1, c1, ev⟩ := Kd.V_slice (Kd.S_V (base' := 0) hv)
  replace ev : v1 = .slice A1 2 c1 := ev
  subst ev
  have HB1 : Aside0 (Below w.heap.size w w1) := ⟨hpre.trans (hb.mono hpre.size)⟩
  have HVh : Aside0 (Kd.V k55 55 w1 0 (fun _ => True) (.slice A1 2 c1) [z55, z55]) := ⟨Kd.V_mono (Kd.S_V hv) (fun _ _ => trivial)⟩
  clear hpre hb hv
  go_wp2_with fail
  have hpre : Below w1.heap.size w1 ((w1.alloc (.cells #[.slice A1 2 c1, .int .i64 1] 24)).alloc (.cells #[.int .i64 1, .int .i64 2] 49)) := ((Below.refl w1.heap.size w1).alloc (Nat.le_refl _) _).alloc (by simp) _
  have KXh : Aside0 (((w1.alloc (.cells #[.slice A1 2 c1, .int .i64 1] 24)).alloc (.cells #[.int .i64 1, .int .i64 2] 49)).heap[w1.heap.size]? = some (.cells #[.slice A1 2 c1, .int .i64 1] 24 (0, 0))) := by
    have hn := alloc_new w1 (.cells #[.slice A1 2 c1, .int .i64 1] 24)
    (try simp only [World.size_alloc] at hn)
    exact ⟨blk_alloc (hn) _⟩
  refine (heap_Alloc.calls (fun _ => True) A1 c1 [z55, z55] 1 true (fun _ => True) (some ⟨w1.heap.size + 1, 0, none⟩) 1 [⟨1, 2⟩] none 0 [] s5a 1 _ 0 _ (Kd.V_below HVh.out hpre) (V_true k49_heap (Nat.le_refl _) (by have hl := lit49 (w1.alloc (.cells #[.slice A1 2 c1, .int .i64 1] 24)) 1 2; (try simp only [World.size_alloc] at hl); exact hl)) (Kd.C_nil _ _) (Nat.le_refl _) s5_a).mono ?_
  rintro e w2 ⟨v2, rfl, hv, hb⟩
  obtain ⟨A2, c2, ev⟩ := Kd.V_slice hv
  replace ev : v2 = .slice A2 2 c2 := ev
  subst ev
  have HB2 : Aside0 (Below w.heap.size w w2) := ⟨(HB1.out.trans (hpre.mono HB1.out.size)).trans (hb.mono (Nat.le_trans HB1.out.size hpre.size))⟩
  replace KXh := Aside0.mk (blk_below KXh.out hb)
  replace HVh := Aside0.mk (Kd.V_below (Kd.V_below HVh.out hpre) hb)
  have HVa : Aside0 (Kd.V k55 55 w2 0 (fun _ => True) (.slice A2 2 c2) s5a) := ⟨Kd.V_mono (hv) (fun _ _ => trivial)⟩
  clear hpre hb hv HB1
  go_wp2_with fail
  have hpre : Below w2.heap.size w2 ((w2.alloc (.cells #[.slice A2 2 c2, .int .i64 1] 24)).alloc (.cells #[.int .i64 1, .int .i64 0] 49)) := ((Below.refl w2.heap.size w2).alloc (Nat.le_refl _) _).alloc (by simp) _
  have KXa : Aside0 (((w2.alloc (.cells #[.slice A2 2 c2, .int .i64 1] 24)).alloc (.cells #[.int .i64 1, .int .i64 0] 49)).heap[w2.heap.size]? = some (.cells #[.slice A2 2 c2, .int .i64 1] 24 (0, 0))) := by
    have hn := alloc_new w2 (.cells #[.slice A2 2 c2, .int .i64 1] 24)
    (try simp only [World.size_alloc] at hn)
    exact ⟨blk_alloc (hn) _⟩
  refine (heap_Alloc.calls (fun _ => True) A2 c2 s5a 1 false (fun _ => True) (some ⟨w2.heap.size + 1, 0, none⟩) 1 [⟨1, 0⟩] none 0 [] s5b 1 _ 0 _ (Kd.V_below HVa.out hpre) (V_true k49_heap (Nat.le_refl _) (by have hl := lit49 (w2.alloc (.cells #[.slice A2 2 c2, .int .i64 1] 24)) 1 0; (try simp only [World.size_alloc] at hl); exact hl)) (Kd.C_nil _ _) (Nat.le_refl _) s5_b).mono ?_
  rintro e w3 ⟨v3, rfl, hv, hb⟩
  obtain ⟨A3, c3, ev⟩ := Kd.V_slice hv
  replace ev : v3 = .slice A3 2 c3 := ev
  subst ev
  have HB3 : Aside0 (Below w.heap.size w w3) := ⟨(HB2.out.trans (hpre.mono HB2.out.size)).trans (hb.mono (Nat.le_trans HB2.out.size hpre.size))⟩
  replace KXh := Aside0.mk (blk_below (blk_below KXh.out hpre) hb)
  replace KXa := Aside0.mk (blk_below KXa.out hb)
  replace HVh := Aside0.mk (Kd.V_below (Kd.V_below HVh.out hpre) hb)
  replace HVa := Aside0.mk (Kd.V_below (Kd.V_below HVa.out hpre) hb)
  have HVb : Aside0 (Kd.V k55 55 w3 0 (fun _ => True) (.slice A3 2 c3) s5b) := ⟨Kd.V_mono (hv) (fun _ _ => trivial)⟩
  clear hpre hb hv HB2
  go_wp2_with fail
  have hpre : Below w3.heap.size w3 (w3.alloc (.cells #[.slice A3 2 c3, .int .i64 1] 24)) := (Below.refl w3.heap.size w3).alloc (Nat.le_refl _) _
  have KXb : Aside0 ((w3.alloc (.cells #[.slice A3 2 c3, .int .i64 1] 24)).heap[w3.heap.size]? = some (.cells #[.slice A3 2 c3, .int .i64 1] 24 (0, 0))) := by
    have hn := alloc_new w3 (.cells #[.slice A3 2 c3, .int .i64 1] 24)
    (try simp only [World.size_alloc] at hn)
    exact ⟨hn⟩
  refine (heap_Loose.calls (fun _ => True) A3 c3 s5b 1 1 s5c 1 0 _ (Kd.V_below HVb.out hpre) s5_c).mono ?_
  rintro e w4 ⟨v4, rfl, hv, hb⟩
  obtain ⟨A4, c4, ev⟩ := Kd.V_slice hv
  replace ev : v4 = .slice A4 2 c4 := ev
  subst ev
  have HB4 : Aside0 (Below w.heap.size w w4) := ⟨(HB3.out.trans (hpre.mono HB3.out.size)).trans (hb.mono (Nat.le_trans HB3.out.size hpre.size))⟩
  replace KXh := Aside0.mk (blk_below (blk_below KXh.out hpre) hb)
  replace KXa := Aside0.mk (blk_below (blk_below KXa.out hpre) hb)
  replace KXb := Aside0.mk (blk_below KXb.out hb)
  replace HVh := Aside0.mk (Kd.V_below (Kd.V_below HVh.out hpre) hb)
  replace HVa := Aside0.mk (Kd.V_below (Kd.V_below HVa.out hpre) hb)
  replace HVb := Aside0.mk (Kd.V_below (Kd.V_below HVb.out hpre) hb)
  have HVc : Aside0 (Kd.V k55 55 w4 0 (fun _ => True) (.slice A4 2 c4) s5c) := ⟨Kd.V_mono (hv) (fun _ _ => trivial)⟩
  clear hpre hb hv HB3
  have xa_0 : w4.cell? ⟨w2.heap.size, 0, none⟩ = some (.slice A2 2 c2) := (blk_cell KXa.out 0).trans rfl
  have xa_1 : w4.cell? ⟨w2.heap.size, 1, none⟩ = some (.int .i64 1) := (blk_cell KXa.out 1).trans rfl
  have la : w2.heap.size < w4.heap.size := (Array.getElem?_eq_some_iff.1 KXa.out).1
  go_wp2_with fail
  clear xa_0 xa_1 la
  have hpre : Below w4.heap.size w4 (w4.alloc (.cells #[.slice A4 2 c4, .int .i64 1] 24)) := (Below.refl w4.heap.size w4).alloc (Nat.le_refl _) _
  have KXc : Aside0 ((w4.alloc (.cells #[.slice A4 2 c4, .int .i64 1] 24)).heap[w4.heap.size]? = some (.cells #[.slice A4 2 c4, .int .i64 1] 24 (0, 0))) := by
    have hn := alloc_new w4 (.cells #[.slice A4 2 c4, .int .i64 1] 24)
    (try simp only [World.size_alloc] at hn)
    exact ⟨hn⟩
  refine (heap_Hold.calls (fun _ => True) A2 c2 s5a 1 0 s5d 1 0 _ (Kd.V_below HVa.out hpre) s5_d).mono ?_
  rintro e w5 ⟨v5, rfl, hv, hb⟩
  obtain ⟨A5, c5, ev⟩ := Kd.V_slice hv
  replace ev : v5 = .slice A5 2 c5 := ev
  subst ev
  have HB5 : Aside0 (Below w.heap.size w w5) := ⟨(HB4.out.trans (hpre.mono HB4.out.size)).trans (hb.mono (Nat.le_trans HB4.out.size hpre.size))⟩
  replace KXh := Aside0.mk (blk_below (blk_below KXh.out hpre) hb)
  replace KXa := Aside0.mk (blk_below (blk_below KXa.out hpre) hb)
  replace KXb := Aside0.mk (blk_below (blk_below KXb.out hpre) hb)
  replace KXc := Aside0.mk (blk_below KXc.out hb)
  replace HVh := Aside0.mk (Kd.V_below (Kd.V_below HVh.out hpre) hb)
  replace HVa := Aside0.mk (Kd.V_below (Kd.V_below HVa.out hpre) hb)
  replace HVb := Aside0.mk (Kd.V_below (Kd.V_below HVb.out hpre) hb)
  replace HVc := Aside0.mk (Kd.V_below (Kd.V_below HVc.out hpre) hb)
  have HVd : Aside0 (Kd.V k55 55 w5 0 (fun _ => True) (.slice A5 2 c5) s5d) := ⟨Kd.V_mono (hv) (fun _ _ => trivial)⟩
  clear hpre hb hv HB4
  have xh_0 : w5.cell? ⟨w1.heap.size, 0, none⟩ = some (.slice A1 2 c1) := (blk_cell KXh.out 0).trans rfl
  have xh_1 : w5.cell? ⟨w1.heap.size, 1, none⟩ = some (.int .i64 1) := (blk_cell KXh.out 1).trans rfl
  have lh : w1.heap.size < w5.heap.size := (Array.getElem?_eq_some_iff.1 KXh.out).1
  go_wp2_with fail
  clear xh_0 xh_1 lh
  have hpre : Below w5.heap.size w5 (w5.alloc (.cells #[.slice A5 2 c5, .int .i64 1] 24)) := (Below.refl w5.heap.size w5).alloc (Nat.le_refl _) _
  have KXd : Aside0 ((w5.alloc (.cells #[.slice A5 2 c5, .int .i64 1] 24)).heap[w5.heap.size]? = some (.cells #[.slice A5 2 c5, .int .i64 1] 24 (0, 0))) := by
    have hn := alloc_new w5 (.cells #[.slice A5 2 c5, .int .i64 1] 24)
    (try simp only [World.size_alloc] at hn)
    exact ⟨hn⟩
  refine (heap_Fits.calls 10 A1 c1 [z55, z55] 1 1 false true _ (Kd.V_reads' (Kd.V_below HVh.out hpre)).2.2 (Kd.V_reads' HVh.out).2.1 s5_f1).mono ?_
  rintro e w6 ⟨rfl, hb⟩
  have HB6 : Aside0 (Below w.heap.size w w6) := ⟨(HB5.out.trans (hpre.mono HB5.out.size)).trans (hb.mono (Nat.le_trans HB5.out.size hpre.size))⟩
  replace KXh := Aside0.mk (blk_below (blk_below KXh.out hpre) hb)
  replace KXa := Aside0.mk (blk_below (blk_below KXa.out hpre) hb)
  replace KXb := Aside0.mk (blk_below (blk_below KXb.out hpre) hb)
  replace KXc := Aside0.mk (blk_below (blk_below KXc.out hpre) hb)
  replace KXd := Aside0.mk (blk_below KXd.out hb)
  replace HVh := Aside0.mk (Kd.V_below (Kd.V_below HVh.out hpre) hb)
  replace HVa := Aside0.mk (Kd.V_below (Kd.V_below HVa.out hpre) hb)
  replace HVb := Aside0.mk (Kd.V_below (Kd.V_below HVb.out hpre) hb)
  replace HVc := Aside0.mk (Kd.V_below (Kd.V_below HVc.out hpre) hb)
  replace HVd := Aside0.mk (Kd.V_below (Kd.V_below HVd.out hpre) hb)
  clear hpre hb HB5
  have xh_0 : w6.cell? ⟨w1.heap.size, 0, none⟩ = some (.slice A1 2 c1) := (blk_cell KXh.out 0).trans rfl
  have xh_1 : w6.cell? ⟨w1.heap.size, 1, none⟩ = some (.int .i64 1) := (blk_cell KXh.out 1).trans rfl
  have lh : w1.heap.size < w6.heap.size := (Array.getElem?_eq_some_iff.1 KXh.out).1
  go_wp2_with fail
  clear xh_0 xh_1 lh
  have hpre : Below w6.heap.size w6 w6 := Below.refl w6.heap.size w6
  refine (heap_Fits.calls 10 A1 c1 [z55, z55] 1 2 false false _ (Kd.V_reads' (Kd.V_below HVh.out hpre)).2.2 (Kd.V_reads' HVh.out).2.1 s5_f2).mono ?_
  rintro e w7 ⟨rfl, hb⟩
  have HB7 : Aside0 (Below w.heap.size w w7) := ⟨(HB6.out.trans (hpre.mono HB6.out.size)).trans (hb.mono (Nat.le_trans HB6.out.size hpre.size))⟩
  replace KXh := Aside0.mk (blk_below (blk_below KXh.out hpre) hb)
  replace KXa := Aside0.mk (blk_below (blk_below KXa.out hpre) hb)
  replace KXb := Aside0.mk (blk_below (blk_below KXb.out hpre) hb)
  replace KXc := Aside0.mk (blk_below (blk_below KXc.out hpre) hb)
  replace KXd := Aside0.mk (blk_below (blk_below KXd.out hpre) hb)
  replace HVh := Aside0.mk (Kd.V_below (Kd.V_below HVh.out hpre) hb)
  replace HVa := Aside0.mk (Kd.V_below (Kd.V_below HVa.out hpre) hb)
  replace HVb := Aside0.mk (Kd.V_below (Kd.V_below HVb.out hpre) hb)
  replace HVc := Aside0.mk (Kd.V_below (Kd.V_below HVc.out hpre) hb)
  replace HVd := Aside0.mk (Kd.V_below (Kd.V_below HVd.out hpre) hb)
  clear hpre hb HB6
  have xh_0 : w7.cell? ⟨w1.heap.size, 0, none⟩ = some (.slice A1 2 c1) := (blk_cell KXh.out 0).trans rfl
  have xh_1 : w7.cell? ⟨w1.heap.size, 1, none⟩ = some (.int .i64 1) := (blk_cell KXh.out 1).trans rfl
  have lh : w1.heap.size < w7.heap.size := (Array.getElem?_eq_some_iff.1 KXh.out).1
  go_wp2_with fail
  clear xh_0 xh_1 lh
  have hpre : Below w7.heap.size w7 w7 := Below.refl w7.heap.size w7
  refine (heap_Fits.calls 10 A1 c1 [z55, z55] 1 2 true true _ (Kd.V_reads' (Kd.V_below HVh.out hpre)).2.2 (Kd.V_reads' HVh.out).2.1 s5_f3).mono ?_
  rintro e w8 ⟨rfl, hb⟩
  have HB8 : Aside0 (Below w.heap.size w w8) := ⟨(HB7.out.trans (hpre.mono HB7.out.size)).trans (hb.mono (Nat.le_trans HB7.out.size hpre.size))⟩
  replace KXh := Aside0.mk (blk_below (blk_below KXh.out hpre) hb)
  replace KXa := Aside0.mk (blk_below (blk_below KXa.out hpre) hb)
  replace KXb := Aside0.mk (blk_below (blk_below KXb.out hpre) hb)
  replace KXc := Aside0.mk (blk_below (blk_below KXc.out hpre) hb)
  replace KXd := Aside0.mk (blk_below (blk_below KXd.out hpre) hb)
  replace HVh := Aside0.mk (Kd.V_below (Kd.V_below HVh.out hpre) hb)
  replace HVa := Aside0.mk (Kd.V_below (Kd.V_below HVa.out hpre) hb)
  replace HVb := Aside0.mk (Kd.V_below (Kd.V_below HVb.out hpre) hb)
  replace HVc := Aside0.mk (Kd.V_below (Kd.V_below HVc.out hpre) hb)
  replace HVd := Aside0.mk (Kd.V_below (Kd.V_below HVd.out hpre) hb)
  clear hpre hb HB7
  have xa_0 : w8.cell? ⟨w2.heap.size, 0, none⟩ = some (.slice A2 2 c2) := (blk_cell KXa.out 0).trans rfl
  have xa_1 : w8.cell? ⟨w2.heap.size, 1, none⟩ = some (.int .i64 1) := (blk_cell KXa.out 1).trans rfl
  have la : w2.heap.size < w8.heap.size := (Array.getElem?_eq_some_iff.1 KXa.out).1
  go_wp2_with fail
  clear xa_0 xa_1 la
  have hpre : Below w8.heap.size w8 w8 := Below.refl w8.heap.size w8
  refine (heap_Free.calls 10 A2 c2 s5a 1 1 _ (Kd.V_reads' (Kd.V_below HVa.out hpre)).2.2 (Kd.V_reads' HVa.out).2.1 s5_f4).mono ?_
  rintro e w9 ⟨rfl, hb⟩
  have HB9 : Aside0 (Below w.heap.size w w9) := ⟨(HB8.out.trans (hpre.mono HB8.out.size)).trans (hb.mono (Nat.le_trans HB8.out.size hpre.size))⟩
  replace KXh := Aside0.mk (blk_below (blk_below KXh.out hpre) hb)
  replace KXa := Aside0.mk (blk_below (blk_below KXa.out hpre) hb)
  replace KXb := Aside0.mk (blk_below (blk_below KXb.out hpre) hb)
  replace KXc := Aside0.mk (blk_below (blk_below KXc.out hpre) hb)
  replace KXd := Aside0.mk (blk_below (blk_below KXd.out hpre) hb)
  replace HVh := Aside0.mk (Kd.V_below (Kd.V_below HVh.out hpre) hb)
  replace HVa := Aside0.mk (Kd.V_below (Kd.V_below HVa.out hpre) hb)
  replace HVb := Aside0.mk (Kd.V_below (Kd.V_below HVb.out hpre) hb)
  replace HVc := Aside0.mk (Kd.V_below (Kd.V_below HVc.out hpre) hb)
  replace HVd := Aside0.mk (Kd.V_below (Kd.V_below HVd.out hpre) hb)
  clear hpre hb HB8
  obtain ⟨bd, bA, bc, rfl, b0, -⟩ := at_T55 (Kd.V_reads' HVb.out).2.2 0 (by decide) (by decide)
  obtain ⟨cd, cA, cc, rfl, c0, -⟩ := at_T55 (Kd.V_reads' HVc.out).2.2 0 (by decide) (by decide)
  obtain ⟨cd', cA', cc', e', c0', c1', -⟩ := at_T55 (Kd.V_reads' HVc.out).2.2 1 (by decide) (by decide)
  cases e'
  replace b0 : w9.cell? bd = some (.int .i64 2) := by rw [show (0 : Int).toNat * 4 = 0 from rfl, Addr.add_zero'] at b0; exact b0
  replace c0 : w9.cell? cd = some (.int .i64 1) := by rw [show (0 : Int).toNat * 4 = 0 from rfl, Addr.add_zero'] at c0; exact c0
  replace c1' : w9.cell? ⟨cd.block, cd.off + 4 + 1, none⟩ = some (.bool true) := c1'
  clear c0'
  have xb_0 : w9.cell? ⟨w3.heap.size, 0, none⟩ = some (.slice (some bd) 2 c3) := (blk_cell KXb.out 0).trans rfl
  have xb_1 : w9.cell? ⟨w3.heap.size, 1, none⟩ = some (.int .i64 1) := (blk_cell KXb.out 1).trans rfl
  have lb : w3.heap.size < w9.heap.size := (Array.getElem?_eq_some_iff.1 KXb.out).1
  have xc_0 : w9.cell? ⟨w4.heap.size, 0, none⟩ = some (.slice (some cd) 2 c4) := (blk_cell KXc.out 0).trans rfl
  have xc_1 : w9.cell? ⟨w4.heap.size, 1, none⟩ = some (.int .i64 1) := (blk_cell KXc.out 1).trans rfl
  have lc : w4.heap.size < w9.heap.size := (Array.getElem?_eq_some_iff.1 KXc.out).1
  go_wp2_with fail
  clear xb_0 xb_1 lb xc_0 xc_1 lc
  have hpre : Below w9.heap.size w9 w9 := Below.refl w9.heap.size w9
  refine (heap_Settle.calls (fun _ => True) (some cd) c4 s5c 1 _ 1 _ (Kd.V_below HVc.out hpre) s5_s).mono ?_
  rintro e w10 ⟨v10, rfl, hv, hb⟩
  obtain ⟨A10, c10, ev⟩ := Kd.V_slice hv
  replace ev : v10 = .slice A10 2 c10 := ev
  subst ev
  have HB10 : Aside0 (Below w.heap.size w w10) := ⟨(HB9.out.trans (hpre.mono HB9.out.size)).trans (hb.mono (Nat.le_trans HB9.out.size hpre.size))⟩
  replace KXh := Aside0.mk (blk_below (blk_below KXh.out hpre) hb)
  replace KXa := Aside0.mk (blk_below (blk_below KXa.out hpre) hb)
  replace KXb := Aside0.mk (blk_below (blk_below KXb.out hpre) hb)
  replace KXc := Aside0.mk (blk_below (blk_below KXc.out hpre) hb)
  replace KXd := Aside0.mk (blk_below (blk_below KXd.out hpre) hb)
  replace HVh := Aside0.mk (Kd.V_below (Kd.V_below HVh.out hpre) hb)
  replace HVa := Aside0.mk (Kd.V_below (Kd.V_below HVa.out hpre) hb)
  replace HVb := Aside0.mk (Kd.V_below (Kd.V_below HVb.out hpre) hb)
  replace HVc := Aside0.mk (Kd.V_below (Kd.V_below HVc.out hpre) hb)
  replace HVd := Aside0.mk (Kd.V_below (Kd.V_below HVd.out hpre) hb)
  have HVs : Aside0 (Kd.V k55 55 w10 0 (fun _ => True) (.slice A10 2 c10) (s5c.map fun x => (⟨x.f0, false, x.f2⟩ : S55))) := ⟨Kd.V_mono (hv) (fun _ _ => trivial)⟩
  clear hpre hb hv HB9
  go_wp2_with fail
  have hpre : Below w10.heap.size w10 w10 := Below.refl w10.heap.size w10
  refine (heap_Free.calls 10 A10 c10 (s5c.map fun x => (⟨x.f0, false, x.f2⟩ : S55)) 1 1 _ (Kd.V_reads' (Kd.V_below HVs.out hpre)).2.2 (Kd.V_reads' HVs.out).2.1 s5_f5).mono ?_
  rintro e w11 ⟨rfl, hb⟩
  have HB11 : Aside0 (Below w.heap.size w w11) := ⟨(HB10.out.trans (hpre.mono HB10.out.size)).trans (hb.mono (Nat.le_trans HB10.out.size hpre.size))⟩
  replace KXh := Aside0.mk (blk_below (blk_below KXh.out hpre) hb)
  replace KXa := Aside0.mk (blk_below (blk_below KXa.out hpre) hb)
  replace KXb := Aside0.mk (blk_below (blk_below KXb.out hpre) hb)
  replace KXc := Aside0.mk (blk_below (blk_below KXc.out hpre) hb)
  replace KXd := Aside0.mk (blk_below (blk_below KXd.out hpre) hb)
  replace HVh := Aside0.mk (Kd.V_below (Kd.V_below HVh.out hpre) hb)
  replace HVa := Aside0.mk (Kd.V_below (Kd.V_below HVa.out hpre) hb)
  replace HVb := Aside0.mk (Kd.V_below (Kd.V_below HVb.out hpre) hb)
  replace HVc := Aside0.mk (Kd.V_below (Kd.V_below HVc.out hpre) hb)
  replace HVd := Aside0.mk (Kd.V_below (Kd.V_below HVd.out hpre) hb)
  replace HVs := Aside0.mk (Kd.V_below (Kd.V_below HVs.out hpre) hb)
  clear hpre hb HB10
  have xb_0 : w11.cell? ⟨w3.heap.size, 0, none⟩ = some (.slice (some bd) 2 c3) := (blk_cell KXb.out 0).trans rfl
  have xb_1 : w11.cell? ⟨w3.heap.size, 1, none⟩ = some (.int .i64 1) := (blk_cell KXb.out 1).trans rfl
  have lb : w3.heap.size < w11.heap.size := (Array.getElem?_eq_some_iff.1 KXb.out).1
  go_wp2_with fail
  clear xb_0 xb_1 lb
  have hpre : Below w11.heap.size w11 w11 := Below.refl w11.heap.size w11
  refine (heap_Right.calls (some bd) c3 s5b 1 true _ (Kd.V_reads' (Kd.V_below HVb.out hpre)).2.2 (Kd.V_reads' HVb.out).2.1 s5_r).mono ?_
  rintro e w12 ⟨rfl, hb⟩
  have HB12 : Aside0 (Below w.heap.size w w12) := ⟨(HB11.out.trans (hpre.mono HB11.out.size)).trans (hb.mono (Nat.le_trans HB11.out.size hpre.size))⟩
  replace KXh := Aside0.mk (blk_below (blk_below KXh.out hpre) hb)
  replace KXa := Aside0.mk (blk_below (blk_below KXa.out hpre) hb)
  replace KXb := Aside0.mk (blk_below (blk_below KXb.out hpre) hb)
  replace KXc := Aside0.mk (blk_below (blk_below KXc.out hpre) hb)
  replace KXd := Aside0.mk (blk_below (blk_below KXd.out hpre) hb)
  replace HVh := Aside0.mk (Kd.V_below (Kd.V_below HVh.out hpre) hb)
  replace HVa := Aside0.mk (Kd.V_below (Kd.V_below HVa.out hpre) hb)
  replace HVb := Aside0.mk (Kd.V_below (Kd.V_below HVb.out hpre) hb)
  replace HVc := Aside0.mk (Kd.V_below (Kd.V_below HVc.out hpre) hb)
  replace HVd := Aside0.mk (Kd.V_below (Kd.V_below HVd.out hpre) hb)
  replace HVs := Aside0.mk (Kd.V_below (Kd.V_below HVs.out hpre) hb)
  clear hpre hb HB11
  have xa_0 : w12.cell? ⟨w2.heap.size, 0, none⟩ = some (.slice A2 2 c2) := (blk_cell KXa.out 0).trans rfl
  have xa_1 : w12.cell? ⟨w2.heap.size, 1, none⟩ = some (.int .i64 1) := (blk_cell KXa.out 1).trans rfl
  have la : w2.heap.size < w12.heap.size := (Array.getElem?_eq_some_iff.1 KXa.out).1
  have xd_0 : w12.cell? ⟨w5.heap.size, 0, none⟩ = some (.slice A5 2 c5) := (blk_cell KXd.out 0).trans rfl
  have xd_1 : w12.cell? ⟨w5.heap.size, 1, none⟩ = some (.int .i64 1) := (blk_cell KXd.out 1).trans rfl
  have ld : w5.heap.size < w12.heap.size := (Array.getElem?_eq_some_iff.1 KXd.out).1
  go_wp2_with fail
  clear xa_0 xa_1 la xd_0 xd_1 ld
  have hpre : Below w12.heap.size w12 w12 := Below.refl w12.heap.size w12
  refine (heap_Same.calls A2 c2 s5a 1 A5 c5 s5d 1 false _ (Kd.V_reads' (Kd.V_below HVa.out hpre)).2.2 (Kd.V_reads' HVa.out).2.1 (Kd.V_reads' (Kd.V_below HVd.out hpre)).2.2 (Kd.V_reads' HVd.out).2.1 s5_e).mono ?_
  rintro e w13 ⟨rfl, hb⟩
  have HB13 : Aside0 (Below w.heap.size w w13) := ⟨(HB12.out.trans (hpre.mono HB12.out.size)).trans (hb.mono (Nat.le_trans HB12.out.size hpre.size))⟩
  replace KXh := Aside0.mk (blk_below (blk_below KXh.out hpre) hb)
  replace KXa := Aside0.mk (blk_below (blk_below KXa.out hpre) hb)
  replace KXb := Aside0.mk (blk_below (blk_below KXb.out hpre) hb)
  replace KXc := Aside0.mk (blk_below (blk_below KXc.out hpre) hb)
  replace KXd := Aside0.mk (blk_below (blk_below KXd.out hpre) hb)
  replace HVh := Aside0.mk (Kd.V_below (Kd.V_below HVh.out hpre) hb)
  replace HVa := Aside0.mk (Kd.V_below (Kd.V_below HVa.out hpre) hb)
  replace HVb := Aside0.mk (Kd.V_below (Kd.V_below HVb.out hpre) hb)
  replace HVc := Aside0.mk (Kd.V_below (Kd.V_below HVc.out hpre) hb)
  replace HVd := Aside0.mk (Kd.V_below (Kd.V_below HVd.out hpre) hb)
  replace HVs := Aside0.mk (Kd.V_below (Kd.V_below HVs.out hpre) hb)
  clear hpre hb HB12
  go_wp2
  go_ret
  exact ⟨rfl, HB13.out⟩
end Go.Proofs.Yteiladccdenpbaa.P
end
section
namespace Go.Proofs.Yteiladccdenpbaa.P
open Go.RowKit Go.Proofs.YteiladccdenpbaaW.PrintWords Go.Proofs.YteiladccdenpbaaW.PrintLast Go.Proofs.YteiladccdenpbaaW.PrintMore
attribute [local go_sem] max2_int min2_int max_two min_two max_three min_three max_four min_four
set_option linter.unusedVariables false
set_option linter.unusedSimpArgs false
mutual
def assartlaw05_HeapFits.j0 : Nat → Int → Bool → Bool → List (S55) → Int → Bool → List (S49) → Option (Bool)
  | 0, _, _, _, _, _, _, _ => none
  | k + 1, x1, x7, x34, x382000, x382001, x383000, x383001 => if x34 = true then (some x7) else (assartlaw05_HeapFits.l0 k x1 x7 0 0 0 x382000 x382001 x383000 x383001)
def assartlaw05_HeapFits.l0 : Nat → Int → Bool → Int → Int → Int → List (S55) → Int → Bool → List (S49) → Option (Bool)
  | 0, _, _, _, _, _, _, _, _, _ => none
  | k + 1, x1, x7, x8, x9, x10, x382000, x382001, x383000, x383001 => if x10 < (x382000.length : Int) then (if 0 ≤ x10 then (if ((rd_T55 x382000 x10).f0) = 0 then (if ((rd_T55 x382000 x10).f1 = true) then (assartlaw05_HeapFits.l0 k x1 x7 x8 (wrap64 (x9 + 1)) (wrap64 (x10 + 1)) x382000 x382001 x383000 x383001) else (assartlaw05_HeapFits.l0 k x1 x7 (wrap64 (x8 + 1)) (wrap64 (x9 + 1)) (wrap64 (x10 + 1)) x382000 x382001 x383000 x383001)) else (assartlaw05_HeapFits.l0 k x1 x7 x8 x9 (wrap64 (x10 + 1)) x382000 x382001 x383000 x383001)) else (none)) else ((heap_Alloc.f x382000 x382001 x383000 x383001 ([] : List Int)).bind fun bt388 => ((heap_Settle.f x382000 x382001).bind fun bt395 => (if x7 = true then ((heap_Free.f k x382000 x382001).bind fun t400 => (if t400 = x8 then ((heap_Fits.f k x382000 x382001 x1 true).bind fun t401 => (if (t401 == (decide (x1 ≤ x8))) = true then ((heap_Fits.f k x382000 x382001 x1 false).bind fun t402 => (if (t402 == (decide (x1 ≤ (wrap64 (x8 - x382001))))) = true then ((heap_Fits.f k x382000 x382001 1 true).bind fun t403 => (if ((bt388.2.2.2 == 0) == t403) = true then ((heap_Free.f k bt395.1 bt395.2).bind fun t404 => (if t404 = x9 then ((assartref05_Right.f k bt395.1 bt395.2).bind fun t405 => (if t405 = true then ((heap_Settle.f bt395.1 bt395.2).bind fun bt406 => ((assartref05_Same.f k bt406.1 bt406.2 bt395.1 bt395.2).bind fun t410 => (some t410))) else (some false))) else (some false))) else (some false))) else (some false))) else (some false))) else (some false))) else (some false))))
end
def assartlaw05_HeapFits.g (k : Nat) (l0_0 : List (S55)) (a0_1 : Int) (a1 : Int) (a2_0 : Bool) (l2_1 : List (S49)) : Option (Bool) := (assartlaw05_shown.f).bind fun t383 => ((assartref05_May.f k l0_0 a0_1 60).bind fun t384 => (if t384 = true then (if (l2_1.length : Int) > 10 then (assartlaw05_HeapFits.j0 k a1 t383 true l0_0 a0_1 a2_0 l2_1) else (if a2_0 = true then ((assartref04_Right.f k a2_0 l2_1).bind fun t385 => (assartlaw05_HeapFits.j0 k a1 t383 (!t385) l0_0 a0_1 a2_0 l2_1)) else (assartlaw05_HeapFits.j0 k a1 t383 true l0_0 a0_1 a2_0 l2_1))) else (assartlaw05_HeapFits.j0 k a1 t383 true l0_0 a0_1 a2_0 l2_1)))
def assartlaw05_HeapFits.T15 : Bool × List (List Nat × List Nat) := (true, [([], []), ([0], [0]), ([1], [1]), ([2, 1, 1], [1, 2]), ([1], [1]), ([3, 4, 1], [1, 3, 4]), ([1, 5], [1, 5]), ([6, 3], [6]), ([7], [7]), ([7], [7]), ([8, 9, 7, 7], [7, 8, 9]), ([7], [7]), ([7], [7]), ([11, 12, 7], [7, 11, 12]), ([10, 13, 7], [7, 10, 13]), ([7, 14], [7, 14]), ([15, 10], [15]), ([16], [16]), ([16], [16]), ([17, 18, 16, 16], [16, 17, 18]), ([16], [16]), ([16], [16]), ([16], [16]), ([22, 16], [16, 22]), ([21, 23, 16], [16, 21, 23]), ([20, 24, 16], [16, 20, 24]), ([19, 25, 16], [16, 19, 25]), ([16, 26], [16, 26]), ([27, 19], [27]), ([28], [28]), ([29, 28], [28, 29]), ([28], [28]), ([31, 28, 28], [28, 31]), ([30, 32, 28], [28, 30, 32]), ([28, 33], [28, 33]), ([34, 32], [34]), ([35], [35]), ([36, 35, 35], [35, 36]), ([35], [35]), ([37, 38, 35], [35, 37, 38]), ([35, 39], [35, 39]), ([40, 37], [40]), ([41], [41]), ([42, 41, 41], [41, 42]), ([41, 43], [41, 43]), ([44, 43], [44]), ([45], [45]), ([46, 45, 45], [45, 46]), ([45], [45]), ([47, 48, 47, 45], [45, 47, 48]), ([45, 49], [45, 49]), ([50, 49, 0, 1, 2, 3, 4, 5, 6, 7, 8, 9, 10, 11, 12, 13, 14, 15, 16, 17, 18, 19, 20, 21, 22, 23, 24, 25, 26, 27, 28, 29, 30, 31, 32, 33, 34, 35, 36, 37, 38, 39, 40, 41, 42, 43, 44, 45, 46, 47, 48, 49, 50], [50])])
def assartlaw05_HeapFits.B15 : List Nat := [0, 1, 3, 7, 3, 31, 63, 127, 255, 255, 1023, 255, 255, 6399, 16383, 32767, 65535, 131071, 131071, 524287, 131071, 131071, 131071, 4325375, 14811135, 32636927, 67108863, 134217727, 268435455, 536870911, 1073741823, 536870911, 2684354559, 8589934591, 17179869183, 34359738367, 68719476735, 137438953471, 68719476735, 549755813887, 1099511627775, 2199023255551, 4398046511103, 8796093022207, 17592186044415, 35184372088831, 70368744177663, 140737488355327, 70368744177663, 562949953421311, 1125899906842623, 2251799813685247]
theorem assartlaw05_HeapFits.tab15 : rtab .any (opsOf Try.f12 15) = assartlaw05_HeapFits.T15 := by kernel_rfl
theorem assartlaw05_HeapFits.bits15 : waitsOk assartlaw05_HeapFits.T15.2 assartlaw05_HeapFits.B15 = true := by kernel_rfl
set_option maxHeartbeats 8000000 in
set_option maxRecDepth 100000 in
theorem assartlaw05_HeapFits.walk (k : Nat) (A0_0 : Option Addr) (c0_0 : Nat) (l0_0 : List (S55)) (a0_1 : Int) (a1 : Int) (a2_0 : Bool) (A2_1 : Option Addr) (c2_1 : Nat) (l2_1 : List (S49)) (r : Bool) (w : World) (hr0_0 : Kd.C k55 w A0_0 l0_0.length l0_0) (hc0_0 : l0_0.length ≤ c0_0) (hr2_1 : Kd.C k49 w A2_1 l2_1.length l2_1) (hc2_1 : l2_1.length ≤ c2_1) (h : assartlaw05_HeapFits.g k l0_0 a0_1 a1 a2_0 l2_1 = some r) (hr : r = true) :
    Calls Try.prog 12 #[.agg #[.slice A0_0 l0_0.length c0_0, .int .i64 a0_1], .int .i64 a1, .agg #[.bool a2_0, .slice A2_1 l2_1.length c2_1]] w fun e w' => e = .returned (.bool r) ∧ Below w.heap.size w w' := by
  have hu24 := Try.underlying24
  have hu53 := Try.underlying53
  have HR0_0 := Aside0.mk hr0_0
  have HC0_0 := Aside0.mk hc0_0
  clear hr0_0 hc0_0
  have HR2_1 := Aside0.mk hr2_1
  have HC2_1 := Aside0.mk hc2_1
  clear hr2_1 hc2_1
  have HB := Aside0.mk (Below.refl w.heap.size w)
  have H : ((assartlaw05_shown.f).bind fun t383 => ((assartref05_May.f k l0_0 a0_1 60).bind fun t384 => (if t384 = true then (if (l2_1.length : Int) > 10 then (assartlaw05_HeapFits.j0 k a1 t383 true l0_0 a0_1 a2_0 l2_1) else (if a2_0 = true then ((assartref04_Right.f k a2_0 l2_1).bind fun t385 => (assartlaw05_HeapFits.j0 k a1 t383 (!t385) l0_0 a0_1 a2_0 l2_1)) else (assartlaw05_HeapFits.j0 k a1 t383 true l0_0 a0_1 a2_0 l2_1))) else (assartlaw05_HeapFits.j0 k a1 t383 true l0_0 a0_1 a2_0 l2_1)))) = some r := h
  clear h
  replace H := Option.bind_eq_some_iff.mp H
  obtain ⟨t383, A40, H⟩ := H
  replace H : ((assartref05_May.f k l0_0 a0_1 60).bind fun t384 => (if t384 = true then (if (l2_1.length : Int) > 10 then (assartlaw05_HeapFits.j0 k a1 t383 true l0_0 a0_1 a2_0 l2_1) else (if a2_0 = true then ((assartref04_Right.f k a2_0 l2_1).bind fun t385 => (assartlaw05_HeapFits.j0 k a1 t383 (!t385) l0_0 a0_1 a2_0 l2_1)) else (assartlaw05_HeapFits.j0 k a1 t383 true l0_0 a0_1 a2_0 l2_1))) else (assartlaw05_HeapFits.j0 k a1 t383 true l0_0 a0_1 a2_0 l2_1))) = some r := H
  have A4 := Aside0.mk A40
  clear A40
  have HC5 := Aside0.mk H
  clear H
  go_enter Try.func12, Try.ntmps12
  go_upto_region 2 with (first | ((with_reducible refine gate_dst (N := 3) rfl ?_); (try (refine gate_guard (by rfl) ?_; dsimp only)); refine box_event ?hg (N := 3) ?hd (cs := #[.slice A0_0 l0_0.length c0_0, .int .i64 a0_1]) (t := 24) ?hr ?_; (case hd => rfl); (case hg => rfl); (case hr => first | (go_simp; done) | (go_simp; rfl)); intro gb381 hg w6 hbox hb; have n0_ := Aside0.mk (below_step (by repeat (first | (with_reducible first | exact HB.out | apply below_alloc | apply pw_below_drewN | apply below_drew1) | exact HB.out)) hb); have n1_ := Aside0.mk (hbox); have n2_ := Aside0.mk ((by rw [hg]; exact (below_size (by repeat (first | (with_reducible first | exact HB.out | apply below_alloc | apply pw_below_drewN | apply below_drew1) | exact HB.out))) : w.heap.size ≤ gb381)); have n3_ := Aside0.mk ((by rw [hg]; exact (below_size (by repeat (first | (with_reducible first | exact HB.out | apply below_alloc | apply pw_below_drewN | apply below_drew1) | exact HB.out))) : w.heap.size ≤ gb381)); clear HB; have HB := n0_; have BK381 := n1_; have GW381 := n2_; have GE381 := n3_; clear n0_ n1_ n2_ n3_; clear hb hbox hg) | ((with_reducible refine gate_dst (N := 5) rfl ?_); (try (refine gate_guard (by rfl) ?_; dsimp only)); refine box_event ?hg (N := 5) ?hd (cs := #[.bool a2_0, .slice A2_1 l2_1.length c2_1]) (t := 53) ?hr ?_; (case hd => rfl); (case hg => rfl); (case hr => first | (go_simp; done) | (go_simp; rfl)); intro gb382 hg w7 hbox hb; have n0_ := Aside0.mk (blk_below (g := gb381) (o := .cells #[.slice A0_0 l0_0.length c0_0, .int .i64 a0_1] 24 (0, 0)) (by (with_reducible repeat (first | refine blk_drewN ?_ _ | refine blk_drew ?_ | refine blk_alloc ?_ _)); exact BK381.out) hb); have n1_ := Aside0.mk (below_step (by repeat (first | (with_reducible first | exact HB.out | apply below_alloc | apply pw_below_drewN | apply below_drew1 | refine below_set ?_ GE381.out) | exact HB.out)) hb); have n2_ := Aside0.mk (hbox); have n3_ := Aside0.mk ((by rw [hg]; exact (below_size (by repeat (first | (with_reducible first | exact HB.out | apply below_alloc | apply pw_below_drewN | apply below_drew1 | refine below_set ?_ GE381.out) | exact HB.out))) : w.heap.size ≤ gb382)); have n4_ := Aside0.mk ((by rw [hg]; exact (below_size (by repeat (first | (with_reducible first | exact HB.out | apply below_alloc | apply pw_below_drewN | apply below_drew1 | refine below_set ?_ GE381.out) | exact HB.out))) : w.heap.size ≤ gb382)); have n5_ := Aside0.mk ((by rw [hg]; exact Nat.ne_of_lt (blk_lt (g := gb381) (o := .cells #[.slice A0_0 l0_0.length c0_0, .int .i64 a0_1] 24 (0, 0)) (by (with_reducible repeat (first | refine blk_drewN ?_ _ | refine blk_drew ?_ | refine blk_alloc ?_ _)); exact BK381.out)) : gb381 ≠ gb382)); have n6_ := Aside0.mk ((by rw [hg]; exact Nat.ne_of_gt (blk_lt (g := gb381) (o := .cells #[.slice A0_0 l0_0.length c0_0, .int .i64 a0_1] 24 (0, 0)) (by (with_reducible repeat (first | refine blk_drewN ?_ _ | refine blk_drew ?_ | refine blk_alloc ?_ _)); exact BK381.out)) : gb382 ≠ gb381)); clear BK381; clear HB; have BK381 := n0_; have HB := n1_; have BK382 := n2_; have GW382 := n3_; have GE382 := n4_; have NB381_382 := n5_; have NB382_381 := n6_; clear n0_ n1_ n2_ n3_ n4_ n5_ n6_; clear hb hbox hg) | ((with_reducible refine gate_callee (f := 33) rfl ?_); refine goesL_ (some 15) rfl rfl Try.func33 (by kernel_rfl) rfl #[] rfl (by (try simp only [List.map_toArray, List.map_cons, List.map_nil]); first | done | rfl | (simp only [List.length_drop, List.length_take]; rfl)) ?_; (with_reducible refine (assartlaw05_shown.calls  t383 _ A4.out).mono ?_); rintro e w8 ⟨rfl, hb⟩; refine ⟨_, rfl, ?_⟩; have n0_ := Aside0.mk (blk_below (g := gb381) (o := .cells #[.slice A0_0 l0_0.length c0_0, .int .i64 a0_1] 24 (0, 0)) (by (with_reducible repeat (first | refine blk_drewN ?_ _ | refine blk_drew ?_ | refine blk_alloc ?_ _)); exact BK381.out) hb); have n1_ := Aside0.mk (blk_below (g := gb382) (o := .cells #[.bool a2_0, .slice A2_1 l2_1.length c2_1] 53 (0, 0)) (by (with_reducible repeat (first | refine blk_drewN ?_ _ | refine blk_drew ?_ | refine blk_alloc ?_ _)); exact BK382.out) hb); have n2_ := Aside0.mk (below_step (by repeat (first | (with_reducible first | exact HB.out | apply below_alloc | apply pw_below_drewN | apply below_drew1 | refine below_set ?_ GE381.out | refine below_set ?_ GE382.out) | exact HB.out)) hb); clear BK381; clear BK382; clear HB; have BK381 := n0_; have BK382 := n1_; have HB := n2_; clear n0_ n1_ n2_; (try clear hb); (try clear hb2); (try clear hk); (try clear hi)))
  (try simp only [Act.put, List.setIfInBounds_toArray, List.set_cons_zero, List.set_cons_succ])
  go_cut [34] (fun v34 wc => ∃ (kq : Nat) (x34_4 : Bool), v34 = .bool x34_4 ∧ Aside0 (assartlaw05_HeapFits.j0 kq a1 t383 x34_4 l0_0 a0_1 a2_0 l2_1 = some r) ∧ Aside0 (kq ≤ k) ∧ Aside0 (wc.heap[gb381]? = some (.cells #[(.slice A0_0 l0_0.length c0_0), .int .i64 a0_1] 24 (0, 0))) ∧ Aside0 (wc.heap[gb382]? = some (.cells #[.bool a2_0, (.slice A2_1 l2_1.length c2_1)] 53 (0, 0))) ∧ Aside0 (Below w.heap.size w wc))
  case first =>
    have H := HC5.out
    clear HC5
    replace H := Option.bind_eq_some_iff.mp H
    obtain ⟨t384, A90, H⟩ := H
    replace H : (if t384 = true then (if (l2_1.length : Int) > 10 then (assartlaw05_HeapFits.j0 k a1 t383 true l0_0 a0_1 a2_0 l2_1) else (if a2_0 = true then ((assartref04_Right.f k a2_0 l2_1).bind fun t385 => (assartlaw05_HeapFits.j0 k a1 t383 (!t385) l0_0 a0_1 a2_0 l2_1)) else (assartlaw05_HeapFits.j0 k a1 t383 true l0_0 a0_1 a2_0 l2_1))) else (assartlaw05_HeapFits.j0 k a1 t383 true l0_0 a0_1 a2_0 l2_1)) = some r := H
    have A9 := Aside0.mk A90
    clear A90
    by_cases c10 : t384 = true
    · subst c10
      have H1 : (if (l2_1.length : Int) > 10 then (assartlaw05_HeapFits.j0 k a1 t383 true l0_0 a0_1 a2_0 l2_1) else (if a2_0 = true then ((assartref04_Right.f k a2_0 l2_1).bind fun t385 => (assartlaw05_HeapFits.j0 k a1 t383 (!t385) l0_0 a0_1 a2_0 l2_1)) else (assartlaw05_HeapFits.j0 k a1 t383 true l0_0 a0_1 a2_0 l2_1))) = some r := by rw [if_pos rfl] at H; exact H
      clear H
      have H := H1
      clear H1
      by_cases c11 : (l2_1.length : Int) > 10
      · rw [if_pos c11] at H
        have c11b0 : decide (10 < (l2_1.length : Int)) = true := decide_eq_true c11
        have c11b1 : decide (10 < l2_1.length) = true := decide_eq_true (by omega)
        clear c11
        (first | rw [c11b0] | (simp only [i64_w, i32_w]; rw [c11b0]) | skip)
        have H' := Aside0.mk H
        clear H
        have hnb12 := NB381_382.out
        have hnc12 := NB382_381.out
        have hcz13_0 : w8.cell? ⟨gb381, 0, none⟩ = some (.slice A0_0 l0_0.length c0_0) := (blk_cell BK381.out 0).trans rfl
        have hcz13_1 : w8.cell? ⟨gb381, 1, none⟩ = some (.int .i64 a0_1) := (blk_cell BK381.out 1).trans rfl
        have hfz13_0 := blk_frozen BK381.out 0
        have hfz13_1 := blk_frozen BK381.out 1
        go_wp2_with (first | ((with_reducible refine gate_callee (f := 16) rfl ?_); refine goesL_ (some 17) rfl rfl Try.func16 (by kernel_rfl) rfl #[.agg #[.slice A0_0 l0_0.length c0_0, .int .i64 a0_1], .int .i64 60] rfl (by (try simp only [List.map_toArray, List.map_cons, List.map_nil]); first | done | rfl | (simp only [List.length_drop, List.length_take]; rfl)) ?_; (with_reducible refine (assartref05_May.calls k _ _ l0_0 a0_1 60 true _ ?side1 ?side2 A9.out).mono ?_); (case side1 => repeat (first | exact (Kd.C_below HR0_0.out HB.out) | (with_reducible refine Kd.C_alloc ?_ _) | (with_reducible refine Kd.C_drewN ?_ _) | (with_reducible refine Kd.C_drew ?_))); (case side2 => exact HC0_0.out); rintro e w14 ⟨rfl, hb⟩; refine ⟨_, rfl, ?_⟩; have n0_ := Aside0.mk (blk_below (g := gb381) (o := .cells #[.slice A0_0 l0_0.length c0_0, .int .i64 a0_1] 24 (0, 0)) (by (with_reducible repeat (first | refine blk_drewN ?_ _ | refine blk_drew ?_ | refine blk_alloc ?_ _)); exact BK381.out) hb); have n1_ := Aside0.mk (blk_below (g := gb382) (o := .cells #[.bool a2_0, .slice A2_1 l2_1.length c2_1] 53 (0, 0)) (by (with_reducible repeat (first | refine blk_drewN ?_ _ | refine blk_drew ?_ | refine blk_alloc ?_ _)); exact BK382.out) hb); have n2_ := Aside0.mk (below_step (by repeat (first | (with_reducible first | exact HB.out | apply below_alloc | apply pw_below_drewN | apply below_drew1 | refine below_set ?_ GE381.out | refine below_set ?_ GE382.out) | exact HB.out)) hb); clear BK381; clear BK382; clear HB; have BK381 := n0_; have BK382 := n1_; have HB := n2_; clear n0_ n1_ n2_; (try clear hb); (try clear hb2); (try clear hk); (try clear hi); have hcz15_0 : w14.cell? ⟨gb382, 0, none⟩ = some (.bool a2_0) := (blk_cell BK382.out 0).trans rfl; have hcz15_1 : w14.cell? ⟨gb382, 1, none⟩ = some (.slice A2_1 l2_1.length c2_1) := (blk_cell BK382.out 1).trans rfl; have hfz15_0 := blk_frozen BK382.out 0; have hfz15_1 := blk_frozen BK382.out 1))
        go_meet
        case rel => exact ⟨_, (true), (by first | rfl | (simp; done) | (simp [*]; done)), H', ⟨by first | omega | exact Nat.le_refl _⟩, ⟨by (with_reducible repeat (first | refine blk_drewN ?_ _ | refine blk_drew ?_ | refine blk_alloc ?_ _)); exact BK381.out⟩, ⟨by (with_reducible repeat (first | refine blk_drewN ?_ _ | refine blk_drew ?_ | refine blk_alloc ?_ _)); exact BK382.out⟩, ⟨by repeat (first | (with_reducible first | exact HB.out | apply below_alloc | apply pw_below_drewN | apply below_drew1 | refine below_set ?_ GE381.out | refine below_set ?_ GE382.out) | exact HB.out)⟩⟩
      · rw [if_neg c11] at H
        have c11b0 : decide (10 < (l2_1.length : Int)) = false := decide_eq_false c11
        have c11b1 : decide (10 < l2_1.length) = false := decide_eq_false (by omega)
        clear c11
        (first | rw [c11b0] | (simp only [i64_w, i32_w]; rw [c11b0]) | skip)
        by_cases c16 : a2_0 = true
        · subst c16
          have H1 : ((assartref04_Right.f k true l2_1).bind fun t385 => (assartlaw05_HeapFits.j0 k a1 t383 (!t385) l0_0 a0_1 true l2_1)) = some r := by rw [if_pos rfl] at H; exact H
          clear H
          have H := H1
          clear H1
          replace H := Option.bind_eq_some_iff.mp H
          obtain ⟨t385, A170, H⟩ := H
          replace H : (assartlaw05_HeapFits.j0 k a1 t383 (!t385) l0_0 a0_1 true l2_1) = some r := H
          have A17 := Aside0.mk A170
          clear A170
          have H' := Aside0.mk H
          clear H
          have hnb18 := NB381_382.out
          have hnc18 := NB382_381.out
          have hcz19_0 : w8.cell? ⟨gb381, 0, none⟩ = some (.slice A0_0 l0_0.length c0_0) := (blk_cell BK381.out 0).trans rfl
          have hcz19_1 : w8.cell? ⟨gb381, 1, none⟩ = some (.int .i64 a0_1) := (blk_cell BK381.out 1).trans rfl
          have hfz19_0 := blk_frozen BK381.out 0
          have hfz19_1 := blk_frozen BK381.out 1
          go_wp2_with (first | ((with_reducible refine gate_callee (f := 16) rfl ?_); refine goesL_ (some 17) rfl rfl Try.func16 (by kernel_rfl) rfl #[.agg #[.slice A0_0 l0_0.length c0_0, .int .i64 a0_1], .int .i64 60] rfl (by (try simp only [List.map_toArray, List.map_cons, List.map_nil]); first | done | rfl | (simp only [List.length_drop, List.length_take]; rfl)) ?_; (with_reducible refine (assartref05_May.calls k _ _ l0_0 a0_1 60 true _ ?side1 ?side2 A9.out).mono ?_); (case side1 => repeat (first | exact (Kd.C_below HR0_0.out HB.out) | (with_reducible refine Kd.C_alloc ?_ _) | (with_reducible refine Kd.C_drewN ?_ _) | (with_reducible refine Kd.C_drew ?_))); (case side2 => exact HC0_0.out); rintro e w20 ⟨rfl, hb⟩; refine ⟨_, rfl, ?_⟩; have n0_ := Aside0.mk (blk_below (g := gb381) (o := .cells #[.slice A0_0 l0_0.length c0_0, .int .i64 a0_1] 24 (0, 0)) (by (with_reducible repeat (first | refine blk_drewN ?_ _ | refine blk_drew ?_ | refine blk_alloc ?_ _)); exact BK381.out) hb); have n1_ := Aside0.mk (blk_below (g := gb382) (o := .cells #[.bool true, .slice A2_1 l2_1.length c2_1] 53 (0, 0)) (by (with_reducible repeat (first | refine blk_drewN ?_ _ | refine blk_drew ?_ | refine blk_alloc ?_ _)); exact BK382.out) hb); have n2_ := Aside0.mk (below_step (by repeat (first | (with_reducible first | exact HB.out | apply below_alloc | apply pw_below_drewN | apply below_drew1 | refine below_set ?_ GE381.out | refine below_set ?_ GE382.out) | exact HB.out)) hb); clear BK381; clear BK382; clear HB; have BK381 := n0_; have BK382 := n1_; have HB := n2_; clear n0_ n1_ n2_; (try clear hb); (try clear hb2); (try clear hk); (try clear hi); have hcz21_0 : w20.cell? ⟨gb382, 0, none⟩ = some (.bool true) := (blk_cell BK382.out 0).trans rfl; have hcz21_1 : w20.cell? ⟨gb382, 1, none⟩ = some (.slice A2_1 l2_1.length c2_1) := (blk_cell BK382.out 1).trans rfl; have hfz21_0 := blk_frozen BK382.out 0; have hfz21_1 := blk_frozen BK382.out 1) | (go_at_call 54; (with_reducible refine (assartref04_Right.calls k true _ _ l2_1 t385 _ ?side1 ?side2 A17.out).mono ?_); (case side1 => repeat (first | exact (Kd.C_below HR2_1.out HB.out) | (with_reducible refine Kd.C_alloc ?_ _) | (with_reducible refine Kd.C_drewN ?_ _) | (with_reducible refine Kd.C_drew ?_))); (case side2 => exact HC2_1.out); rintro e w22 ⟨rfl, hb⟩; have n0_ := Aside0.mk (blk_below (g := gb381) (o := .cells #[.slice A0_0 l0_0.length c0_0, .int .i64 a0_1] 24 (0, 0)) (by (with_reducible repeat (first | refine blk_drewN ?_ _ | refine blk_drew ?_ | refine blk_alloc ?_ _)); exact BK381.out) hb); have n1_ := Aside0.mk (blk_below (g := gb382) (o := .cells #[.bool true, .slice A2_1 l2_1.length c2_1] 53 (0, 0)) (by (with_reducible repeat (first | refine blk_drewN ?_ _ | refine blk_drew ?_ | refine blk_alloc ?_ _)); exact BK382.out) hb); have n2_ := Aside0.mk (below_step (by repeat (first | (with_reducible first | exact HB.out | apply below_alloc | apply pw_below_drewN | apply below_drew1 | refine below_set ?_ GE381.out | refine below_set ?_ GE382.out) | exact HB.out)) hb); clear BK381; clear BK382; clear HB; have BK381 := n0_; have BK382 := n1_; have HB := n2_; clear n0_ n1_ n2_; (try clear hb); (try clear hb2); (try clear hk); (try clear hi)))
          go_meet
          case rel => exact ⟨_, (!t385), (by first | rfl | (simp; done) | (simp [*]; done)), H', ⟨by first | omega | exact Nat.le_refl _⟩, ⟨by (with_reducible repeat (first | refine blk_drewN ?_ _ | refine blk_drew ?_ | refine blk_alloc ?_ _)); exact BK381.out⟩, ⟨by (with_reducible repeat (first | refine blk_drewN ?_ _ | refine blk_drew ?_ | refine blk_alloc ?_ _)); exact BK382.out⟩, ⟨by repeat (first | (with_reducible first | exact HB.out | apply below_alloc | apply pw_below_drewN | apply below_drew1 | refine below_set ?_ GE381.out | refine below_set ?_ GE382.out) | exact HB.out)⟩⟩
        · replace c16 := Bool.eq_false_iff.mpr c16
          subst c16
          have H1 : (assartlaw05_HeapFits.j0 k a1 t383 true l0_0 a0_1 false l2_1) = some r := by rw [if_neg (show ¬ (false = true) by decide)] at H; exact H
          clear H
          have H := H1
          clear H1
          have H' := Aside0.mk H
          clear H
          have hnb23 := NB381_382.out
          have hnc23 := NB382_381.out
          have hcz24_0 : w8.cell? ⟨gb381, 0, none⟩ = some (.slice A0_0 l0_0.length c0_0) := (blk_cell BK381.out 0).trans rfl
          have hcz24_1 : w8.cell? ⟨gb381, 1, none⟩ = some (.int .i64 a0_1) := (blk_cell BK381.out 1).trans rfl
          have hfz24_0 := blk_frozen BK381.out 0
          have hfz24_1 := blk_frozen BK381.out 1
          go_wp2_with (first | ((with_reducible refine gate_callee (f := 16) rfl ?_); refine goesL_ (some 17) rfl rfl Try.func16 (by kernel_rfl) rfl #[.agg #[.slice A0_0 l0_0.length c0_0, .int .i64 a0_1], .int .i64 60] rfl (by (try simp only [List.map_toArray, List.map_cons, List.map_nil]); first | done | rfl | (simp only [List.length_drop, List.length_take]; rfl)) ?_; (with_reducible refine (assartref05_May.calls k _ _ l0_0 a0_1 60 true _ ?side1 ?side2 A9.out).mono ?_); (case side1 => repeat (first | exact (Kd.C_below HR0_0.out HB.out) | (with_reducible refine Kd.C_alloc ?_ _) | (with_reducible refine Kd.C_drewN ?_ _) | (with_reducible refine Kd.C_drew ?_))); (case side2 => exact HC0_0.out); rintro e w25 ⟨rfl, hb⟩; refine ⟨_, rfl, ?_⟩; have n0_ := Aside0.mk (blk_below (g := gb381) (o := .cells #[.slice A0_0 l0_0.length c0_0, .int .i64 a0_1] 24 (0, 0)) (by (with_reducible repeat (first | refine blk_drewN ?_ _ | refine blk_drew ?_ | refine blk_alloc ?_ _)); exact BK381.out) hb); have n1_ := Aside0.mk (blk_below (g := gb382) (o := .cells #[.bool false, .slice A2_1 l2_1.length c2_1] 53 (0, 0)) (by (with_reducible repeat (first | refine blk_drewN ?_ _ | refine blk_drew ?_ | refine blk_alloc ?_ _)); exact BK382.out) hb); have n2_ := Aside0.mk (below_step (by repeat (first | (with_reducible first | exact HB.out | apply below_alloc | apply pw_below_drewN | apply below_drew1 | refine below_set ?_ GE381.out | refine below_set ?_ GE382.out) | exact HB.out)) hb); clear BK381; clear BK382; clear HB; have BK381 := n0_; have BK382 := n1_; have HB := n2_; clear n0_ n1_ n2_; (try clear hb); (try clear hb2); (try clear hk); (try clear hi); have hcz26_0 : w25.cell? ⟨gb382, 0, none⟩ = some (.bool false) := (blk_cell BK382.out 0).trans rfl; have hcz26_1 : w25.cell? ⟨gb382, 1, none⟩ = some (.slice A2_1 l2_1.length c2_1) := (blk_cell BK382.out 1).trans rfl; have hfz26_0 := blk_frozen BK382.out 0; have hfz26_1 := blk_frozen BK382.out 1))
          go_meet
          case rel => exact ⟨_, (true), (by first | rfl | (simp; done) | (simp [*]; done)), H', ⟨by first | omega | exact Nat.le_refl _⟩, ⟨by (with_reducible repeat (first | refine blk_drewN ?_ _ | refine blk_drew ?_ | refine blk_alloc ?_ _)); exact BK381.out⟩, ⟨by (with_reducible repeat (first | refine blk_drewN ?_ _ | refine blk_drew ?_ | refine blk_alloc ?_ _)); exact BK382.out⟩, ⟨by repeat (first | (with_reducible first | exact HB.out | apply below_alloc | apply pw_below_drewN | apply below_drew1 | refine below_set ?_ GE381.out | refine below_set ?_ GE382.out) | exact HB.out)⟩⟩
    · replace c10 := Bool.eq_false_iff.mpr c10
      subst c10
      have H1 : (assartlaw05_HeapFits.j0 k a1 t383 true l0_0 a0_1 a2_0 l2_1) = some r := by rw [if_neg (show ¬ (false = true) by decide)] at H; exact H
      clear H
      have H := H1
      clear H1
      have H' := Aside0.mk H
      clear H
      have hnb27 := NB381_382.out
      have hnc27 := NB382_381.out
      have hcz28_0 : w8.cell? ⟨gb381, 0, none⟩ = some (.slice A0_0 l0_0.length c0_0) := (blk_cell BK381.out 0).trans rfl
      have hcz28_1 : w8.cell? ⟨gb381, 1, none⟩ = some (.int .i64 a0_1) := (blk_cell BK381.out 1).trans rfl
      have hfz28_0 := blk_frozen BK381.out 0
      have hfz28_1 := blk_frozen BK381.out 1
      go_wp2_with (first | ((with_reducible refine gate_callee (f := 16) rfl ?_); refine goesL_ (some 17) rfl rfl Try.func16 (by kernel_rfl) rfl #[.agg #[.slice A0_0 l0_0.length c0_0, .int .i64 a0_1], .int .i64 60] rfl (by (try simp only [List.map_toArray, List.map_cons, List.map_nil]); first | done | rfl | (simp only [List.length_drop, List.length_take]; rfl)) ?_; (with_reducible refine (assartref05_May.calls k _ _ l0_0 a0_1 60 false _ ?side1 ?side2 A9.out).mono ?_); (case side1 => repeat (first | exact (Kd.C_below HR0_0.out HB.out) | (with_reducible refine Kd.C_alloc ?_ _) | (with_reducible refine Kd.C_drewN ?_ _) | (with_reducible refine Kd.C_drew ?_))); (case side2 => exact HC0_0.out); rintro e w29 ⟨rfl, hb⟩; refine ⟨_, rfl, ?_⟩; have n0_ := Aside0.mk (blk_below (g := gb381) (o := .cells #[.slice A0_0 l0_0.length c0_0, .int .i64 a0_1] 24 (0, 0)) (by (with_reducible repeat (first | refine blk_drewN ?_ _ | refine blk_drew ?_ | refine blk_alloc ?_ _)); exact BK381.out) hb); have n1_ := Aside0.mk (blk_below (g := gb382) (o := .cells #[.bool a2_0, .slice A2_1 l2_1.length c2_1] 53 (0, 0)) (by (with_reducible repeat (first | refine blk_drewN ?_ _ | refine blk_drew ?_ | refine blk_alloc ?_ _)); exact BK382.out) hb); have n2_ := Aside0.mk (below_step (by repeat (first | (with_reducible first | exact HB.out | apply below_alloc | apply pw_below_drewN | apply below_drew1 | refine below_set ?_ GE381.out | refine below_set ?_ GE382.out) | exact HB.out)) hb); clear BK381; clear BK382; clear HB; have BK381 := n0_; have BK382 := n1_; have HB := n2_; clear n0_ n1_ n2_; (try clear hb); (try clear hb2); (try clear hk); (try clear hi)))
      go_meet
      case rel => exact ⟨_, (true), (by first | rfl | (simp; done) | (simp [*]; done)), H', ⟨by first | omega | exact Nat.le_refl _⟩, ⟨by (with_reducible repeat (first | refine blk_drewN ?_ _ | refine blk_drew ?_ | refine blk_alloc ?_ _)); exact BK381.out⟩, ⟨by (with_reducible repeat (first | refine blk_drewN ?_ _ | refine blk_drew ?_ | refine blk_alloc ?_ _)); exact BK382.out⟩, ⟨by repeat (first | (with_reducible first | exact HB.out | apply below_alloc | apply pw_below_drewN | apply below_drew1 | refine below_set ?_ GE381.out | refine below_set ?_ GE382.out) | exact HB.out)⟩⟩
  case rest =>
    clear HC5
    try clear c1
    try clear c2
    try clear p2
    try clear c3
    try clear c10
    try clear c11
    try clear c11b0
    try clear c11b1
    try clear c12
    try clear c16
    try clear c18
    try clear c23
    try clear c27
    try clear hcz13_0
    try clear hcz13_1
    try clear hcz15_0
    try clear hcz15_1
    try clear hcz19_0
    try clear hcz19_1
    try clear hcz21_0
    try clear hcz21_1
    try clear hcz24_0
    try clear hcz24_1
    try clear hcz26_0
    try clear hcz26_1
    try clear hcz28_0
    try clear hcz28_1
    try clear hfz13_0
    try clear hfz13_1
    try clear hfz15_0
    try clear hfz15_1
    try clear hfz19_0
    try clear hfz19_1
    try clear hfz21_0
    try clear hfz21_1
    try clear hfz24_0
    try clear hfz24_1
    try clear hfz26_0
    try clear hfz26_1
    try clear hfz28_0
    try clear hfz28_1
    obtain ⟨kq, x34_4, rfl, HA, HJ4, BK381, BK382, HB⟩ := hcut
    cases kq with
    | zero => exact absurd HA.out (by simp [assartlaw05_HeapFits.j0])
    | succ kj4 =>
      have H := HA.out
      clear HA
      simp only [assartlaw05_HeapFits.j0] at H
      by_cases c30 : x34_4 = true
      · subst c30
        have H1 : (some t383) = some r := by rw [if_pos rfl] at H; exact H
        clear H
        have H := H1
        clear H1
        obtain rfl := Option.some.inj H
        go_wp2
        go_ret
        exact ⟨by first | rfl | (simp [errW_none, errW_some] <;> rfl) | (simp [*, errW_none, errW_some] <;> rfl), by repeat (first | (with_reducible first | exact HB.out | apply below_alloc | apply pw_below_drewN | apply below_drew1 | refine below_set ?_ GE381.out | refine below_set ?_ GE382.out) | exact HB.out)⟩
      · replace c30 := Bool.eq_false_iff.mpr c30
        subst c30
        have H1 : (assartlaw05_HeapFits.l0 kj4 a1 t383 0 0 0 l0_0 a0_1 a2_0 l2_1) = some r := by rw [if_neg (show ¬ (false = true) by decide)] at H; exact H
        clear H
        have H := H1
        clear H1
        have H' := Aside0.mk H
        clear H
        go_wp2
        go_loopg [8, 9, 10] kj4 (fun kq v8 v9 v10 w' => ∃ (x8_2 : Int) (x9_2 : Int) (x10_2 : Int), v8 = .int .i64 x8_2 ∧ v9 = .int .i64 x9_2 ∧ v10 = .int .i64 x10_2 ∧ Aside0 (assartlaw05_HeapFits.l0 kq a1 t383 x8_2 x9_2 x10_2 l0_0 a0_1 a2_0 l2_1 = some r) ∧ Aside0 (kq ≤ kj4) ∧ Aside0 (w'.heap[gb381]? = some (.cells #[(.slice A0_0 l0_0.length c0_0), .int .i64 a0_1] 24 (0, 0))) ∧ Aside0 (w'.heap[gb382]? = some (.cells #[.bool a2_0, (.slice A2_1 l2_1.length c2_1)] 53 (0, 0))) ∧ Aside0 (Below w.heap.size w w'))
        case atStart => exact ⟨(0), (0), (0), (by first | rfl | (simp; done) | (simp [*]; done)), (by first | rfl | (simp; done) | (simp [*]; done)), (by first | rfl | (simp; done) | (simp [*]; done)), H', ⟨Nat.le_refl _⟩, ⟨by (with_reducible repeat (first | refine blk_drewN ?_ _ | refine blk_drew ?_ | refine blk_alloc ?_ _)); exact BK381.out⟩, ⟨by (with_reducible repeat (first | refine blk_drewN ?_ _ | refine blk_drew ?_ | refine blk_alloc ?_ _)); exact BK382.out⟩, ⟨by repeat (first | (with_reducible first | exact HB.out | apply below_alloc | apply pw_below_drewN | apply below_drew1 | refine below_set ?_ GE381.out | refine below_set ?_ GE382.out) | exact HB.out)⟩⟩
        case round =>
          clear H'
          try clear c1
          try clear c2
          try clear p2
          try clear c3
          try clear c10
          try clear c11
          try clear c11b0
          try clear c11b1
          try clear c12
          try clear c16
          try clear c18
          try clear c23
          try clear c27
          try clear c30
          try clear hcz13_0
          try clear hcz13_1
          try clear hcz15_0
          try clear hcz15_1
          try clear hcz19_0
          try clear hcz19_1
          try clear hcz21_0
          try clear hcz21_1
          try clear hcz24_0
          try clear hcz24_1
          try clear hcz26_0
          try clear hcz26_1
          try clear hcz28_0
          try clear hcz28_1
          try clear hfz13_0
          try clear hfz13_1
          try clear hfz15_0
          try clear hfz15_1
          try clear hfz19_0
          try clear hfz19_1
          try clear hfz21_0
          try clear hfz21_1
          try clear hfz24_0
          try clear hfz24_1
          try clear hfz26_0
          try clear hfz26_1
          try clear hfz28_0
          try clear hfz28_1
          try clear p2
          obtain ⟨x8_2, x9_2, x10_2, rfl, rfl, rfl, HA, HK2, BK381, BK382, HB⟩ := hrel
          cases gk with
          | zero => exact absurd HA.out (by simp [assartlaw05_HeapFits.l0])
          | succ k2 =>
            have H := HA.out
            clear HA
            simp only [assartlaw05_HeapFits.l0] at H
            by_cases c31 : x10_2 < (l0_0.length : Int)
            · rw [if_pos c31] at H
              have c31b0 : decide (x10_2 < (l0_0.length : Int)) = true := decide_eq_true c31
              clear c31
              by_cases c32 : 0 ≤ x10_2
              · rw [if_pos c32] at H
                have c32b0 : decide (0 ≤ x10_2) = true := decide_eq_true c32
                clear c32
                by_cases c33 : ((rd_T55 l0_0 x10_2).f0) = 0
                · rw [if_pos c33] at H
                  have c33b0 : (((rd_T55 l0_0 x10_2).f0) == 0) = true := beq_iff_eq.mpr c33
                  have c33b1 : (((rd_T55 l0_0 x10_2).f0) != 0) = false := bne_eq_false_iff_eq.mpr c33
                  clear c33
                  obtain ⟨bq34, hbq34⟩ : ∃ b_ : Bool, b_ = ((rd_T55 l0_0 x10_2).f1) := ⟨_, rfl⟩
                  replace H : (if (bq34 = true) then (assartlaw05_HeapFits.l0 k2 a1 t383 x8_2 (wrap64 (x9_2 + 1)) (wrap64 (x10_2 + 1)) l0_0 a0_1 a2_0 l2_1) else (assartlaw05_HeapFits.l0 k2 a1 t383 (wrap64 (x8_2 + 1)) (wrap64 (x9_2 + 1)) (wrap64 (x10_2 + 1)) l0_0 a0_1 a2_0 l2_1)) = some r := by rw [← hbq34] at H; exact H
                  have Nbq34 := Aside0.mk hbq34
                  clear hbq34
                  by_cases c35 : (bq34 = true)
                  · subst c35
                    have H1 : (assartlaw05_HeapFits.l0 k2 a1 t383 x8_2 (wrap64 (x9_2 + 1)) (wrap64 (x10_2 + 1)) l0_0 a0_1 a2_0 l2_1) = some r := by rw [if_pos rfl] at H; exact H
                    clear H
                    have H := H1
                    clear H1
                    have H' := Aside0.mk H
                    clear H
                    have hnb36 := NB381_382.out
                    have hnc36 := NB382_381.out
                    have hcz37_0 : wr.cell? ⟨gb381, 0, none⟩ = some (.slice A0_0 l0_0.length c0_0) := (blk_cell BK381.out 0).trans rfl
                    have hcz37_1 : wr.cell? ⟨gb381, 1, none⟩ = some (.int .i64 a0_1) := (blk_cell BK381.out 1).trans rfl
                    have hfz37_0 := blk_frozen BK381.out 0
                    have hfz37_1 := blk_frozen BK381.out 1
                    have p386 : 0 ≤ (x10_2 : Int) := of_decide_eq_true (by first | (with_reducible assumption) | assumption)
                    have q386 : x10_2 < (l0_0.length : Int) := of_decide_eq_true (by first | (with_reducible assumption) | assumption)
                    obtain ⟨ad386, A386_3, c386_3, e386, hx386_0, hx386_1, hx386_2, hx386_3, hl386_3, hi386_3⟩ := at_T55 HR0_0.out x10_2 p386 q386
                    (try rw [← Nbq34.out] at hx386_1)
                    (try rw [← Nbq34.out] at hx386_2)
                    cases e386
                    replace hx386_0 := (HB.out.cell (World.block_lt_of_cell? w _ hx386_0)).trans hx386_0
                    replace hx386_1 := (HB.out.cell (World.block_lt_of_cell? w _ hx386_1)).trans hx386_1
                    replace hx386_2 := (HB.out.cell (World.block_lt_of_cell? w _ hx386_2)).trans hx386_2
                    replace hx386_3 := (HB.out.cell (World.block_lt_of_cell? w _ hx386_3)).trans hx386_3
                    have HR386_3 := Aside0.mk hi386_3
                    have HC386_3 := Aside0.mk hl386_3
                    clear hi386_3 hl386_3
                    replace p386 := eq_true p386
                    replace q386 := eq_true q386
                    have p387 : 0 ≤ (x10_2 : Int) := of_decide_eq_true (by first | (with_reducible assumption) | assumption)
                    have q387 : x10_2 < (l0_0.length : Int) := of_decide_eq_true (by first | (with_reducible assumption) | assumption)
                    obtain ⟨ad387, A387_3, c387_3, e387, hx387_0, hx387_1, hx387_2, hx387_3, hl387_3, hi387_3⟩ := at_T55 HR0_0.out x10_2 p387 q387
                    (try rw [← Nbq34.out] at hx387_1)
                    (try rw [← Nbq34.out] at hx387_2)
                    obtain rfl : ad386 = ad387 := (by injection e387)
                    replace hx387_0 := (HB.out.cell (World.block_lt_of_cell? w _ hx387_0)).trans hx387_0
                    replace hx387_1 := (HB.out.cell (World.block_lt_of_cell? w _ hx387_1)).trans hx387_1
                    replace hx387_2 := (HB.out.cell (World.block_lt_of_cell? w _ hx387_2)).trans hx387_2
                    replace hx387_3 := (HB.out.cell (World.block_lt_of_cell? w _ hx387_3)).trans hx387_3
                    have HR387_3 := Aside0.mk hi387_3
                    have HC387_3 := Aside0.mk hl387_3
                    clear hi387_3 hl387_3
                    replace p387 := eq_true p387
                    replace q387 := eq_true q387
                    have ea_ := Option.some.inj (hx386_3.symm.trans hx387_3)
                    injection ea_ with ea_ en_ ec_
                    subst ea_
                    subst ec_
                    clear en_
                    go_wp2
                    go_roundg k2
                    case measure => have := HJ4.out; have := HK2.out; omega
                    case rel => exact ⟨(x8_2), (wrap64 (x9_2 + 1)), (wrap64 (x10_2 + 1)), (by first | rfl | (simp; done) | (simp [*]; done)), (by first | rfl | (simp; done) | (simp [*]; done)), (by first | rfl | (simp; done) | (simp [*]; done)), H', ⟨by have := HJ4.out; have := HK2.out; omega⟩, ⟨by (with_reducible repeat (first | refine blk_drewN ?_ _ | refine blk_drew ?_ | refine blk_alloc ?_ _)); exact BK381.out⟩, ⟨by (with_reducible repeat (first | refine blk_drewN ?_ _ | refine blk_drew ?_ | refine blk_alloc ?_ _)); exact BK382.out⟩, ⟨by repeat (first | (with_reducible first | exact HB.out | apply below_alloc | apply pw_below_drewN | apply below_drew1 | refine below_set ?_ GE381.out | refine below_set ?_ GE382.out) | exact HB.out)⟩⟩
                  · replace c35 := Bool.eq_false_iff.mpr c35
                    subst c35
                    have H1 : (assartlaw05_HeapFits.l0 k2 a1 t383 (wrap64 (x8_2 + 1)) (wrap64 (x9_2 + 1)) (wrap64 (x10_2 + 1)) l0_0 a0_1 a2_0 l2_1) = some r := by rw [if_neg (show ¬ (false = true) by decide)] at H; exact H
                    clear H
                    have H := H1
                    clear H1
                    have H' := Aside0.mk H
                    clear H
                    have hnb38 := NB381_382.out
                    have hnc38 := NB382_381.out
                    have hcz39_0 : wr.cell? ⟨gb381, 0, none⟩ = some (.slice A0_0 l0_0.length c0_0) := (blk_cell BK381.out 0).trans rfl
                    have hcz39_1 : wr.cell? ⟨gb381, 1, none⟩ = some (.int .i64 a0_1) := (blk_cell BK381.out 1).trans rfl
                    have hfz39_0 := blk_frozen BK381.out 0
                    have hfz39_1 := blk_frozen BK381.out 1
                    have p386 : 0 ≤ (x10_2 : Int) := of_decide_eq_true (by first | (with_reducible assumption) | assumption)
                    have q386 : x10_2 < (l0_0.length : Int) := of_decide_eq_true (by first | (with_reducible assumption) | assumption)
                    obtain ⟨ad386, A386_3, c386_3, e386, hx386_0, hx386_1, hx386_2, hx386_3, hl386_3, hi386_3⟩ := at_T55 HR0_0.out x10_2 p386 q386
                    (try rw [← Nbq34.out] at hx386_1)
                    (try rw [← Nbq34.out] at hx386_2)
                    cases e386
                    replace hx386_0 := (HB.out.cell (World.block_lt_of_cell? w _ hx386_0)).trans hx386_0
                    replace hx386_1 := (HB.out.cell (World.block_lt_of_cell? w _ hx386_1)).trans hx386_1
                    replace hx386_2 := (HB.out.cell (World.block_lt_of_cell? w _ hx386_2)).trans hx386_2
                    replace hx386_3 := (HB.out.cell (World.block_lt_of_cell? w _ hx386_3)).trans hx386_3
                    have HR386_3 := Aside0.mk hi386_3
                    have HC386_3 := Aside0.mk hl386_3
                    clear hi386_3 hl386_3
                    replace p386 := eq_true p386
                    replace q386 := eq_true q386
                    have p387 : 0 ≤ (x10_2 : Int) := of_decide_eq_true (by first | (with_reducible assumption) | assumption)
                    have q387 : x10_2 < (l0_0.length : Int) := of_decide_eq_true (by first | (with_reducible assumption) | assumption)
                    obtain ⟨ad387, A387_3, c387_3, e387, hx387_0, hx387_1, hx387_2, hx387_3, hl387_3, hi387_3⟩ := at_T55 HR0_0.out x10_2 p387 q387
                    (try rw [← Nbq34.out] at hx387_1)
                    (try rw [← Nbq34.out] at hx387_2)
                    obtain rfl : ad386 = ad387 := (by injection e387)
                    replace hx387_0 := (HB.out.cell (World.block_lt_of_cell? w _ hx387_0)).trans hx387_0
                    replace hx387_1 := (HB.out.cell (World.block_lt_of_cell? w _ hx387_1)).trans hx387_1
                    replace hx387_2 := (HB.out.cell (World.block_lt_of_cell? w _ hx387_2)).trans hx387_2
                    replace hx387_3 := (HB.out.cell (World.block_lt_of_cell? w _ hx387_3)).trans hx387_3
                    have HR387_3 := Aside0.mk hi387_3
                    have HC387_3 := Aside0.mk hl387_3
                    clear hi387_3 hl387_3
                    replace p387 := eq_true p387
                    replace q387 := eq_true q387
                    have ea_ := Option.some.inj (hx386_3.symm.trans hx387_3)
                    injection ea_ with ea_ en_ ec_
                    subst ea_
                    subst ec_
                    clear en_
                    go_wp2
                    go_roundg k2
                    case measure => have := HJ4.out; have := HK2.out; omega
                    case rel => exact ⟨(wrap64 (x8_2 + 1)), (wrap64 (x9_2 + 1)), (wrap64 (x10_2 + 1)), (by first | rfl | (simp; done) | (simp [*]; done)), (by first | rfl | (simp; done) | (simp [*]; done)), (by first | rfl | (simp; done) | (simp [*]; done)), H', ⟨by have := HJ4.out; have := HK2.out; omega⟩, ⟨by (with_reducible repeat (first | refine blk_drewN ?_ _ | refine blk_drew ?_ | refine blk_alloc ?_ _)); exact BK381.out⟩, ⟨by (with_reducible repeat (first | refine blk_drewN ?_ _ | refine blk_drew ?_ | refine blk_alloc ?_ _)); exact BK382.out⟩, ⟨by repeat (first | (with_reducible first | exact HB.out | apply below_alloc | apply pw_below_drewN | apply below_drew1 | refine below_set ?_ GE381.out | refine below_set ?_ GE382.out) | exact HB.out)⟩⟩
                · rw [if_neg c33] at H
                  have c33b0 : (((rd_T55 l0_0 x10_2).f0) == 0) = false := beq_eq_false_iff_ne.mpr c33
                  have c33b1 : (((rd_T55 l0_0 x10_2).f0) != 0) = true := bne_iff_ne.mpr c33
                  have H' := Aside0.mk H
                  clear H
                  have hnb40 := NB381_382.out
                  have hnc40 := NB382_381.out
                  have hcz41_0 : wr.cell? ⟨gb381, 0, none⟩ = some (.slice A0_0 l0_0.length c0_0) := (blk_cell BK381.out 0).trans rfl
                  have hcz41_1 : wr.cell? ⟨gb381, 1, none⟩ = some (.int .i64 a0_1) := (blk_cell BK381.out 1).trans rfl
                  have hfz41_0 := blk_frozen BK381.out 0
                  have hfz41_1 := blk_frozen BK381.out 1
                  have p386 : 0 ≤ (x10_2 : Int) := of_decide_eq_true (by first | (with_reducible assumption) | assumption)
                  have q386 : x10_2 < (l0_0.length : Int) := of_decide_eq_true (by first | (with_reducible assumption) | assumption)
                  obtain ⟨ad386, A386_3, c386_3, e386, hx386_0, hx386_1, hx386_2, hx386_3, hl386_3, hi386_3⟩ := at_T55 HR0_0.out x10_2 p386 q386
                  cases e386
                  replace hx386_0 := (HB.out.cell (World.block_lt_of_cell? w _ hx386_0)).trans hx386_0
                  replace hx386_1 := (HB.out.cell (World.block_lt_of_cell? w _ hx386_1)).trans hx386_1
                  replace hx386_2 := (HB.out.cell (World.block_lt_of_cell? w _ hx386_2)).trans hx386_2
                  replace hx386_3 := (HB.out.cell (World.block_lt_of_cell? w _ hx386_3)).trans hx386_3
                  have HR386_3 := Aside0.mk hi386_3
                  have HC386_3 := Aside0.mk hl386_3
                  clear hi386_3 hl386_3
                  replace p386 := eq_true p386
                  replace q386 := eq_true q386
                  go_wp2
                  go_roundg k2
                  case measure => have := HJ4.out; have := HK2.out; omega
                  case rel => exact ⟨(x8_2), (x9_2), (wrap64 (x10_2 + 1)), (by first | rfl | (simp; done) | (simp [*]; done)), (by first | rfl | (simp; done) | (simp [*]; done)), (by first | rfl | (simp; done) | (simp [*]; done)), H', ⟨by have := HJ4.out; have := HK2.out; omega⟩, ⟨by (with_reducible repeat (first | refine blk_drewN ?_ _ | refine blk_drew ?_ | refine blk_alloc ?_ _)); exact BK381.out⟩, ⟨by (with_reducible repeat (first | refine blk_drewN ?_ _ | refine blk_drew ?_ | refine blk_alloc ?_ _)); exact BK382.out⟩, ⟨by repeat (first | (with_reducible first | exact HB.out | apply below_alloc | apply pw_below_drewN | apply below_drew1 | refine below_set ?_ GE381.out | refine below_set ?_ GE382.out) | exact HB.out)⟩⟩
              · rw [if_neg c32] at H
                exact absurd H (by simp)
            · rw [if_neg c31] at H
              have c31b0 : decide (x10_2 < (l0_0.length : Int)) = false := decide_eq_false c31
              clear c31
              replace H := Option.bind_eq_some_iff.mp H
              obtain ⟨⟨t388, t391, t392, t393⟩, A420, H⟩ := H
              replace H : ((heap_Settle.f l0_0 a0_1).bind fun bt395 => (if t383 = true then ((heap_Free.f k2 l0_0 a0_1).bind fun t400 => (if t400 = x8_2 then ((heap_Fits.f k2 l0_0 a0_1 a1 true).bind fun t401 => (if (t401 == (decide (a1 ≤ x8_2))) = true then ((heap_Fits.f k2 l0_0 a0_1 a1 false).bind fun t402 => (if (t402 == (decide (a1 ≤ (wrap64 (x8_2 - a0_1))))) = true then ((heap_Fits.f k2 l0_0 a0_1 1 true).bind fun t403 => (if ((t393 == 0) == t403) = true then ((heap_Free.f k2 bt395.1 bt395.2).bind fun t404 => (if t404 = x9_2 then ((assartref05_Right.f k2 bt395.1 bt395.2).bind fun t405 => (if t405 = true then ((heap_Settle.f bt395.1 bt395.2).bind fun bt406 => ((assartref05_Same.f k2 bt406.1 bt406.2 bt395.1 bt395.2).bind fun t410 => (some t410))) else (some false))) else (some false))) else (some false))) else (some false))) else (some false))) else (some false))) else (some false))) = some r := H
              have A42 := Aside0.mk A420
              clear A420
              replace H := Option.bind_eq_some_iff.mp H
              obtain ⟨⟨t395, t398⟩, A430, H⟩ := H
              replace H : (if t383 = true then ((heap_Free.f k2 l0_0 a0_1).bind fun t400 => (if t400 = x8_2 then ((heap_Fits.f k2 l0_0 a0_1 a1 true).bind fun t401 => (if (t401 == (decide (a1 ≤ x8_2))) = true then ((heap_Fits.f k2 l0_0 a0_1 a1 false).bind fun t402 => (if (t402 == (decide (a1 ≤ (wrap64 (x8_2 - a0_1))))) = true then ((heap_Fits.f k2 l0_0 a0_1 1 true).bind fun t403 => (if ((t393 == 0) == t403) = true then ((heap_Free.f k2 t395 t398).bind fun t404 => (if t404 = x9_2 then ((assartref05_Right.f k2 t395 t398).bind fun t405 => (if t405 = true then ((heap_Settle.f t395 t398).bind fun bt406 => ((assartref05_Same.f k2 bt406.1 bt406.2 t395 t398).bind fun t410 => (some t410))) else (some false))) else (some false))) else (some false))) else (some false))) else (some false))) else (some false))) else (some false)) = some r := H
              have A43 := Aside0.mk A430
              clear A430
              by_cases c44 : t383 = true
              · subst c44
                have H1 : ((heap_Free.f k2 l0_0 a0_1).bind fun t400 => (if t400 = x8_2 then ((heap_Fits.f k2 l0_0 a0_1 a1 true).bind fun t401 => (if (t401 == (decide (a1 ≤ x8_2))) = true then ((heap_Fits.f k2 l0_0 a0_1 a1 false).bind fun t402 => (if (t402 == (decide (a1 ≤ (wrap64 (x8_2 - a0_1))))) = true then ((heap_Fits.f k2 l0_0 a0_1 1 true).bind fun t403 => (if ((t393 == 0) == t403) = true then ((heap_Free.f k2 t395 t398).bind fun t404 => (if t404 = x9_2 then ((assartref05_Right.f k2 t395 t398).bind fun t405 => (if t405 = true then ((heap_Settle.f t395 t398).bind fun bt406 => ((assartref05_Same.f k2 bt406.1 bt406.2 t395 t398).bind fun t410 => (some t410))) else (some false))) else (some false))) else (some false))) else (some false))) else (some false))) else (some false))) = some r := by rw [if_pos rfl] at H; exact H
                clear H
                have H := H1
                clear H1
                replace H := Option.bind_eq_some_iff.mp H
                obtain ⟨t400, A450, H⟩ := H
                replace H : (if t400 = x8_2 then ((heap_Fits.f k2 l0_0 a0_1 a1 true).bind fun t401 => (if (t401 == (decide (a1 ≤ x8_2))) = true then ((heap_Fits.f k2 l0_0 a0_1 a1 false).bind fun t402 => (if (t402 == (decide (a1 ≤ (wrap64 (x8_2 - a0_1))))) = true then ((heap_Fits.f k2 l0_0 a0_1 1 true).bind fun t403 => (if ((t393 == 0) == t403) = true then ((heap_Free.f k2 t395 t398).bind fun t404 => (if t404 = x9_2 then ((assartref05_Right.f k2 t395 t398).bind fun t405 => (if t405 = true then ((heap_Settle.f t395 t398).bind fun bt406 => ((assartref05_Same.f k2 bt406.1 bt406.2 t395 t398).bind fun t410 => (some t410))) else (some false))) else (some false))) else (some false))) else (some false))) else (some false))) else (some false)) = some r := H
                have A45 := Aside0.mk A450
                clear A450
                by_cases c46 : t400 = x8_2
                · rw [if_pos c46] at H
                  have c46b0 : (t400 == x8_2) = true := beq_iff_eq.mpr c46
                  have c46b1 : (t400 != x8_2) = false := bne_eq_false_iff_eq.mpr c46
                  clear c46
                  replace H := Option.bind_eq_some_iff.mp H
                  obtain ⟨t401, A470, H⟩ := H
                  replace H : (if (t401 == (decide (a1 ≤ x8_2))) = true then ((heap_Fits.f k2 l0_0 a0_1 a1 false).bind fun t402 => (if (t402 == (decide (a1 ≤ (wrap64 (x8_2 - a0_1))))) = true then ((heap_Fits.f k2 l0_0 a0_1 1 true).bind fun t403 => (if ((t393 == 0) == t403) = true then ((heap_Free.f k2 t395 t398).bind fun t404 => (if t404 = x9_2 then ((assartref05_Right.f k2 t395 t398).bind fun t405 => (if t405 = true then ((heap_Settle.f t395 t398).bind fun bt406 => ((assartref05_Same.f k2 bt406.1 bt406.2 t395 t398).bind fun t410 => (some t410))) else (some false))) else (some false))) else (some false))) else (some false))) else (some false)) = some r := H
                  have A47 := Aside0.mk A470
                  clear A470
                  by_cases c48 : (t401 == (decide (a1 ≤ x8_2))) = true
                  · rw [if_pos c48] at H
                    have c48b0 : (t401 == (decide (a1 ≤ x8_2))) = true := c48
                    (try (have c48b1 : decide (t401 = (decide (a1 ≤ x8_2))) = true := by simpa using c48))
                    (try (have c48b2 : (t401 == (decide (a1 ≤ x8_2))) = true := by simpa using c48))
                    clear c48
                    replace H := Option.bind_eq_some_iff.mp H
                    obtain ⟨t402, A490, H⟩ := H
                    replace H : (if (t402 == (decide (a1 ≤ (wrap64 (x8_2 - a0_1))))) = true then ((heap_Fits.f k2 l0_0 a0_1 1 true).bind fun t403 => (if ((t393 == 0) == t403) = true then ((heap_Free.f k2 t395 t398).bind fun t404 => (if t404 = x9_2 then ((assartref05_Right.f k2 t395 t398).bind fun t405 => (if t405 = true then ((heap_Settle.f t395 t398).bind fun bt406 => ((assartref05_Same.f k2 bt406.1 bt406.2 t395 t398).bind fun t410 => (some t410))) else (some false))) else (some false))) else (some false))) else (some false)) = some r := H
                    have A49 := Aside0.mk A490
                    clear A490
                    by_cases c50 : (t402 == (decide (a1 ≤ (wrap64 (x8_2 - a0_1))))) = true
                    · rw [if_pos c50] at H
                      have c50b0 : (t402 == (decide (a1 ≤ (wrap64 (x8_2 - a0_1))))) = true := c50
                      (try (have c50b1 : decide (t402 = (decide (a1 ≤ (wrap64 (x8_2 - a0_1))))) = true := by simpa using c50))
                      (try (have c50b2 : (t402 == (decide (a1 ≤ (wrap64 (x8_2 - a0_1))))) = true := by simpa using c50))
                      clear c50
                      replace H := Option.bind_eq_some_iff.mp H
                      obtain ⟨t403, A510, H⟩ := H
                      replace H : (if ((t393 == 0) == t403) = true then ((heap_Free.f k2 t395 t398).bind fun t404 => (if t404 = x9_2 then ((assartref05_Right.f k2 t395 t398).bind fun t405 => (if t405 = true then ((heap_Settle.f t395 t398).bind fun bt406 => ((assartref05_Same.f k2 bt406.1 bt406.2 t395 t398).bind fun t410 => (some t410))) else (some false))) else (some false))) else (some false)) = some r := H
                      have A51 := Aside0.mk A510
                      clear A510
                      by_cases c52 : ((t393 == 0) == t403) = true
                      · rw [if_pos c52] at H
                        have c52b0 : ((t393 == 0) == t403) = true := c52
                        (try (have c52b1 : decide ((t393 == 0) = t403) = true := by simpa using c52))
                        (try (have c52b2 : ((t393 == 0) == t403) = true := by simpa using c52))
                        clear c52
                        replace H := Option.bind_eq_some_iff.mp H
                        obtain ⟨t404, A530, H⟩ := H
                        replace H : (if t404 = x9_2 then ((assartref05_Right.f k2 t395 t398).bind fun t405 => (if t405 = true then ((heap_Settle.f t395 t398).bind fun bt406 => ((assartref05_Same.f k2 bt406.1 bt406.2 t395 t398).bind fun t410 => (some t410))) else (some false))) else (some false)) = some r := H
                        have A53 := Aside0.mk A530
                        clear A530
                        by_cases c54 : t404 = x9_2
                        · rw [if_pos c54] at H
                          have c54b0 : (t404 == x9_2) = true := beq_iff_eq.mpr c54
                          have c54b1 : (t404 != x9_2) = false := bne_eq_false_iff_eq.mpr c54
                          clear c54
                          replace H := Option.bind_eq_some_iff.mp H
                          obtain ⟨t405, A550, H⟩ := H
                          replace H : (if t405 = true then ((heap_Settle.f t395 t398).bind fun bt406 => ((assartref05_Same.f k2 bt406.1 bt406.2 t395 t398).bind fun t410 => (some t410))) else (some false)) = some r := H
                          have A55 := Aside0.mk A550
                          clear A550
                          by_cases c56 : t405 = true
                          · subst c56
                            have H1 : ((heap_Settle.f t395 t398).bind fun bt406 => ((assartref05_Same.f k2 bt406.1 bt406.2 t395 t398).bind fun t410 => (some t410))) = some r := by rw [if_pos rfl] at H; exact H
                            clear H
                            have H := H1
                            clear H1
                            replace H := Option.bind_eq_some_iff.mp H
                            obtain ⟨⟨t406, t409⟩, A570, H⟩ := H
                            replace H : ((assartref05_Same.f k2 t406 t409 t395 t398).bind fun t410 => (some t410)) = some r := H
                            have A57 := Aside0.mk A570
                            clear A570
                            replace H := Option.bind_eq_some_iff.mp H
                            obtain ⟨t410, A580, H⟩ := H
                            replace H : (some t410) = some r := H
                            have A58 := Aside0.mk A580
                            clear A580
                            obtain rfl := Option.some.inj H
                            have hnb59 := NB381_382.out
                            have hnc59 := NB382_381.out
                            have hcz60_0 : wr.cell? ⟨gb381, 0, none⟩ = some (.slice A0_0 l0_0.length c0_0) := (blk_cell BK381.out 0).trans rfl
                            have hcz60_1 : wr.cell? ⟨gb381, 1, none⟩ = some (.int .i64 a0_1) := (blk_cell BK381.out 1).trans rfl
                            have hfz60_0 := blk_frozen BK381.out 0
                            have hfz60_1 := blk_frozen BK381.out 1
                            have hcz61_0 : wr.cell? ⟨gb382, 0, none⟩ = some (.bool a2_0) := (blk_cell BK382.out 0).trans rfl
                            have hcz61_1 : wr.cell? ⟨gb382, 1, none⟩ = some (.slice A2_1 l2_1.length c2_1) := (blk_cell BK382.out 1).trans rfl
                            have hfz61_0 := blk_frozen BK382.out 0
                            have hfz61_1 := blk_frozen BK382.out 1
                            try go_wp2_with (first | ((with_reducible refine gate_callee (f := 44) rfl ?_); refine goesL_ (some 64) rfl rfl Try.func44 (by kernel_rfl) rfl #[.agg #[.slice A0_0 l0_0.length c0_0, .int .i64 a0_1], .agg #[.bool a2_0, .slice A2_1 l2_1.length c2_1], .slice none 0 0] rfl (by (try simp only [List.map_toArray, List.map_cons, List.map_nil]); first | done | rfl | (simp only [List.length_drop, List.length_take]; rfl)) ?_; (refine (heap_Alloc.calls (fun k_ => k_ < w.heap.size) _ _ l0_0 a0_1 a2_0 (fun k_ => k_ < w.heap.size) _ _ l2_1 _ _ ([] : List Int) t388 t391 t392 t393 _ ?side1 ?side2 ?side3 ?side4 A42.out).mono ?_); (case side1 => exact Kd.V_mk HC0_0.out (Kd.F_below (Kd.C_F k55_heap HR0_0.out) (by repeat (first | (with_reducible first | exact HB.out | apply below_alloc | apply pw_below_drewN | apply below_drew1 | refine below_set ?_ GE381.out | refine below_set ?_ GE382.out) | exact HB.out)))); (case side2 => exact Kd.V_mk HC2_1.out (Kd.F_below (Kd.C_F k49_heap HR2_1.out) (by repeat (first | (with_reducible first | exact HB.out | apply below_alloc | apply pw_below_drewN | apply below_drew1 | refine below_set ?_ GE381.out | refine below_set ?_ GE382.out) | exact HB.out)))); (case side3 => exact Kd.C_nil _ _); (case side4 => exact Nat.le_refl _); rintro e w62 ⟨v389, rfl, ho0, hb⟩; refine ⟨_, rfl, ?_⟩; have n0_ := Aside0.mk (Kd.V_lower (Kd.V_mono (ok' := fun k_ => k_ ≠ gb381 ∧ k_ ≠ gb382) ho0 (fun k_ hk_ => ⟨Or.elim hk_ (fun hs_ => Or.elim hs_ (fun hs_ => fun e_ => Nat.not_le.2 hs_ (by rw [e_]; exact GW381.out)) (fun hs_ => fun e_ => Nat.not_le.2 hs_ (by rw [e_]; exact GW381.out))) (fun hn_ => (Kd.freshB (g := gb381) (o := .cells #[.slice A0_0 l0_0.length c0_0, .int .i64 a0_1] 24 (0, 0)) (by (with_reducible repeat (first | refine blk_drewN ?_ _ | refine blk_drew ?_ | refine blk_alloc ?_ _)); exact BK381.out) k_ hn_)), Or.elim hk_ (fun hs_ => Or.elim hs_ (fun hs_ => fun e_ => Nat.not_le.2 hs_ (by rw [e_]; exact GW382.out)) (fun hs_ => fun e_ => Nat.not_le.2 hs_ (by rw [e_]; exact GW382.out))) (fun hn_ => (Kd.freshB (g := gb382) (o := .cells #[.bool a2_0, .slice A2_1 l2_1.length c2_1] 53 (0, 0)) (by (with_reducible repeat (first | refine blk_drewN ?_ _ | refine blk_drew ?_ | refine blk_alloc ?_ _)); exact BK382.out) k_ hn_))⟩)) (below_size (by repeat (first | (with_reducible first | exact HB.out | apply below_alloc | apply pw_below_drewN | apply below_drew1 | refine below_set ?_ GE381.out | refine below_set ?_ GE382.out) | exact HB.out)))); have n1_ := Aside0.mk (blk_below (g := gb381) (o := .cells #[.slice A0_0 l0_0.length c0_0, .int .i64 a0_1] 24 (0, 0)) (by (with_reducible repeat (first | refine blk_drewN ?_ _ | refine blk_drew ?_ | refine blk_alloc ?_ _)); exact BK381.out) hb); have n2_ := Aside0.mk (blk_below (g := gb382) (o := .cells #[.bool a2_0, .slice A2_1 l2_1.length c2_1] 53 (0, 0)) (by (with_reducible repeat (first | refine blk_drewN ?_ _ | refine blk_drew ?_ | refine blk_alloc ?_ _)); exact BK382.out) hb); have n3_ := Aside0.mk (below_step (by repeat (first | (with_reducible first | exact HB.out | apply below_alloc | apply pw_below_drewN | apply below_drew1 | refine below_set ?_ GE381.out | refine below_set ?_ GE382.out) | exact HB.out)) hb); clear BK381; clear BK382; clear HB; have HO390 := n0_; have BK381 := n1_; have BK382 := n2_; have HB := n3_; clear n0_ n1_ n2_ n3_; (try clear hb); (try clear hb2); (try clear hk); (try clear hi); (try clear ho0)) | ((with_reducible refine gate_dst (N := 11) rfl ?_); (try (refine gate_guard (by rfl) ?_; dsimp only)); refine box_event ?hg (N := 11) ?hd (cs := #[.slice none 0 0, .int .i64 0]) (t := 24) ?hr ?_; (case hd => rfl); (case hg => rfl); (case hr => first | (go_simp; done) | (go_simp; rfl)); intro gb394 hg w63 hbox hb; have n0_ := Aside0.mk (Kd.V_below (Kd.V_elderB (by (with_reducible repeat (first | apply Kd.V_alloc | apply Kd.V_drewN | apply Kd.V_drew)); exact HO390.out) gb394 (Nat.le_of_eq hg.symm)) hb); have n1_ := Aside0.mk (blk_below (g := gb381) (o := .cells #[.slice A0_0 l0_0.length c0_0, .int .i64 a0_1] 24 (0, 0)) (by (with_reducible repeat (first | refine blk_drewN ?_ _ | refine blk_drew ?_ | refine blk_alloc ?_ _)); exact BK381.out) hb); have n2_ := Aside0.mk (blk_below (g := gb382) (o := .cells #[.bool a2_0, .slice A2_1 l2_1.length c2_1] 53 (0, 0)) (by (with_reducible repeat (first | refine blk_drewN ?_ _ | refine blk_drew ?_ | refine blk_alloc ?_ _)); exact BK382.out) hb); have n3_ := Aside0.mk (below_step (by repeat (first | (with_reducible first | exact HB.out | apply below_alloc | apply pw_below_drewN | apply below_drew1 | refine below_set ?_ GE381.out | refine below_set ?_ GE382.out) | exact HB.out)) hb); have n4_ := Aside0.mk (hbox); have n5_ := Aside0.mk ((by rw [hg]; exact (below_size (by repeat (first | (with_reducible first | exact HB.out | apply below_alloc | apply pw_below_drewN | apply below_drew1 | refine below_set ?_ GE381.out | refine below_set ?_ GE382.out) | exact HB.out))) : w.heap.size ≤ gb394)); have n6_ := Aside0.mk ((by rw [hg]; exact (below_size (by repeat (first | (with_reducible first | exact HB.out | apply below_alloc | apply pw_below_drewN | apply below_drew1 | refine below_set ?_ GE381.out | refine below_set ?_ GE382.out) | exact HB.out))) : w.heap.size ≤ gb394)); have n7_ := Aside0.mk ((by rw [hg]; exact Nat.ne_of_lt (blk_lt (g := gb381) (o := .cells #[.slice A0_0 l0_0.length c0_0, .int .i64 a0_1] 24 (0, 0)) (by (with_reducible repeat (first | refine blk_drewN ?_ _ | refine blk_drew ?_ | refine blk_alloc ?_ _)); exact BK381.out)) : gb381 ≠ gb394)); have n8_ := Aside0.mk ((by rw [hg]; exact Nat.ne_of_gt (blk_lt (g := gb381) (o := .cells #[.slice A0_0 l0_0.length c0_0, .int .i64 a0_1] 24 (0, 0)) (by (with_reducible repeat (first | refine blk_drewN ?_ _ | refine blk_drew ?_ | refine blk_alloc ?_ _)); exact BK381.out)) : gb394 ≠ gb381)); have n9_ := Aside0.mk ((by rw [hg]; exact Nat.ne_of_lt (blk_lt (g := gb382) (o := .cells #[.bool a2_0, .slice A2_1 l2_1.length c2_1] 53 (0, 0)) (by (with_reducible repeat (first | refine blk_drewN ?_ _ | refine blk_drew ?_ | refine blk_alloc ?_ _)); exact BK382.out)) : gb382 ≠ gb394)); have n10_ := Aside0.mk ((by rw [hg]; exact Nat.ne_of_gt (blk_lt (g := gb382) (o := .cells #[.bool a2_0, .slice A2_1 l2_1.length c2_1] 53 (0, 0)) (by (with_reducible repeat (first | refine blk_drewN ?_ _ | refine blk_drew ?_ | refine blk_alloc ?_ _)); exact BK382.out)) : gb394 ≠ gb382)); clear HO390; clear BK381; clear BK382; clear HB; have HO390 := n0_; have BK381 := n1_; have BK382 := n2_; have HB := n3_; have BK394 := n4_; have GW394 := n5_; have GE394 := n6_; have NB381_394 := n7_; have NB394_381 := n8_; have NB382_394 := n9_; have NB394_382 := n10_; clear n0_ n1_ n2_ n3_ n4_ n5_ n6_ n7_ n8_ n9_ n10_; clear hb hbox hg; obtain ⟨Ao64, co64, eo64⟩ := Kd.V_slice HO390.out; subst eo64; have hnb65 := NB394_381.out; have hnc65 := NB381_394.out; have hnb66 := NB394_382.out; have hnc66 := NB382_394.out; have hcz67_0 : w63.cell? ⟨gb394, 0, none⟩ = some (.slice none 0 0) := (blk_cell BK394.out 0).trans rfl; have hcz67_1 : w63.cell? ⟨gb394, 1, none⟩ = some (.int .i64 0) := (blk_cell BK394.out 1).trans rfl; have hfz67_0 := blk_frozen BK394.out 0; have hfz67_1 := blk_frozen BK394.out 1) | ((with_reducible refine gate_store (t := 24) (p := 11) rfl ?_); refine store_event (t := 24) (p := 11) (v := ?vo_w68) (w1 := ((w63.setCell ⟨gb394, 0, none⟩ (.slice Ao64 t388.length co64)).setCell ⟨gb394, 1, none⟩ (.int .i64 t391))) ?hg ?ho ?hn ?hr ?_; (case ho => rfl); (case hg => rfl); (case hn => rfl); (case hr => first | (go_simp; done) | (go_simp; rfl)); intro w68 hw; have n0_ : Aside0 (Kd.V k55 55 w68 w.heap.size (fun k_ => k_ ≠ gb381 ∧ k_ ≠ gb382 ∧ k_ ≠ gb394) (.slice Ao64 t388.length co64) t388) := ⟨(by rw [hw]; exact (by (with_reducible repeat (first | apply Kd.V_alloc | apply Kd.V_drewN | apply Kd.V_drew)); exact Kd.V_mono (Kd.V_far (p := ⟨gb394, 1, none⟩) (Kd.V_far (p := ⟨gb394, 0, none⟩) (Kd.V_mono HO390.out (fun k_ hk => (⟨hk, hk.2⟩ : _ ∧ k_ ≠ gb394))) (fun _ hk => hk.2) (.slice Ao64 t388.length co64)) (fun _ hk => hk.2) (.int .i64 t391)) (fun _ hk => ⟨hk.1.1.1, ⟨hk.1.1.2, hk.1.2⟩⟩)))⟩; have n1_ : Aside0 (w68.heap[gb381]? = some (.cells #[.slice A0_0 l0_0.length c0_0, .int .i64 a0_1] 24 (0, 0))) := ⟨(by rw [hw]; exact (by (with_reducible repeat (first | refine blk_drewN ?_ _ | refine blk_drew ?_ | refine blk_alloc ?_ _)); refine blk_far ?_ NB381_394.out _; (with_reducible repeat (first | refine blk_drewN ?_ _ | refine blk_drew ?_ | refine blk_alloc ?_ _)); refine blk_far ?_ NB381_394.out _; (with_reducible repeat (first | refine blk_drewN ?_ _ | refine blk_drew ?_ | refine blk_alloc ?_ _)); exact BK381.out))⟩; have n2_ : Aside0 (w68.heap[gb382]? = some (.cells #[.bool a2_0, .slice A2_1 l2_1.length c2_1] 53 (0, 0))) := ⟨(by rw [hw]; exact (by (with_reducible repeat (first | refine blk_drewN ?_ _ | refine blk_drew ?_ | refine blk_alloc ?_ _)); refine blk_far ?_ NB382_394.out _; (with_reducible repeat (first | refine blk_drewN ?_ _ | refine blk_drew ?_ | refine blk_alloc ?_ _)); refine blk_far ?_ NB382_394.out _; (with_reducible repeat (first | refine blk_drewN ?_ _ | refine blk_drew ?_ | refine blk_alloc ?_ _)); exact BK382.out))⟩; have n3_ : Aside0 (w68.heap[gb394]? = some (.cells #[.slice Ao64 t388.length co64, .int .i64 t391] 24 (0, 0))) := ⟨(by rw [hw]; exact (by (with_reducible repeat (first | refine blk_drewN ?_ _ | refine blk_drew ?_ | refine blk_alloc ?_ _)); refine blk_put (cs := #[.slice Ao64 t388.length co64, .int .i64 0]) ?_ 1 _ rfl; (with_reducible repeat (first | refine blk_drewN ?_ _ | refine blk_drew ?_ | refine blk_alloc ?_ _)); refine blk_put (cs := #[.slice none 0 0, .int .i64 0]) ?_ 0 _ rfl; (with_reducible repeat (first | refine blk_drewN ?_ _ | refine blk_drew ?_ | refine blk_alloc ?_ _)); exact BK394.out))⟩; have n4_ : Aside0 (Below w.heap.size w w68) := ⟨(by rw [hw]; exact (by repeat (first | (with_reducible first | exact HB.out | apply below_alloc | apply pw_below_drewN | apply below_drew1 | refine below_set ?_ GE381.out | refine below_set ?_ GE382.out | refine below_set ?_ GE394.out) | exact HB.out)))⟩; clear hw; clear HO390; clear BK381; clear BK382; clear BK394; clear HB; have HO390 := n0_; have BK381 := n1_; have BK382 := n2_; have BK394 := n3_; have HB := n4_; clear n0_ n1_ n2_ n3_ n4_; have hcz69_0 : w68.cell? ⟨gb381, 0, none⟩ = some (.slice A0_0 l0_0.length c0_0) := (blk_cell BK381.out 0).trans rfl; have hcz69_1 : w68.cell? ⟨gb381, 1, none⟩ = some (.int .i64 a0_1) := (blk_cell BK381.out 1).trans rfl; have hfz69_0 := blk_frozen BK381.out 0; have hfz69_1 := blk_frozen BK381.out 1) | ((with_reducible refine gate_callee (f := 50) rfl ?_); refine goesL_ (some 69) rfl rfl Try.func50 (by kernel_rfl) rfl #[.agg #[.slice A0_0 l0_0.length c0_0, .int .i64 a0_1]] rfl (by (try simp only [List.map_toArray, List.map_cons, List.map_nil]); first | done | rfl | (simp only [List.length_drop, List.length_take]; rfl)) ?_; (with_reducible refine (heap_Settle.calls (fun k_ => k_ < w.heap.size) _ _ l0_0 a0_1 t395 t398 _ ?side1 A43.out).mono ?_); (case side1 => exact Kd.V_mk HC0_0.out (Kd.F_below (Kd.C_F k55_heap HR0_0.out) (by repeat (first | (with_reducible first | exact HB.out | apply below_alloc | apply pw_below_drewN | apply below_drew1 | refine below_set ?_ GE381.out | refine below_set ?_ GE382.out | refine below_set ?_ GE394.out) | exact HB.out)))); rintro e w70 ⟨v396, rfl, ho0, hb⟩; refine ⟨_, rfl, ?_⟩; have n0_ := Aside0.mk (Kd.V_below (by (with_reducible repeat (first | apply Kd.V_alloc | apply Kd.V_drewN | apply Kd.V_drew)); exact HO390.out) hb); have n1_ := Aside0.mk (Kd.V_lower (Kd.V_mono (ok' := fun k_ => k_ ≠ gb381 ∧ k_ ≠ gb382 ∧ k_ ≠ gb394) ho0 (fun k_ hk_ => ⟨Or.elim hk_ (fun hs_ => fun e_ => Nat.not_le.2 hs_ (by rw [e_]; exact GW381.out)) (fun hn_ => (Kd.freshB (g := gb381) (o := .cells #[.slice A0_0 l0_0.length c0_0, .int .i64 a0_1] 24 (0, 0)) (by (with_reducible repeat (first | refine blk_drewN ?_ _ | refine blk_drew ?_ | refine blk_alloc ?_ _)); exact BK381.out) k_ hn_)), Or.elim hk_ (fun hs_ => fun e_ => Nat.not_le.2 hs_ (by rw [e_]; exact GW382.out)) (fun hn_ => (Kd.freshB (g := gb382) (o := .cells #[.bool a2_0, .slice A2_1 l2_1.length c2_1] 53 (0, 0)) (by (with_reducible repeat (first | refine blk_drewN ?_ _ | refine blk_drew ?_ | refine blk_alloc ?_ _)); exact BK382.out) k_ hn_)), Or.elim hk_ (fun hs_ => fun e_ => Nat.not_le.2 hs_ (by rw [e_]; exact GW394.out)) (fun hn_ => (Kd.freshB (g := gb394) (o := .cells #[.slice Ao64 t388.length co64, .int .i64 t391] 24 (0, 0)) (by (with_reducible repeat (first | refine blk_drewN ?_ _ | refine blk_drew ?_ | refine blk_alloc ?_ _)); exact BK394.out) k_ hn_))⟩)) (below_size (by repeat (first | (with_reducible first | exact HB.out | apply below_alloc | apply pw_below_drewN | apply below_drew1 | refine below_set ?_ GE381.out | refine below_set ?_ GE382.out | refine below_set ?_ GE394.out) | exact HB.out)))); have n2_ := Aside0.mk (blk_below (g := gb381) (o := .cells #[.slice A0_0 l0_0.length c0_0, .int .i64 a0_1] 24 (0, 0)) (by (with_reducible repeat (first | refine blk_drewN ?_ _ | refine blk_drew ?_ | refine blk_alloc ?_ _)); exact BK381.out) hb); have n3_ := Aside0.mk (blk_below (g := gb382) (o := .cells #[.bool a2_0, .slice A2_1 l2_1.length c2_1] 53 (0, 0)) (by (with_reducible repeat (first | refine blk_drewN ?_ _ | refine blk_drew ?_ | refine blk_alloc ?_ _)); exact BK382.out) hb); have n4_ := Aside0.mk (blk_below (g := gb394) (o := .cells #[.slice Ao64 t388.length co64, .int .i64 t391] 24 (0, 0)) (by (with_reducible repeat (first | refine blk_drewN ?_ _ | refine blk_drew ?_ | refine blk_alloc ?_ _)); exact BK394.out) hb); have n5_ := Aside0.mk (below_step (by repeat (first | (with_reducible first | exact HB.out | apply below_alloc | apply pw_below_drewN | apply below_drew1 | refine below_set ?_ GE381.out | refine below_set ?_ GE382.out | refine below_set ?_ GE394.out) | exact HB.out)) hb); clear HO390; clear BK381; clear BK382; clear BK394; clear HB; have HO390 := n0_; have HO397 := n1_; have BK381 := n2_; have BK382 := n3_; have BK394 := n4_; have HB := n5_; clear n0_ n1_ n2_ n3_ n4_ n5_; (try clear hb); (try clear hb2); (try clear hk); (try clear hi); (try clear ho0)) | ((with_reducible refine gate_dst (N := 14) rfl ?_); (try (refine gate_guard (by rfl) ?_; dsimp only)); refine box_event ?hg (N := 14) ?hd (cs := #[.slice none 0 0, .int .i64 0]) (t := 24) ?hr ?_; (case hd => rfl); (case hg => rfl); (case hr => first | (go_simp; done) | (go_simp; rfl)); intro gb399 hg w71 hbox hb; have n0_ := Aside0.mk (Kd.V_below (Kd.V_elderB (by (with_reducible repeat (first | apply Kd.V_alloc | apply Kd.V_drewN | apply Kd.V_drew)); exact HO390.out) gb399 (Nat.le_of_eq hg.symm)) hb); have n1_ := Aside0.mk (Kd.V_below (Kd.V_elderB (by (with_reducible repeat (first | apply Kd.V_alloc | apply Kd.V_drewN | apply Kd.V_drew)); exact HO397.out) gb399 (Nat.le_of_eq hg.symm)) hb); have n2_ := Aside0.mk (blk_below (g := gb381) (o := .cells #[.slice A0_0 l0_0.length c0_0, .int .i64 a0_1] 24 (0, 0)) (by (with_reducible repeat (first | refine blk_drewN ?_ _ | refine blk_drew ?_ | refine blk_alloc ?_ _)); exact BK381.out) hb); have n3_ := Aside0.mk (blk_below (g := gb382) (o := .cells #[.bool a2_0, .slice A2_1 l2_1.length c2_1] 53 (0, 0)) (by (with_reducible repeat (first | refine blk_drewN ?_ _ | refine blk_drew ?_ | refine blk_alloc ?_ _)); exact BK382.out) hb); have n4_ := Aside0.mk (blk_below (g := gb394) (o := .cells #[.slice Ao64 t388.length co64, .int .i64 t391] 24 (0, 0)) (by (with_reducible repeat (first | refine blk_drewN ?_ _ | refine blk_drew ?_ | refine blk_alloc ?_ _)); exact BK394.out) hb); have n5_ := Aside0.mk (below_step (by repeat (first | (with_reducible first | exact HB.out | apply below_alloc | apply pw_below_drewN | apply below_drew1 | refine below_set ?_ GE381.out | refine below_set ?_ GE382.out | refine below_set ?_ GE394.out) | exact HB.out)) hb); have n6_ := Aside0.mk (hbox); have n7_ := Aside0.mk ((by rw [hg]; exact (below_size (by repeat (first | (with_reducible first | exact HB.out | apply below_alloc | apply pw_below_drewN | apply below_drew1 | refine below_set ?_ GE381.out | refine below_set ?_ GE382.out | refine below_set ?_ GE394.out) | exact HB.out))) : w.heap.size ≤ gb399)); have n8_ := Aside0.mk ((by rw [hg]; exact (below_size (by repeat (first | (with_reducible first | exact HB.out | apply below_alloc | apply pw_below_drewN | apply below_drew1 | refine below_set ?_ GE381.out | refine below_set ?_ GE382.out | refine below_set ?_ GE394.out) | exact HB.out))) : w.heap.size ≤ gb399)); have n9_ := Aside0.mk ((by rw [hg]; exact Nat.ne_of_lt (blk_lt (g := gb381) (o := .cells #[.slice A0_0 l0_0.length c0_0, .int .i64 a0_1] 24 (0, 0)) (by (with_reducible repeat (first | refine blk_drewN ?_ _ | refine blk_drew ?_ | refine blk_alloc ?_ _)); exact BK381.out)) : gb381 ≠ gb399)); have n10_ := Aside0.mk ((by rw [hg]; exact Nat.ne_of_gt (blk_lt (g := gb381) (o := .cells #[.slice A0_0 l0_0.length c0_0, .int .i64 a0_1] 24 (0, 0)) (by (with_reducible repeat (first | refine blk_drewN ?_ _ | refine blk_drew ?_ | refine blk_alloc ?_ _)); exact BK381.out)) : gb399 ≠ gb381)); have n11_ := Aside0.mk ((by rw [hg]; exact Nat.ne_of_lt (blk_lt (g := gb382) (o := .cells #[.bool a2_0, .slice A2_1 l2_1.length c2_1] 53 (0, 0)) (by (with_reducible repeat (first | refine blk_drewN ?_ _ | refine blk_drew ?_ | refine blk_alloc ?_ _)); exact BK382.out)) : gb382 ≠ gb399)); have n12_ := Aside0.mk ((by rw [hg]; exact Nat.ne_of_gt (blk_lt (g := gb382) (o := .cells #[.bool a2_0, .slice A2_1 l2_1.length c2_1] 53 (0, 0)) (by (with_reducible repeat (first | refine blk_drewN ?_ _ | refine blk_drew ?_ | refine blk_alloc ?_ _)); exact BK382.out)) : gb399 ≠ gb382)); have n13_ := Aside0.mk ((by rw [hg]; exact Nat.ne_of_lt (blk_lt (g := gb394) (o := .cells #[.slice Ao64 t388.length co64, .int .i64 t391] 24 (0, 0)) (by (with_reducible repeat (first | refine blk_drewN ?_ _ | refine blk_drew ?_ | refine blk_alloc ?_ _)); exact BK394.out)) : gb394 ≠ gb399)); have n14_ := Aside0.mk ((by rw [hg]; exact Nat.ne_of_gt (blk_lt (g := gb394) (o := .cells #[.slice Ao64 t388.length co64, .int .i64 t391] 24 (0, 0)) (by (with_reducible repeat (first | refine blk_drewN ?_ _ | refine blk_drew ?_ | refine blk_alloc ?_ _)); exact BK394.out)) : gb399 ≠ gb394)); clear HO390; clear HO397; clear BK381; clear BK382; clear BK394; clear HB; have HO390 := n0_; have HO397 := n1_; have BK381 := n2_; have BK382 := n3_; have BK394 := n4_; have HB := n5_; have BK399 := n6_; have GW399 := n7_; have GE399 := n8_; have NB381_399 := n9_; have NB399_381 := n10_; have NB382_399 := n11_; have NB399_382 := n12_; have NB394_399 := n13_; have NB399_394 := n14_; clear n0_ n1_ n2_ n3_ n4_ n5_ n6_ n7_ n8_ n9_ n10_ n11_ n12_ n13_ n14_; clear hb hbox hg; obtain ⟨Ao72, co72, eo72⟩ := Kd.V_slice HO397.out; subst eo72; have hnb73 := NB399_381.out; have hnc73 := NB381_399.out; have hnb74 := NB399_382.out; have hnc74 := NB382_399.out; have hnb75 := NB399_394.out; have hnc75 := NB394_399.out; have hcz76_0 : w71.cell? ⟨gb399, 0, none⟩ = some (.slice none 0 0) := (blk_cell BK399.out 0).trans rfl; have hcz76_1 : w71.cell? ⟨gb399, 1, none⟩ = some (.int .i64 0) := (blk_cell BK399.out 1).trans rfl; have hfz76_0 := blk_frozen BK399.out 0; have hfz76_1 := blk_frozen BK399.out 1))
                            have n0_ : Aside0 (Kd.V k55 55 ((w71.setCell ⟨gb399, 0, none⟩ (.slice Ao72 t395.length co72)).setCell ⟨gb399, 1, none⟩ (.int .i64 t398)) w.heap.size (fun k_ => k_ ≠ gb381 ∧ k_ ≠ gb382 ∧ k_ ≠ gb394 ∧ k_ ≠ gb399) (.slice Ao64 t388.length co64) t388) := ⟨by (with_reducible repeat (first | apply Kd.V_alloc | apply Kd.V_drewN | apply Kd.V_drew)); exact Kd.V_mono (Kd.V_far (p := ⟨gb399, 1, none⟩) (Kd.V_far (p := ⟨gb399, 0, none⟩) (Kd.V_mono HO390.out (fun k_ hk => (⟨hk, hk.2⟩ : _ ∧ k_ ≠ gb399))) (fun _ hk => hk.2) (.slice Ao72 t395.length co72)) (fun _ hk => hk.2) (.int .i64 t398)) (fun _ hk => ⟨hk.1.1.1, ⟨hk.1.1.2.1, ⟨hk.1.1.2.2, hk.1.2⟩⟩⟩)⟩
                            have n1_ : Aside0 (Kd.V k55 55 ((w71.setCell ⟨gb399, 0, none⟩ (.slice Ao72 t395.length co72)).setCell ⟨gb399, 1, none⟩ (.int .i64 t398)) w.heap.size (fun k_ => k_ ≠ gb381 ∧ k_ ≠ gb382 ∧ k_ ≠ gb394 ∧ k_ ≠ gb399) (.slice Ao72 t395.length co72) t395) := ⟨by (with_reducible repeat (first | apply Kd.V_alloc | apply Kd.V_drewN | apply Kd.V_drew)); exact Kd.V_mono (Kd.V_far (p := ⟨gb399, 1, none⟩) (Kd.V_far (p := ⟨gb399, 0, none⟩) (Kd.V_mono HO397.out (fun k_ hk => (⟨hk, hk.2⟩ : _ ∧ k_ ≠ gb399))) (fun _ hk => hk.2) (.slice Ao72 t395.length co72)) (fun _ hk => hk.2) (.int .i64 t398)) (fun _ hk => ⟨hk.1.1.1, ⟨hk.1.1.2.1, ⟨hk.1.1.2.2, hk.1.2⟩⟩⟩)⟩
                            have n2_ : Aside0 (((w71.setCell ⟨gb399, 0, none⟩ (.slice Ao72 t395.length co72)).setCell ⟨gb399, 1, none⟩ (.int .i64 t398)).heap[gb381]? = some (.cells #[.slice A0_0 l0_0.length c0_0, .int .i64 a0_1] 24 (0, 0))) := ⟨by (with_reducible repeat (first | refine blk_drewN ?_ _ | refine blk_drew ?_ | refine blk_alloc ?_ _)); refine blk_far ?_ NB381_399.out _; (with_reducible repeat (first | refine blk_drewN ?_ _ | refine blk_drew ?_ | refine blk_alloc ?_ _)); refine blk_far ?_ NB381_399.out _; (with_reducible repeat (first | refine blk_drewN ?_ _ | refine blk_drew ?_ | refine blk_alloc ?_ _)); exact BK381.out⟩
                            have n3_ : Aside0 (((w71.setCell ⟨gb399, 0, none⟩ (.slice Ao72 t395.length co72)).setCell ⟨gb399, 1, none⟩ (.int .i64 t398)).heap[gb382]? = some (.cells #[.bool a2_0, .slice A2_1 l2_1.length c2_1] 53 (0, 0))) := ⟨by (with_reducible repeat (first | refine blk_drewN ?_ _ | refine blk_drew ?_ | refine blk_alloc ?_ _)); refine blk_far ?_ NB382_399.out _; (with_reducible repeat (first | refine blk_drewN ?_ _ | refine blk_drew ?_ | refine blk_alloc ?_ _)); refine blk_far ?_ NB382_399.out _; (with_reducible repeat (first | refine blk_drewN ?_ _ | refine blk_drew ?_ | refine blk_alloc ?_ _)); exact BK382.out⟩
                            have n4_ : Aside0 (((w71.setCell ⟨gb399, 0, none⟩ (.slice Ao72 t395.length co72)).setCell ⟨gb399, 1, none⟩ (.int .i64 t398)).heap[gb394]? = some (.cells #[.slice Ao64 t388.length co64, .int .i64 t391] 24 (0, 0))) := ⟨by (with_reducible repeat (first | refine blk_drewN ?_ _ | refine blk_drew ?_ | refine blk_alloc ?_ _)); refine blk_far ?_ NB394_399.out _; (with_reducible repeat (first | refine blk_drewN ?_ _ | refine blk_drew ?_ | refine blk_alloc ?_ _)); refine blk_far ?_ NB394_399.out _; (with_reducible repeat (first | refine blk_drewN ?_ _ | refine blk_drew ?_ | refine blk_alloc ?_ _)); exact BK394.out⟩
                            have n5_ : Aside0 (((w71.setCell ⟨gb399, 0, none⟩ (.slice Ao72 t395.length co72)).setCell ⟨gb399, 1, none⟩ (.int .i64 t398)).heap[gb399]? = some (.cells #[.slice Ao72 t395.length co72, .int .i64 t398] 24 (0, 0))) := ⟨by (with_reducible repeat (first | refine blk_drewN ?_ _ | refine blk_drew ?_ | refine blk_alloc ?_ _)); refine blk_put (cs := #[.slice Ao72 t395.length co72, .int .i64 0]) ?_ 1 _ rfl; (with_reducible repeat (first | refine blk_drewN ?_ _ | refine blk_drew ?_ | refine blk_alloc ?_ _)); refine blk_put (cs := #[.slice none 0 0, .int .i64 0]) ?_ 0 _ rfl; (with_reducible repeat (first | refine blk_drewN ?_ _ | refine blk_drew ?_ | refine blk_alloc ?_ _)); exact BK399.out⟩
                            have n6_ : Aside0 (Below w.heap.size w ((w71.setCell ⟨gb399, 0, none⟩ (.slice Ao72 t395.length co72)).setCell ⟨gb399, 1, none⟩ (.int .i64 t398))) := ⟨by repeat (first | (with_reducible first | exact HB.out | apply below_alloc | apply pw_below_drewN | apply below_drew1 | refine below_set ?_ GE381.out | refine below_set ?_ GE382.out | refine below_set ?_ GE394.out | refine below_set ?_ GE399.out) | exact HB.out)⟩
                            (try clear HO390)
                            (try clear HO397)
                            (try clear BK381)
                            (try clear BK382)
                            (try clear BK394)
                            (try clear BK399)
                            (try clear HB)
                            generalize ((w71.setCell ⟨gb399, 0, none⟩ (.slice Ao72 t395.length co72)).setCell ⟨gb399, 1, none⟩ (.int .i64 t398)) = w77 at n0_ n1_ n2_ n3_ n4_ n5_ n6_ ⊢
                            have HO390 := n0_
                            have HO397 := n1_
                            have BK381 := n2_
                            have BK382 := n3_
                            have BK394 := n4_
                            have BK399 := n5_
                            have HB := n6_
                            clear n0_ n1_ n2_ n3_ n4_ n5_ n6_
                            have n0_ := Aside0.mk (Kd.V_drew HO390.out)
                            have n1_ := Aside0.mk (Kd.V_drew HO397.out)
                            have n2_ := Aside0.mk (blk_drew BK381.out)
                            have n3_ := Aside0.mk (blk_drew BK382.out)
                            have n4_ := Aside0.mk (blk_drew BK394.out)
                            have n5_ := Aside0.mk (blk_drew BK399.out)
                            have n6_ := Aside0.mk (below_drew1 HB.out)
                            clear HO390
                            clear HO397
                            clear BK381
                            clear BK382
                            clear BK394
                            clear BK399
                            clear HB
                            have HO390 := n0_
                            have HO397 := n1_
                            have BK381 := n2_
                            have BK382 := n3_
                            have BK394 := n4_
                            have BK399 := n5_
                            have HB := n6_
                            clear n0_ n1_ n2_ n3_ n4_ n5_ n6_
                            refine start_ (n := 52) (S := fun w' => w'.cell? ⟨gb381, 0, none⟩ = some (.slice A0_0 l0_0.length c0_0) ∧ w'.cell? ⟨gb381, 1, none⟩ = some (.int .i64 a0_1) ∧ w'.cell? ⟨gb399, 0, none⟩ = some (.slice Ao72 t395.length co72) ∧ w'.cell? ⟨gb399, 1, none⟩ = some (.int .i64 t398)) (ds := []) #[false, false, false, false, false, false, false, false, false, false, false, false, false, false, false, false, false, false, false, false, false, false, false, false, false, false, false, false, false, false, false, false, false, false, false, false, false, false, false, false, false, false, false, false, false, false, false, false, false, false, false, false] (by kernel_rfl) rfl rfl ⟨(blk_cell BK381.out 0).trans rfl, (blk_cell BK381.out 1).trans rfl, (blk_cell BK399.out 0).trans rfl, (blk_cell BK399.out 1).trans rfl⟩ (fun hHeld => ?_); refine with_tabW assartlaw05_HeapFits.tab15 assartlaw05_HeapFits.bits15 (fun HT_ HW_ => ?_)
                            generalize w77.drew = w78 at HO390 HO397 BK381 BK382 BK394 BK399 HB hHeld ⊢
                            refine pure_ (i := 0) (N := some 70) (v := ?_) (a' := ?_) #[true, false, false, false, false, false, false, false, false, false, false, false, false, false, false, false, false, false, false, false, false, false, false, false, false, false, false, false, false, false, false, false, false, false, false, false, false, false, false, false, false, false, false, false, false, false, false, false, false, false, false, false] rfl rfl (any_of HT_.out (by kernel_rfl)) (fun _ _ _ h => h) (Or.inl ⟨by rfl, ?_⟩) ?_ ?_
                            rotate_left
                            · intro w'
                              go_simp
                              with_reducible rfl
                            rotate_left
                            · simp only [Act.put, List.setIfInBounds_toArray, List.set_cons_zero, List.set_cons_succ, i64_w, i32_w]
                              rfl
                            refine pure_ (i := 1) (N := some 71) (v := ?_) (a' := ?_) #[true, true, false, false, false, false, false, false, false, false, false, false, false, false, false, false, false, false, false, false, false, false, false, false, false, false, false, false, false, false, false, false, false, false, false, false, false, false, false, false, false, false, false, false, false, false, false, false, false, false, false, false] rfl rfl (any_of HT_.out (by kernel_rfl)) (fun _ _ _ h => h) (Or.inl ⟨by rfl, ?_⟩) ?_ ?_
                            rotate_left
                            · intro w'
                              go_simp
                              with_reducible rfl
                            rotate_left
                            · simp only [Act.put, List.setIfInBounds_toArray, List.set_cons_zero, List.set_cons_succ, i64_w, i32_w]
                              rfl
                            refine pure_ (i := 4) (N := some 74) (v := ?_) (a' := ?_) #[true, true, false, false, true, false, false, false, false, false, false, false, false, false, false, false, false, false, false, false, false, false, false, false, false, false, false, false, false, false, false, false, false, false, false, false, false, false, false, false, false, false, false, false, false, false, false, false, false, false, false, false] rfl rfl (any_of HT_.out (by kernel_rfl)) (fun _ _ _ h => h) (Or.inl ⟨by rfl, ?_⟩) ?_ ?_
                            rotate_left
                            · intro w'
                              go_simp
                              with_reducible rfl
                            rotate_left
                            · simp only [Act.put, List.setIfInBounds_toArray, List.set_cons_zero, List.set_cons_succ, i64_w, i32_w]
                              rfl
                            refine take_ (i := 2) (N := some 72) (v := ?_) (a' := ?_) #[true, true, true, false, true, false, false, false, false, false, false, false, false, false, false, false, false, false, false, false, false, false, false, false, false, false, false, false, false, false, false, false, false, false, false, false, false, false, false, false, false, false, false, false, false, false, false, false, false, false, false, false] rfl rfl (take_ofW HT_.out HW_.out (by kernel_rfl)) (fun _ _ _ h => h) (Or.inl ⟨by rfl, ?_⟩) hHeld ?_ ?_
                            rotate_left
                            · rintro w' ⟨s0, s1, s2, s3⟩
                              go_simp
                              with_reducible rfl
                            rotate_left
                            · simp only [Act.put, List.setIfInBounds_toArray, List.set_cons_zero, List.set_cons_succ, i64_w, i32_w]
                              rfl
                            refine one_ (i := 3) (N := some 73) #[true, true, true, true, true, false, false, false, false, false, false, false, false, false, false, false, false, false, false, false, false, false, false, false, false, false, false, false, false, false, false, false, false, false, false, false, false, false, false, false, false, false, false, false, false, false, false, false, false, false, false, false] rfl rfl (one_of HT_.out (by kernel_rfl)) (by decide) (fun K hK => ?_)
                            refine goes_ Try.func40 (by kernel_rfl) rfl #[.agg #[.slice A0_0 l0_0.length c0_0, .int .i64 a0_1]] (by rfl) rfl rfl (by (try simp only [List.map_toArray, List.map_cons, List.map_nil]); first | done | rfl | (simp only [List.length_drop, List.length_take]; rfl)) ?_
                            with_reducible refine (heap_Free.calls k2 _ _ l0_0 a0_1 t400 _ ?side1 ?side2 A45.out).mono ?_
                            (case side1 => repeat (first | exact (Kd.C_below HR0_0.out HB.out) | (with_reducible refine Kd.C_alloc ?_ _) | (with_reducible refine Kd.C_drewN ?_ _) | (with_reducible refine Kd.C_drew ?_)))
                            (case side2 => exact HC0_0.out)
                            rintro e w79 ⟨rfl, hb⟩
                            refine ⟨_, rfl, ?_⟩
                            have n0_ := Aside0.mk (Kd.V_below (by (with_reducible repeat (first | apply Kd.V_alloc | apply Kd.V_drewN | apply Kd.V_drew)); exact HO390.out) hb)
                            have n1_ := Aside0.mk (Kd.V_below (by (with_reducible repeat (first | apply Kd.V_alloc | apply Kd.V_drewN | apply Kd.V_drew)); exact HO397.out) hb)
                            have n2_ := Aside0.mk (blk_below (g := gb381) (o := .cells #[.slice A0_0 l0_0.length c0_0, .int .i64 a0_1] 24 (0, 0)) (by (with_reducible repeat (first | refine blk_drewN ?_ _ | refine blk_drew ?_ | refine blk_alloc ?_ _)); exact BK381.out) hb)
                            have n3_ := Aside0.mk (blk_below (g := gb382) (o := .cells #[.bool a2_0, .slice A2_1 l2_1.length c2_1] 53 (0, 0)) (by (with_reducible repeat (first | refine blk_drewN ?_ _ | refine blk_drew ?_ | refine blk_alloc ?_ _)); exact BK382.out) hb)
                            have n4_ := Aside0.mk (blk_below (g := gb394) (o := .cells #[.slice Ao64 t388.length co64, .int .i64 t391] 24 (0, 0)) (by (with_reducible repeat (first | refine blk_drewN ?_ _ | refine blk_drew ?_ | refine blk_alloc ?_ _)); exact BK394.out) hb)
                            have n5_ := Aside0.mk (blk_below (g := gb399) (o := .cells #[.slice Ao72 t395.length co72, .int .i64 t398] 24 (0, 0)) (by (with_reducible repeat (first | refine blk_drewN ?_ _ | refine blk_drew ?_ | refine blk_alloc ?_ _)); exact BK399.out) hb)
                            have n6_ := Aside0.mk (below_step (by repeat (first | (with_reducible first | exact HB.out | apply below_alloc | apply pw_below_drewN | apply below_drew1 | refine below_set ?_ GE381.out | refine below_set ?_ GE382.out | refine below_set ?_ GE394.out | refine below_set ?_ GE399.out) | exact HB.out)) hb)
                            clear HO390
                            clear HO397
                            clear BK381
                            clear BK382
                            clear BK394
                            clear BK399
                            clear HB
                            have HO390 := n0_
                            have HO397 := n1_
                            have BK381 := n2_
                            have BK382 := n3_
                            have BK394 := n4_
                            have BK399 := n5_
                            have HB := n6_
                            clear n0_ n1_ n2_ n3_ n4_ n5_ n6_
                            (try clear hb)
                            (try clear hb2)
                            (try clear hk)
                            (try clear hi)
                            refine hK.out _ _ ⟨(blk_cell BK381.out 0).trans rfl, (blk_cell BK381.out 1).trans rfl, (blk_cell BK399.out 0).trans rfl, (blk_cell BK399.out 1).trans rfl⟩ (fun hHeld => ?_)
                            clear hK K
                            refine norm_ (a' := ?_) ?_ ?_
                            rotate_left
                            · show Act.put _ (some 73) _ = _
                              simp only [Act.put, List.setIfInBounds_toArray, List.set_cons_zero, List.set_cons_succ, i64_w, i32_w]
                              rfl
                            refine pure_ (i := 5) (N := some 75) (v := ?_) (a' := ?_) #[true, true, true, true, true, true, false, false, false, false, false, false, false, false, false, false, false, false, false, false, false, false, false, false, false, false, false, false, false, false, false, false, false, false, false, false, false, false, false, false, false, false, false, false, false, false, false, false, false, false, false, false] rfl rfl (any_of HT_.out (by kernel_rfl)) (fun _ _ _ h => h) (Or.inl ⟨by rfl, ?_⟩) ?_ ?_
                            rotate_left
                            · intro w'
                              go_simp
                              with_reducible rfl
                            rotate_left
                            · simp only [Act.put, List.setIfInBounds_toArray, List.set_cons_zero, List.set_cons_succ, i64_w, i32_w]
                              rfl
                            refine pure_ (i := 6) (N := some 76) (v := ?_) (a' := ?_) #[true, true, true, true, true, true, true, false, false, false, false, false, false, false, false, false, false, false, false, false, false, false, false, false, false, false, false, false, false, false, false, false, false, false, false, false, false, false, false, false, false, false, false, false, false, false, false, false, false, false, false, false] rfl rfl (any_of HT_.out (by kernel_rfl)) (fun _ _ _ h => h) (Or.inl ⟨by rfl, ?_⟩) ?_ ?_
                            rotate_left
                            · intro w'
                              go_simp
                              with_reducible rfl
                            rotate_left
                            · simp only [Act.put, List.setIfInBounds_toArray, List.set_cons_zero, List.set_cons_succ, i64_w, i32_w]
                              rfl
                            refine pure_ (i := 7) (N := some 77) (v := ?_) (a' := ?_) #[true, true, true, true, true, true, true, true, false, false, false, false, false, false, false, false, false, false, false, false, false, false, false, false, false, false, false, false, false, false, false, false, false, false, false, false, false, false, false, false, false, false, false, false, false, false, false, false, false, false, false, false] rfl rfl (any_of HT_.out (by kernel_rfl)) (fun _ _ _ h => h) (Or.inl ⟨by rfl, ?_⟩) ?_ ?_
                            rotate_left
                            · intro w'
                              go_simp
                              with_reducible rfl
                            rotate_left
                            · simp only [Act.put, List.setIfInBounds_toArray, List.set_cons_zero, List.set_cons_succ, i64_w, i32_w]
                              rfl
                            refine pure_ (i := 9) (N := some 79) (v := ?_) (a' := ?_) #[true, true, true, true, true, true, true, true, false, true, false, false, false, false, false, false, false, false, false, false, false, false, false, false, false, false, false, false, false, false, false, false, false, false, false, false, false, false, false, false, false, false, false, false, false, false, false, false, false, false, false, false] rfl rfl (any_of HT_.out (by kernel_rfl)) (fun _ _ _ h => h) (Or.inl ⟨by rfl, ?_⟩) ?_ ?_
                            rotate_left
                            · intro w'
                              go_simp
                              with_reducible rfl
                            rotate_left
                            · simp only [Act.put, List.setIfInBounds_toArray, List.set_cons_zero, List.set_cons_succ, i64_w, i32_w]
                              rfl
                            refine pure_ (i := 11) (N := some 81) (v := ?_) (a' := ?_) #[true, true, true, true, true, true, true, true, false, true, false, true, false, false, false, false, false, false, false, false, false, false, false, false, false, false, false, false, false, false, false, false, false, false, false, false, false, false, false, false, false, false, false, false, false, false, false, false, false, false, false, false] rfl rfl (any_of HT_.out (by kernel_rfl)) (fun _ _ _ h => h) (Or.inl ⟨by rfl, ?_⟩) ?_ ?_
                            rotate_left
                            · intro w'
                              go_simp
                              with_reducible rfl
                            rotate_left
                            · simp only [Act.put, List.setIfInBounds_toArray, List.set_cons_zero, List.set_cons_succ, i64_w, i32_w]
                              rfl
                            refine pure_ (i := 12) (N := some 82) (v := ?_) (a' := ?_) #[true, true, true, true, true, true, true, true, false, true, false, true, true, false, false, false, false, false, false, false, false, false, false, false, false, false, false, false, false, false, false, false, false, false, false, false, false, false, false, false, false, false, false, false, false, false, false, false, false, false, false, false] rfl rfl (any_of HT_.out (by kernel_rfl)) (fun _ _ _ h => h) (Or.inl ⟨by rfl, ?_⟩) ?_ ?_
                            rotate_left
                            · intro w'
                              go_simp
                              with_reducible rfl
                            rotate_left
                            · simp only [Act.put, List.setIfInBounds_toArray, List.set_cons_zero, List.set_cons_succ, i64_w, i32_w]
                              rfl
                            refine pure_ (i := 13) (N := some 83) (v := ?_) (a' := ?_) #[true, true, true, true, true, true, true, true, false, true, false, true, true, true, false, false, false, false, false, false, false, false, false, false, false, false, false, false, false, false, false, false, false, false, false, false, false, false, false, false, false, false, false, false, false, false, false, false, false, false, false, false] rfl rfl (any_of HT_.out (by kernel_rfl)) (fun _ _ _ h => h) (Or.inl ⟨by rfl, ?_⟩) ?_ ?_
                            rotate_left
                            · intro w'
                              go_simp
                              with_reducible rfl
                            rotate_left
                            · simp only [Act.put, List.setIfInBounds_toArray, List.set_cons_zero, List.set_cons_succ, i64_w, i32_w]
                              rfl
                            refine take_ (i := 8) (N := some 78) (v := ?_) (a' := ?_) #[true, true, true, true, true, true, true, true, true, true, false, true, true, true, false, false, false, false, false, false, false, false, false, false, false, false, false, false, false, false, false, false, false, false, false, false, false, false, false, false, false, false, false, false, false, false, false, false, false, false, false, false] rfl rfl (take_ofW HT_.out HW_.out (by kernel_rfl)) (fun _ _ _ h => h) (Or.inl ⟨by rfl, ?_⟩) hHeld ?_ ?_
                            rotate_left
                            · rintro w' ⟨s0, s1, s2, s3⟩
                              go_simp
                              with_reducible rfl
                            rotate_left
                            · simp only [Act.put, List.setIfInBounds_toArray, List.set_cons_zero, List.set_cons_succ, i64_w, i32_w]
                              rfl
                            refine one_ (i := 10) (N := some 80) #[true, true, true, true, true, true, true, true, true, true, true, true, true, true, false, false, false, false, false, false, false, false, false, false, false, false, false, false, false, false, false, false, false, false, false, false, false, false, false, false, false, false, false, false, false, false, false, false, false, false, false, false] rfl rfl (one_of HT_.out (by kernel_rfl)) (by decide) (fun K hK => ?_)
                            refine goes_ Try.func42 (by kernel_rfl) rfl #[.agg #[.slice A0_0 l0_0.length c0_0, .int .i64 a0_1], .int .i64 a1, .bool true] (by rfl) rfl rfl (by (try simp only [List.map_toArray, List.map_cons, List.map_nil]); first | done | rfl | (simp only [List.length_drop, List.length_take]; rfl)) ?_
                            with_reducible refine (heap_Fits.calls k2 _ _ l0_0 a0_1 a1 true t401 _ ?side1 ?side2 A47.out).mono ?_
                            (case side1 => repeat (first | exact (Kd.C_below HR0_0.out HB.out) | (with_reducible refine Kd.C_alloc ?_ _) | (with_reducible refine Kd.C_drewN ?_ _) | (with_reducible refine Kd.C_drew ?_)))
                            (case side2 => exact HC0_0.out)
                            rintro e w80 ⟨rfl, hb⟩
                            refine ⟨_, rfl, ?_⟩
                            have n0_ := Aside0.mk (Kd.V_below (by (with_reducible repeat (first | apply Kd.V_alloc | apply Kd.V_drewN | apply Kd.V_drew)); exact HO390.out) hb)
                            have n1_ := Aside0.mk (Kd.V_below (by (with_reducible repeat (first | apply Kd.V_alloc | apply Kd.V_drewN | apply Kd.V_drew)); exact HO397.out) hb)
                            have n2_ := Aside0.mk (blk_below (g := gb381) (o := .cells #[.slice A0_0 l0_0.length c0_0, .int .i64 a0_1] 24 (0, 0)) (by (with_reducible repeat (first | refine blk_drewN ?_ _ | refine blk_drew ?_ | refine blk_alloc ?_ _)); exact BK381.out) hb)
                            have n3_ := Aside0.mk (blk_below (g := gb382) (o := .cells #[.bool a2_0, .slice A2_1 l2_1.length c2_1] 53 (0, 0)) (by (with_reducible repeat (first | refine blk_drewN ?_ _ | refine blk_drew ?_ | refine blk_alloc ?_ _)); exact BK382.out) hb)
                            have n4_ := Aside0.mk (blk_below (g := gb394) (o := .cells #[.slice Ao64 t388.length co64, .int .i64 t391] 24 (0, 0)) (by (with_reducible repeat (first | refine blk_drewN ?_ _ | refine blk_drew ?_ | refine blk_alloc ?_ _)); exact BK394.out) hb)
                            have n5_ := Aside0.mk (blk_below (g := gb399) (o := .cells #[.slice Ao72 t395.length co72, .int .i64 t398] 24 (0, 0)) (by (with_reducible repeat (first | refine blk_drewN ?_ _ | refine blk_drew ?_ | refine blk_alloc ?_ _)); exact BK399.out) hb)
                            have n6_ := Aside0.mk (below_step (by repeat (first | (with_reducible first | exact HB.out | apply below_alloc | apply pw_below_drewN | apply below_drew1 | refine below_set ?_ GE381.out | refine below_set ?_ GE382.out | refine below_set ?_ GE394.out | refine below_set ?_ GE399.out) | exact HB.out)) hb)
                            clear HO390
                            clear HO397
                            clear BK381
                            clear BK382
                            clear BK394
                            clear BK399
                            clear HB
                            have HO390 := n0_
                            have HO397 := n1_
                            have BK381 := n2_
                            have BK382 := n3_
                            have BK394 := n4_
                            have BK399 := n5_
                            have HB := n6_
                            clear n0_ n1_ n2_ n3_ n4_ n5_ n6_
                            (try clear hb)
                            (try clear hb2)
                            (try clear hk)
                            (try clear hi)
                            refine hK.out _ _ ⟨(blk_cell BK381.out 0).trans rfl, (blk_cell BK381.out 1).trans rfl, (blk_cell BK399.out 0).trans rfl, (blk_cell BK399.out 1).trans rfl⟩ (fun hHeld => ?_)
                            clear hK K
                            refine norm_ (a' := ?_) ?_ ?_
                            rotate_left
                            · show Act.put _ (some 80) _ = _
                              simp only [Act.put, List.setIfInBounds_toArray, List.set_cons_zero, List.set_cons_succ, i64_w, i32_w]
                              rfl
                            refine pure_ (i := 14) (N := some 84) (v := ?_) (a' := ?_) #[true, true, true, true, true, true, true, true, true, true, true, true, true, true, true, false, false, false, false, false, false, false, false, false, false, false, false, false, false, false, false, false, false, false, false, false, false, false, false, false, false, false, false, false, false, false, false, false, false, false, false, false] rfl rfl (any_of HT_.out (by kernel_rfl)) (fun _ _ _ h => h) (Or.inl ⟨by rfl, ?_⟩) ?_ ?_
                            rotate_left
                            · intro w'
                              go_simp
                              with_reducible rfl
                            rotate_left
                            · simp only [Act.put, List.setIfInBounds_toArray, List.set_cons_zero, List.set_cons_succ, i64_w, i32_w]
                              rfl
                            refine pure_ (i := 15) (N := some 85) (v := ?_) (a' := ?_) #[true, true, true, true, true, true, true, true, true, true, true, true, true, true, true, true, false, false, false, false, false, false, false, false, false, false, false, false, false, false, false, false, false, false, false, false, false, false, false, false, false, false, false, false, false, false, false, false, false, false, false, false] rfl rfl (any_of HT_.out (by kernel_rfl)) (fun _ _ _ h => h) (Or.inl ⟨by rfl, ?_⟩) ?_ ?_
                            rotate_left
                            · intro w'
                              go_simp
                              with_reducible rfl
                            rotate_left
                            · simp only [Act.put, List.setIfInBounds_toArray, List.set_cons_zero, List.set_cons_succ, i64_w, i32_w]
                              rfl
                            refine pure_ (i := 16) (N := some 86) (v := ?_) (a' := ?_) #[true, true, true, true, true, true, true, true, true, true, true, true, true, true, true, true, true, false, false, false, false, false, false, false, false, false, false, false, false, false, false, false, false, false, false, false, false, false, false, false, false, false, false, false, false, false, false, false, false, false, false, false] rfl rfl (any_of HT_.out (by kernel_rfl)) (fun _ _ _ h => h) (Or.inl ⟨by rfl, ?_⟩) ?_ ?_
                            rotate_left
                            · intro w'
                              go_simp
                              with_reducible rfl
                            rotate_left
                            · simp only [Act.put, List.setIfInBounds_toArray, List.set_cons_zero, List.set_cons_succ, i64_w, i32_w]
                              rfl
                            refine pure_ (i := 18) (N := some 88) (v := ?_) (a' := ?_) #[true, true, true, true, true, true, true, true, true, true, true, true, true, true, true, true, true, false, true, false, false, false, false, false, false, false, false, false, false, false, false, false, false, false, false, false, false, false, false, false, false, false, false, false, false, false, false, false, false, false, false, false] rfl rfl (any_of HT_.out (by kernel_rfl)) (fun _ _ _ h => h) (Or.inl ⟨by rfl, ?_⟩) ?_ ?_
                            rotate_left
                            · intro w'
                              go_simp
                              with_reducible rfl
                            rotate_left
                            · simp only [Act.put, List.setIfInBounds_toArray, List.set_cons_zero, List.set_cons_succ, i64_w, i32_w]
                              rfl
                            refine pure_ (i := 20) (N := some 90) (v := ?_) (a' := ?_) #[true, true, true, true, true, true, true, true, true, true, true, true, true, true, true, true, true, false, true, false, true, false, false, false, false, false, false, false, false, false, false, false, false, false, false, false, false, false, false, false, false, false, false, false, false, false, false, false, false, false, false, false] rfl rfl (any_of HT_.out (by kernel_rfl)) (fun _ _ _ h => h) (Or.inl ⟨by rfl, ?_⟩) ?_ ?_
                            rotate_left
                            · intro w'
                              go_simp
                              with_reducible rfl
                            rotate_left
                            · simp only [Act.put, List.setIfInBounds_toArray, List.set_cons_zero, List.set_cons_succ, i64_w, i32_w]
                              rfl
                            refine pure_ (i := 21) (N := some 91) (v := ?_) (a' := ?_) #[true, true, true, true, true, true, true, true, true, true, true, true, true, true, true, true, true, false, true, false, true, true, false, false, false, false, false, false, false, false, false, false, false, false, false, false, false, false, false, false, false, false, false, false, false, false, false, false, false, false, false, false] rfl rfl (any_of HT_.out (by kernel_rfl)) (fun _ _ _ h => h) (Or.inl ⟨by rfl, ?_⟩) ?_ ?_
                            rotate_left
                            · intro w'
                              go_simp
                              with_reducible rfl
                            rotate_left
                            · simp only [Act.put, List.setIfInBounds_toArray, List.set_cons_zero, List.set_cons_succ, i64_w, i32_w]
                              rfl
                            refine pure_ (i := 22) (N := some 92) (v := ?_) (a' := ?_) #[true, true, true, true, true, true, true, true, true, true, true, true, true, true, true, true, true, false, true, false, true, true, true, false, false, false, false, false, false, false, false, false, false, false, false, false, false, false, false, false, false, false, false, false, false, false, false, false, false, false, false, false] rfl rfl (any_of HT_.out (by kernel_rfl)) (fun _ _ _ h => h) (Or.inl ⟨by rfl, ?_⟩) ?_ ?_
                            rotate_left
                            · intro w'
                              go_simp
                              with_reducible rfl
                            rotate_left
                            · simp only [Act.put, List.setIfInBounds_toArray, List.set_cons_zero, List.set_cons_succ, i64_w, i32_w]
                              rfl
                            refine take_ (i := 17) (N := some 87) (v := ?_) (a' := ?_) #[true, true, true, true, true, true, true, true, true, true, true, true, true, true, true, true, true, true, true, false, true, true, true, false, false, false, false, false, false, false, false, false, false, false, false, false, false, false, false, false, false, false, false, false, false, false, false, false, false, false, false, false] rfl rfl (take_ofW HT_.out HW_.out (by kernel_rfl)) (fun _ _ _ h => h) (Or.inl ⟨by rfl, ?_⟩) hHeld ?_ ?_
                            rotate_left
                            · rintro w' ⟨s0, s1, s2, s3⟩
                              go_simp
                              with_reducible rfl
                            rotate_left
                            · simp only [Act.put, List.setIfInBounds_toArray, List.set_cons_zero, List.set_cons_succ, i64_w, i32_w]
                              rfl
                            refine take_ (i := 23) (N := some 93) (v := ?_) (a' := ?_) #[true, true, true, true, true, true, true, true, true, true, true, true, true, true, true, true, true, true, true, false, true, true, true, true, false, false, false, false, false, false, false, false, false, false, false, false, false, false, false, false, false, false, false, false, false, false, false, false, false, false, false, false] rfl rfl (take_ofW HT_.out HW_.out (by kernel_rfl)) (fun _ _ _ h => h) (Or.inl ⟨by rfl, ?_⟩) hHeld ?_ ?_
                            rotate_left
                            · rintro w' ⟨s0, s1, s2, s3⟩
                              go_simp
                              with_reducible rfl
                            rotate_left
                            · simp only [Act.put, List.setIfInBounds_toArray, List.set_cons_zero, List.set_cons_succ, i64_w, i32_w]
                              rfl
                            refine pure_ (i := 24) (N := some 94) (v := ?_) (a' := ?_) #[true, true, true, true, true, true, true, true, true, true, true, true, true, true, true, true, true, true, true, false, true, true, true, true, true, false, false, false, false, false, false, false, false, false, false, false, false, false, false, false, false, false, false, false, false, false, false, false, false, false, false, false] rfl rfl (any_of HT_.out (by kernel_rfl)) (fun _ _ _ h => h) (Or.inl ⟨by rfl, ?_⟩) ?_ ?_
                            rotate_left
                            · intro w'
                              go_simp
                              with_reducible rfl
                            rotate_left
                            · simp only [Act.put, List.setIfInBounds_toArray, List.set_cons_zero, List.set_cons_succ, i64_w, i32_w]
                              rfl
                            refine pure_ (i := 25) (N := some 95) (v := ?_) (a' := ?_) #[true, true, true, true, true, true, true, true, true, true, true, true, true, true, true, true, true, true, true, false, true, true, true, true, true, true, false, false, false, false, false, false, false, false, false, false, false, false, false, false, false, false, false, false, false, false, false, false, false, false, false, false] rfl rfl (any_of HT_.out (by kernel_rfl)) (fun _ _ _ h => h) (Or.inl ⟨by rfl, ?_⟩) ?_ ?_
                            rotate_left
                            · intro w'
                              go_simp
                              with_reducible rfl
                            rotate_left
                            · simp only [Act.put, List.setIfInBounds_toArray, List.set_cons_zero, List.set_cons_succ, i64_w, i32_w]
                              rfl
                            refine one_ (i := 19) (N := some 89) #[true, true, true, true, true, true, true, true, true, true, true, true, true, true, true, true, true, true, true, true, true, true, true, true, true, true, false, false, false, false, false, false, false, false, false, false, false, false, false, false, false, false, false, false, false, false, false, false, false, false, false, false] rfl rfl (one_of HT_.out (by kernel_rfl)) (by decide) (fun K hK => ?_)
                            refine goes_ Try.func42 (by kernel_rfl) rfl #[.agg #[.slice A0_0 l0_0.length c0_0, .int .i64 a0_1], .int .i64 a1, .bool false] (by rfl) rfl rfl (by (try simp only [List.map_toArray, List.map_cons, List.map_nil]); first | done | rfl | (simp only [List.length_drop, List.length_take]; rfl)) ?_
                            with_reducible refine (heap_Fits.calls k2 _ _ l0_0 a0_1 a1 false t402 _ ?side1 ?side2 A49.out).mono ?_
                            (case side1 => repeat (first | exact (Kd.C_below HR0_0.out HB.out) | (with_reducible refine Kd.C_alloc ?_ _) | (with_reducible refine Kd.C_drewN ?_ _) | (with_reducible refine Kd.C_drew ?_)))
                            (case side2 => exact HC0_0.out)
                            rintro e w81 ⟨rfl, hb⟩
                            refine ⟨_, rfl, ?_⟩
                            have n0_ := Aside0.mk (Kd.V_below (by (with_reducible repeat (first | apply Kd.V_alloc | apply Kd.V_drewN | apply Kd.V_drew)); exact HO390.out) hb)
                            have n1_ := Aside0.mk (Kd.V_below (by (with_reducible repeat (first | apply Kd.V_alloc | apply Kd.V_drewN | apply Kd.V_drew)); exact HO397.out) hb)
                            have n2_ := Aside0.mk (blk_below (g := gb381) (o := .cells #[.slice A0_0 l0_0.length c0_0, .int .i64 a0_1] 24 (0, 0)) (by (with_reducible repeat (first | refine blk_drewN ?_ _ | refine blk_drew ?_ | refine blk_alloc ?_ _)); exact BK381.out) hb)
                            have n3_ := Aside0.mk (blk_below (g := gb382) (o := .cells #[.bool a2_0, .slice A2_1 l2_1.length c2_1] 53 (0, 0)) (by (with_reducible repeat (first | refine blk_drewN ?_ _ | refine blk_drew ?_ | refine blk_alloc ?_ _)); exact BK382.out) hb)
                            have n4_ := Aside0.mk (blk_below (g := gb394) (o := .cells #[.slice Ao64 t388.length co64, .int .i64 t391] 24 (0, 0)) (by (with_reducible repeat (first | refine blk_drewN ?_ _ | refine blk_drew ?_ | refine blk_alloc ?_ _)); exact BK394.out) hb)
                            have n5_ := Aside0.mk (blk_below (g := gb399) (o := .cells #[.slice Ao72 t395.length co72, .int .i64 t398] 24 (0, 0)) (by (with_reducible repeat (first | refine blk_drewN ?_ _ | refine blk_drew ?_ | refine blk_alloc ?_ _)); exact BK399.out) hb)
                            have n6_ := Aside0.mk (below_step (by repeat (first | (with_reducible first | exact HB.out | apply below_alloc | apply pw_below_drewN | apply below_drew1 | refine below_set ?_ GE381.out | refine below_set ?_ GE382.out | refine below_set ?_ GE394.out | refine below_set ?_ GE399.out) | exact HB.out)) hb)
                            clear HO390
                            clear HO397
                            clear BK381
                            clear BK382
                            clear BK394
                            clear BK399
                            clear HB
                            have HO390 := n0_
                            have HO397 := n1_
                            have BK381 := n2_
                            have BK382 := n3_
                            have BK394 := n4_
                            have BK399 := n5_
                            have HB := n6_
                            clear n0_ n1_ n2_ n3_ n4_ n5_ n6_
                            (try clear hb)
                            (try clear hb2)
                            (try clear hk)
                            (try clear hi)
                            refine hK.out _ _ ⟨(blk_cell BK381.out 0).trans rfl, (blk_cell BK381.out 1).trans rfl, (blk_cell BK399.out 0).trans rfl, (blk_cell BK399.out 1).trans rfl⟩ (fun hHeld => ?_)
                            clear hK K
                            refine norm_ (a' := ?_) ?_ ?_
                            rotate_left
                            · show Act.put _ (some 89) _ = _
                              simp only [Act.put, List.setIfInBounds_toArray, List.set_cons_zero, List.set_cons_succ, i64_w, i32_w]
                              rfl
                            refine pure_ (i := 26) (N := some 96) (v := ?_) (a' := ?_) #[true, true, true, true, true, true, true, true, true, true, true, true, true, true, true, true, true, true, true, true, true, true, true, true, true, true, true, false, false, false, false, false, false, false, false, false, false, false, false, false, false, false, false, false, false, false, false, false, false, false, false, false] rfl rfl (any_of HT_.out (by kernel_rfl)) (fun _ _ _ h => h) (Or.inl ⟨by rfl, ?_⟩) ?_ ?_
                            rotate_left
                            · intro w'
                              go_simp
                              with_reducible rfl
                            rotate_left
                            · simp only [Act.put, List.setIfInBounds_toArray, List.set_cons_zero, List.set_cons_succ, i64_w, i32_w]
                              rfl
                            refine pure_ (i := 27) (N := some 97) (v := ?_) (a' := ?_) #[true, true, true, true, true, true, true, true, true, true, true, true, true, true, true, true, true, true, true, true, true, true, true, true, true, true, true, true, false, false, false, false, false, false, false, false, false, false, false, false, false, false, false, false, false, false, false, false, false, false, false, false] rfl rfl (any_of HT_.out (by kernel_rfl)) (fun _ _ _ h => h) (Or.inl ⟨by rfl, ?_⟩) ?_ ?_
                            rotate_left
                            · intro w'
                              go_simp
                              with_reducible rfl
                            rotate_left
                            · simp only [Act.put, List.setIfInBounds_toArray, List.set_cons_zero, List.set_cons_succ, i64_w, i32_w]
                              rfl
                            refine pure_ (i := 28) (N := some 98) (v := ?_) (a' := ?_) #[true, true, true, true, true, true, true, true, true, true, true, true, true, true, true, true, true, true, true, true, true, true, true, true, true, true, true, true, true, false, false, false, false, false, false, false, false, false, false, false, false, false, false, false, false, false, false, false, false, false, false, false] rfl rfl (any_of HT_.out (by kernel_rfl)) (fun _ _ _ h => h) (Or.inl ⟨by rfl, ?_⟩) ?_ ?_
                            rotate_left
                            · intro w'
                              go_simp
                              with_reducible rfl
                            rotate_left
                            · simp only [Act.put, List.setIfInBounds_toArray, List.set_cons_zero, List.set_cons_succ, i64_w, i32_w]
                              rfl
                            refine pure_ (i := 29) (N := some 99) (v := ?_) (a' := ?_) #[true, true, true, true, true, true, true, true, true, true, true, true, true, true, true, true, true, true, true, true, true, true, true, true, true, true, true, true, true, true, false, false, false, false, false, false, false, false, false, false, false, false, false, false, false, false, false, false, false, false, false, false] rfl rfl (any_of HT_.out (by kernel_rfl)) (fun _ _ _ h => h) (Or.inl ⟨by rfl, ?_⟩) ?_ ?_
                            rotate_left
                            · intro w'
                              go_simp
                              with_reducible rfl
                            rotate_left
                            · simp only [Act.put, List.setIfInBounds_toArray, List.set_cons_zero, List.set_cons_succ, i64_w, i32_w]
                              rfl
                            refine pure_ (i := 30) (N := some 100) (v := ?_) (a' := ?_) #[true, true, true, true, true, true, true, true, true, true, true, true, true, true, true, true, true, true, true, true, true, true, true, true, true, true, true, true, true, true, true, false, false, false, false, false, false, false, false, false, false, false, false, false, false, false, false, false, false, false, false, false] rfl rfl (any_of HT_.out (by kernel_rfl)) (fun _ _ _ h => h) (Or.inl ⟨by rfl, ?_⟩) ?_ ?_
                            rotate_left
                            · intro w'
                              go_simp
                              with_reducible rfl
                            rotate_left
                            · simp only [Act.put, List.setIfInBounds_toArray, List.set_cons_zero, List.set_cons_succ, i64_w, i32_w]
                              rfl
                            refine take_ (i := 31) (N := some 101) (v := ?_) (a' := ?_) #[true, true, true, true, true, true, true, true, true, true, true, true, true, true, true, true, true, true, true, true, true, true, true, true, true, true, true, true, true, true, true, true, false, false, false, false, false, false, false, false, false, false, false, false, false, false, false, false, false, false, false, false] rfl rfl (take_ofW HT_.out HW_.out (by kernel_rfl)) (fun _ _ _ h => h) (Or.inl ⟨by rfl, ?_⟩) hHeld ?_ ?_
                            rotate_left
                            · rintro w' ⟨s0, s1, s2, s3⟩
                              go_simp
                              with_reducible rfl
                            rotate_left
                            · simp only [Act.put, List.setIfInBounds_toArray, List.set_cons_zero, List.set_cons_succ, i64_w, i32_w]
                              rfl
                            refine one_ (i := 32) (N := some 102) #[true, true, true, true, true, true, true, true, true, true, true, true, true, true, true, true, true, true, true, true, true, true, true, true, true, true, true, true, true, true, true, true, true, false, false, false, false, false, false, false, false, false, false, false, false, false, false, false, false, false, false, false] rfl rfl (one_of HT_.out (by kernel_rfl)) (by decide) (fun K hK => ?_)
                            refine goes_ Try.func42 (by kernel_rfl) rfl #[.agg #[.slice A0_0 l0_0.length c0_0, .int .i64 a0_1], .int .i64 1, .bool true] (by rfl) rfl rfl (by (try simp only [List.map_toArray, List.map_cons, List.map_nil]); first | done | rfl | (simp only [List.length_drop, List.length_take]; rfl)) ?_
                            with_reducible refine (heap_Fits.calls k2 _ _ l0_0 a0_1 1 true t403 _ ?side1 ?side2 A51.out).mono ?_
                            (case side1 => repeat (first | exact (Kd.C_below HR0_0.out HB.out) | (with_reducible refine Kd.C_alloc ?_ _) | (with_reducible refine Kd.C_drewN ?_ _) | (with_reducible refine Kd.C_drew ?_)))
                            (case side2 => exact HC0_0.out)
                            rintro e w82 ⟨rfl, hb⟩
                            refine ⟨_, rfl, ?_⟩
                            have n0_ := Aside0.mk (Kd.V_below (by (with_reducible repeat (first | apply Kd.V_alloc | apply Kd.V_drewN | apply Kd.V_drew)); exact HO390.out) hb)
                            have n1_ := Aside0.mk (Kd.V_below (by (with_reducible repeat (first | apply Kd.V_alloc | apply Kd.V_drewN | apply Kd.V_drew)); exact HO397.out) hb)
                            have n2_ := Aside0.mk (blk_below (g := gb381) (o := .cells #[.slice A0_0 l0_0.length c0_0, .int .i64 a0_1] 24 (0, 0)) (by (with_reducible repeat (first | refine blk_drewN ?_ _ | refine blk_drew ?_ | refine blk_alloc ?_ _)); exact BK381.out) hb)
                            have n3_ := Aside0.mk (blk_below (g := gb382) (o := .cells #[.bool a2_0, .slice A2_1 l2_1.length c2_1] 53 (0, 0)) (by (with_reducible repeat (first | refine blk_drewN ?_ _ | refine blk_drew ?_ | refine blk_alloc ?_ _)); exact BK382.out) hb)
                            have n4_ := Aside0.mk (blk_below (g := gb394) (o := .cells #[.slice Ao64 t388.length co64, .int .i64 t391] 24 (0, 0)) (by (with_reducible repeat (first | refine blk_drewN ?_ _ | refine blk_drew ?_ | refine blk_alloc ?_ _)); exact BK394.out) hb)
                            have n5_ := Aside0.mk (blk_below (g := gb399) (o := .cells #[.slice Ao72 t395.length co72, .int .i64 t398] 24 (0, 0)) (by (with_reducible repeat (first | refine blk_drewN ?_ _ | refine blk_drew ?_ | refine blk_alloc ?_ _)); exact BK399.out) hb)
                            have n6_ := Aside0.mk (below_step (by repeat (first | (with_reducible first | exact HB.out | apply below_alloc | apply pw_below_drewN | apply below_drew1 | refine below_set ?_ GE381.out | refine below_set ?_ GE382.out | refine below_set ?_ GE394.out | refine below_set ?_ GE399.out) | exact HB.out)) hb)
                            clear HO390
                            clear HO397
                            clear BK381
                            clear BK382
                            clear BK394
                            clear BK399
                            clear HB
                            have HO390 := n0_
                            have HO397 := n1_
                            have BK381 := n2_
                            have BK382 := n3_
                            have BK394 := n4_
                            have BK399 := n5_
                            have HB := n6_
                            clear n0_ n1_ n2_ n3_ n4_ n5_ n6_
                            (try clear hb)
                            (try clear hb2)
                            (try clear hk)
                            (try clear hi)
                            refine hK.out _ _ ⟨(blk_cell BK381.out 0).trans rfl, (blk_cell BK381.out 1).trans rfl, (blk_cell BK399.out 0).trans rfl, (blk_cell BK399.out 1).trans rfl⟩ (fun hHeld => ?_)
                            clear hK K
                            refine norm_ (a' := ?_) ?_ ?_
                            rotate_left
                            · show Act.put _ (some 102) _ = _
                              simp only [Act.put, List.setIfInBounds_toArray, List.set_cons_zero, List.set_cons_succ, i64_w, i32_w]
                              rfl
                            refine pure_ (i := 33) (N := some 103) (v := ?_) (a' := ?_) #[true, true, true, true, true, true, true, true, true, true, true, true, true, true, true, true, true, true, true, true, true, true, true, true, true, true, true, true, true, true, true, true, true, true, false, false, false, false, false, false, false, false, false, false, false, false, false, false, false, false, false, false] rfl rfl (any_of HT_.out (by kernel_rfl)) (fun _ _ _ h => h) (Or.inl ⟨by rfl, ?_⟩) ?_ ?_
                            rotate_left
                            · intro w'
                              go_simp
                              with_reducible rfl
                            rotate_left
                            · simp only [Act.put, List.setIfInBounds_toArray, List.set_cons_zero, List.set_cons_succ, i64_w, i32_w]
                              rfl
                            refine pure_ (i := 34) (N := some 104) (v := ?_) (a' := ?_) #[true, true, true, true, true, true, true, true, true, true, true, true, true, true, true, true, true, true, true, true, true, true, true, true, true, true, true, true, true, true, true, true, true, true, true, false, false, false, false, false, false, false, false, false, false, false, false, false, false, false, false, false] rfl rfl (any_of HT_.out (by kernel_rfl)) (fun _ _ _ h => h) (Or.inl ⟨by rfl, ?_⟩) ?_ ?_
                            rotate_left
                            · intro w'
                              go_simp
                              with_reducible rfl
                            rotate_left
                            · simp only [Act.put, List.setIfInBounds_toArray, List.set_cons_zero, List.set_cons_succ, i64_w, i32_w]
                              rfl
                            refine pure_ (i := 35) (N := some 105) (v := ?_) (a' := ?_) #[true, true, true, true, true, true, true, true, true, true, true, true, true, true, true, true, true, true, true, true, true, true, true, true, true, true, true, true, true, true, true, true, true, true, true, true, false, false, false, false, false, false, false, false, false, false, false, false, false, false, false, false] rfl rfl (any_of HT_.out (by kernel_rfl)) (fun _ _ _ h => h) (Or.inl ⟨by rfl, ?_⟩) ?_ ?_
                            rotate_left
                            · intro w'
                              go_simp
                              with_reducible rfl
                            rotate_left
                            · simp only [Act.put, List.setIfInBounds_toArray, List.set_cons_zero, List.set_cons_succ, i64_w, i32_w]
                              rfl
                            refine pure_ (i := 38) (N := some 108) (v := ?_) (a' := ?_) #[true, true, true, true, true, true, true, true, true, true, true, true, true, true, true, true, true, true, true, true, true, true, true, true, true, true, true, true, true, true, true, true, true, true, true, true, false, false, true, false, false, false, false, false, false, false, false, false, false, false, false, false] rfl rfl (any_of HT_.out (by kernel_rfl)) (fun _ _ _ h => h) (Or.inl ⟨by rfl, ?_⟩) ?_ ?_
                            rotate_left
                            · intro w'
                              go_simp
                              with_reducible rfl
                            rotate_left
                            · simp only [Act.put, List.setIfInBounds_toArray, List.set_cons_zero, List.set_cons_succ, i64_w, i32_w]
                              rfl
                            refine take_ (i := 36) (N := some 106) (v := ?_) (a' := ?_) #[true, true, true, true, true, true, true, true, true, true, true, true, true, true, true, true, true, true, true, true, true, true, true, true, true, true, true, true, true, true, true, true, true, true, true, true, true, false, true, false, false, false, false, false, false, false, false, false, false, false, false, false] rfl rfl (take_ofW HT_.out HW_.out (by kernel_rfl)) (fun _ _ _ h => h) (Or.inl ⟨by rfl, ?_⟩) hHeld ?_ ?_
                            rotate_left
                            · rintro w' ⟨s0, s1, s2, s3⟩
                              go_simp
                              with_reducible rfl
                            rotate_left
                            · simp only [Act.put, List.setIfInBounds_toArray, List.set_cons_zero, List.set_cons_succ, i64_w, i32_w]
                              rfl
                            refine one_ (i := 37) (N := some 107) #[true, true, true, true, true, true, true, true, true, true, true, true, true, true, true, true, true, true, true, true, true, true, true, true, true, true, true, true, true, true, true, true, true, true, true, true, true, true, true, false, false, false, false, false, false, false, false, false, false, false, false, false] rfl rfl (one_of HT_.out (by kernel_rfl)) (by decide) (fun K hK => ?_)
                            refine goes_ Try.func40 (by kernel_rfl) rfl #[.agg #[.slice Ao72 t395.length co72, .int .i64 t398]] (by rfl) rfl rfl (by (try simp only [List.map_toArray, List.map_cons, List.map_nil]); first | done | rfl | (simp only [List.length_drop, List.length_take]; rfl)) ?_
                            with_reducible refine (heap_Free.calls k2 _ _ t395 t398 t404 _ ?side1 ?side2 A53.out).mono ?_
                            (case side1 => repeat (first | exact (Kd.V_reads' HO397.out).2.2 | (with_reducible refine Kd.C_alloc ?_ _) | (with_reducible refine Kd.C_drewN ?_ _) | (with_reducible refine Kd.C_drew ?_)))
                            (case side2 => exact (Kd.V_reads' HO397.out).2.1)
                            rintro e w83 ⟨rfl, hb⟩
                            refine ⟨_, rfl, ?_⟩
                            have n0_ := Aside0.mk (Kd.V_below (by (with_reducible repeat (first | apply Kd.V_alloc | apply Kd.V_drewN | apply Kd.V_drew)); exact HO390.out) hb)
                            have n1_ := Aside0.mk (Kd.V_below (by (with_reducible repeat (first | apply Kd.V_alloc | apply Kd.V_drewN | apply Kd.V_drew)); exact HO397.out) hb)
                            have n2_ := Aside0.mk (blk_below (g := gb381) (o := .cells #[.slice A0_0 l0_0.length c0_0, .int .i64 a0_1] 24 (0, 0)) (by (with_reducible repeat (first | refine blk_drewN ?_ _ | refine blk_drew ?_ | refine blk_alloc ?_ _)); exact BK381.out) hb)
                            have n3_ := Aside0.mk (blk_below (g := gb382) (o := .cells #[.bool a2_0, .slice A2_1 l2_1.length c2_1] 53 (0, 0)) (by (with_reducible repeat (first | refine blk_drewN ?_ _ | refine blk_drew ?_ | refine blk_alloc ?_ _)); exact BK382.out) hb)
                            have n4_ := Aside0.mk (blk_below (g := gb394) (o := .cells #[.slice Ao64 t388.length co64, .int .i64 t391] 24 (0, 0)) (by (with_reducible repeat (first | refine blk_drewN ?_ _ | refine blk_drew ?_ | refine blk_alloc ?_ _)); exact BK394.out) hb)
                            have n5_ := Aside0.mk (blk_below (g := gb399) (o := .cells #[.slice Ao72 t395.length co72, .int .i64 t398] 24 (0, 0)) (by (with_reducible repeat (first | refine blk_drewN ?_ _ | refine blk_drew ?_ | refine blk_alloc ?_ _)); exact BK399.out) hb)
                            have n6_ := Aside0.mk (below_step (by repeat (first | (with_reducible first | exact HB.out | apply below_alloc | apply pw_below_drewN | apply below_drew1 | refine below_set ?_ GE381.out | refine below_set ?_ GE382.out | refine below_set ?_ GE394.out | refine below_set ?_ GE399.out) | exact HB.out)) hb)
                            clear HO390
                            clear HO397
                            clear BK381
                            clear BK382
                            clear BK394
                            clear BK399
                            clear HB
                            have HO390 := n0_
                            have HO397 := n1_
                            have BK381 := n2_
                            have BK382 := n3_
                            have BK394 := n4_
                            have BK399 := n5_
                            have HB := n6_
                            clear n0_ n1_ n2_ n3_ n4_ n5_ n6_
                            (try clear hb)
                            (try clear hb2)
                            (try clear hk)
                            (try clear hi)
                            refine hK.out _ _ ⟨(blk_cell BK381.out 0).trans rfl, (blk_cell BK381.out 1).trans rfl, (blk_cell BK399.out 0).trans rfl, (blk_cell BK399.out 1).trans rfl⟩ (fun hHeld => ?_)
                            clear hK K
                            refine norm_ (a' := ?_) ?_ ?_
                            rotate_left
                            · show Act.put _ (some 107) _ = _
                              simp only [Act.put, List.setIfInBounds_toArray, List.set_cons_zero, List.set_cons_succ, i64_w, i32_w]
                              rfl
                            refine pure_ (i := 39) (N := some 109) (v := ?_) (a' := ?_) #[true, true, true, true, true, true, true, true, true, true, true, true, true, true, true, true, true, true, true, true, true, true, true, true, true, true, true, true, true, true, true, true, true, true, true, true, true, true, true, true, false, false, false, false, false, false, false, false, false, false, false, false] rfl rfl (any_of HT_.out (by kernel_rfl)) (fun _ _ _ h => h) (Or.inl ⟨by rfl, ?_⟩) ?_ ?_
                            rotate_left
                            · intro w'
                              go_simp
                              with_reducible rfl
                            rotate_left
                            · simp only [Act.put, List.setIfInBounds_toArray, List.set_cons_zero, List.set_cons_succ, i64_w, i32_w]
                              rfl
                            refine pure_ (i := 40) (N := some 110) (v := ?_) (a' := ?_) #[true, true, true, true, true, true, true, true, true, true, true, true, true, true, true, true, true, true, true, true, true, true, true, true, true, true, true, true, true, true, true, true, true, true, true, true, true, true, true, true, true, false, false, false, false, false, false, false, false, false, false, false] rfl rfl (any_of HT_.out (by kernel_rfl)) (fun _ _ _ h => h) (Or.inl ⟨by rfl, ?_⟩) ?_ ?_
                            rotate_left
                            · intro w'
                              go_simp
                              with_reducible rfl
                            rotate_left
                            · simp only [Act.put, List.setIfInBounds_toArray, List.set_cons_zero, List.set_cons_succ, i64_w, i32_w]
                              rfl
                            refine pure_ (i := 41) (N := some 111) (v := ?_) (a' := ?_) #[true, true, true, true, true, true, true, true, true, true, true, true, true, true, true, true, true, true, true, true, true, true, true, true, true, true, true, true, true, true, true, true, true, true, true, true, true, true, true, true, true, true, false, false, false, false, false, false, false, false, false, false] rfl rfl (any_of HT_.out (by kernel_rfl)) (fun _ _ _ h => h) (Or.inl ⟨by rfl, ?_⟩) ?_ ?_
                            rotate_left
                            · intro w'
                              go_simp
                              with_reducible rfl
                            rotate_left
                            · simp only [Act.put, List.setIfInBounds_toArray, List.set_cons_zero, List.set_cons_succ, i64_w, i32_w]
                              rfl
                            refine take_ (i := 42) (N := some 112) (v := ?_) (a' := ?_) #[true, true, true, true, true, true, true, true, true, true, true, true, true, true, true, true, true, true, true, true, true, true, true, true, true, true, true, true, true, true, true, true, true, true, true, true, true, true, true, true, true, true, true, false, false, false, false, false, false, false, false, false] rfl rfl (take_ofW HT_.out HW_.out (by kernel_rfl)) (fun _ _ _ h => h) (Or.inl ⟨by rfl, ?_⟩) hHeld ?_ ?_
                            rotate_left
                            · rintro w' ⟨s0, s1, s2, s3⟩
                              go_simp
                              with_reducible rfl
                            rotate_left
                            · simp only [Act.put, List.setIfInBounds_toArray, List.set_cons_zero, List.set_cons_succ, i64_w, i32_w]
                              rfl
                            refine one_ (i := 43) (N := some 113) #[true, true, true, true, true, true, true, true, true, true, true, true, true, true, true, true, true, true, true, true, true, true, true, true, true, true, true, true, true, true, true, true, true, true, true, true, true, true, true, true, true, true, true, true, false, false, false, false, false, false, false, false] rfl rfl (one_of HT_.out (by kernel_rfl)) (by decide) (fun K hK => ?_)
                            refine goes_ Try.func32 (by kernel_rfl) rfl #[.agg #[.slice Ao72 t395.length co72, .int .i64 t398]] (by rfl) rfl rfl (by (try simp only [List.map_toArray, List.map_cons, List.map_nil]); first | done | rfl | (simp only [List.length_drop, List.length_take]; rfl)) ?_
                            with_reducible refine (assartref05_Right.calls k2 _ _ t395 t398 true _ ?side1 ?side2 A55.out).mono ?_
                            (case side1 => repeat (first | exact (Kd.V_reads' HO397.out).2.2 | (with_reducible refine Kd.C_alloc ?_ _) | (with_reducible refine Kd.C_drewN ?_ _) | (with_reducible refine Kd.C_drew ?_)))
                            (case side2 => exact (Kd.V_reads' HO397.out).2.1)
                            rintro e w84 ⟨rfl, hb⟩
                            refine ⟨_, rfl, ?_⟩
                            have n0_ := Aside0.mk (Kd.V_below (by (with_reducible repeat (first | apply Kd.V_alloc | apply Kd.V_drewN | apply Kd.V_drew)); exact HO390.out) hb)
                            have n1_ := Aside0.mk (Kd.V_below (by (with_reducible repeat (first | apply Kd.V_alloc | apply Kd.V_drewN | apply Kd.V_drew)); exact HO397.out) hb)
                            have n2_ := Aside0.mk (blk_below (g := gb381) (o := .cells #[.slice A0_0 l0_0.length c0_0, .int .i64 a0_1] 24 (0, 0)) (by (with_reducible repeat (first | refine blk_drewN ?_ _ | refine blk_drew ?_ | refine blk_alloc ?_ _)); exact BK381.out) hb)
                            have n3_ := Aside0.mk (blk_below (g := gb382) (o := .cells #[.bool a2_0, .slice A2_1 l2_1.length c2_1] 53 (0, 0)) (by (with_reducible repeat (first | refine blk_drewN ?_ _ | refine blk_drew ?_ | refine blk_alloc ?_ _)); exact BK382.out) hb)
                            have n4_ := Aside0.mk (blk_below (g := gb394) (o := .cells #[.slice Ao64 t388.length co64, .int .i64 t391] 24 (0, 0)) (by (with_reducible repeat (first | refine blk_drewN ?_ _ | refine blk_drew ?_ | refine blk_alloc ?_ _)); exact BK394.out) hb)
                            have n5_ := Aside0.mk (blk_below (g := gb399) (o := .cells #[.slice Ao72 t395.length co72, .int .i64 t398] 24 (0, 0)) (by (with_reducible repeat (first | refine blk_drewN ?_ _ | refine blk_drew ?_ | refine blk_alloc ?_ _)); exact BK399.out) hb)
                            have n6_ := Aside0.mk (below_step (by repeat (first | (with_reducible first | exact HB.out | apply below_alloc | apply pw_below_drewN | apply below_drew1 | refine below_set ?_ GE381.out | refine below_set ?_ GE382.out | refine below_set ?_ GE394.out | refine below_set ?_ GE399.out) | exact HB.out)) hb)
                            clear HO390
                            clear HO397
                            clear BK381
                            clear BK382
                            clear BK394
                            clear BK399
                            clear HB
                            have HO390 := n0_
                            have HO397 := n1_
                            have BK381 := n2_
                            have BK382 := n3_
                            have BK394 := n4_
                            have BK399 := n5_
                            have HB := n6_
                            clear n0_ n1_ n2_ n3_ n4_ n5_ n6_
                            (try clear hb)
                            (try clear hb2)
                            (try clear hk)
                            (try clear hi)
                            refine hK.out _ _ ⟨(blk_cell BK381.out 0).trans rfl, (blk_cell BK381.out 1).trans rfl, (blk_cell BK399.out 0).trans rfl, (blk_cell BK399.out 1).trans rfl⟩ (fun hHeld => ?_)
                            clear hK K
                            refine norm_ (a' := ?_) ?_ ?_
                            rotate_left
                            · show Act.put _ (some 113) _ = _
                              simp only [Act.put, List.setIfInBounds_toArray, List.set_cons_zero, List.set_cons_succ, i64_w, i32_w]
                              rfl
                            refine pure_ (i := 44) (N := some 114) (v := ?_) (a' := ?_) #[true, true, true, true, true, true, true, true, true, true, true, true, true, true, true, true, true, true, true, true, true, true, true, true, true, true, true, true, true, true, true, true, true, true, true, true, true, true, true, true, true, true, true, true, true, false, false, false, false, false, false, false] rfl rfl (any_of HT_.out (by kernel_rfl)) (fun _ _ _ h => h) (Or.inl ⟨by rfl, ?_⟩) ?_ ?_
                            rotate_left
                            · intro w'
                              go_simp
                              with_reducible rfl
                            rotate_left
                            · simp only [Act.put, List.setIfInBounds_toArray, List.set_cons_zero, List.set_cons_succ, i64_w, i32_w]
                              rfl
                            refine pure_ (i := 45) (N := some 115) (v := ?_) (a' := ?_) #[true, true, true, true, true, true, true, true, true, true, true, true, true, true, true, true, true, true, true, true, true, true, true, true, true, true, true, true, true, true, true, true, true, true, true, true, true, true, true, true, true, true, true, true, true, true, false, false, false, false, false, false] rfl rfl (any_of HT_.out (by kernel_rfl)) (fun _ _ _ h => h) (Or.inl ⟨by rfl, ?_⟩) ?_ ?_
                            rotate_left
                            · intro w'
                              go_simp
                              with_reducible rfl
                            rotate_left
                            · simp only [Act.put, List.setIfInBounds_toArray, List.set_cons_zero, List.set_cons_succ, i64_w, i32_w]
                              rfl
                            refine take_ (i := 46) (N := some 116) (v := ?_) (a' := ?_) #[true, true, true, true, true, true, true, true, true, true, true, true, true, true, true, true, true, true, true, true, true, true, true, true, true, true, true, true, true, true, true, true, true, true, true, true, true, true, true, true, true, true, true, true, true, true, true, false, false, false, false, false] rfl rfl (take_ofW HT_.out HW_.out (by kernel_rfl)) (fun _ _ _ h => h) (Or.inl ⟨by rfl, ?_⟩) hHeld ?_ ?_
                            rotate_left
                            · rintro w' ⟨s0, s1, s2, s3⟩
                              go_simp
                              with_reducible rfl
                            rotate_left
                            · simp only [Act.put, List.setIfInBounds_toArray, List.set_cons_zero, List.set_cons_succ, i64_w, i32_w]
                              rfl
                            refine take_ (i := 48) (N := some 118) (v := ?_) (a' := ?_) #[true, true, true, true, true, true, true, true, true, true, true, true, true, true, true, true, true, true, true, true, true, true, true, true, true, true, true, true, true, true, true, true, true, true, true, true, true, true, true, true, true, true, true, true, true, true, true, false, true, false, false, false] rfl rfl (take_ofW HT_.out HW_.out (by kernel_rfl)) (fun _ _ _ h => h) (Or.inl ⟨by rfl, ?_⟩) hHeld ?_ ?_
                            rotate_left
                            · rintro w' ⟨s0, s1, s2, s3⟩
                              go_simp
                              with_reducible rfl
                            rotate_left
                            · simp only [Act.put, List.setIfInBounds_toArray, List.set_cons_zero, List.set_cons_succ, i64_w, i32_w]
                              rfl
                            refine one_ (i := 47) (N := some 117) #[true, true, true, true, true, true, true, true, true, true, true, true, true, true, true, true, true, true, true, true, true, true, true, true, true, true, true, true, true, true, true, true, true, true, true, true, true, true, true, true, true, true, true, true, true, true, true, true, true, false, false, false] rfl rfl (one_of HT_.out (by kernel_rfl)) (by decide) (fun K hK => ?_)
                            refine goes_ Try.func50 (by kernel_rfl) rfl #[.agg #[.slice Ao72 t395.length co72, .int .i64 t398]] (by rfl) rfl rfl (by (try simp only [List.map_toArray, List.map_cons, List.map_nil]); first | done | rfl | (simp only [List.length_drop, List.length_take]; rfl)) ?_
                            with_reducible refine (heap_Settle.calls (fun k_ => (k_ ≠ gb381 ∧ (k_ ≠ gb382 ∧ (k_ ≠ gb394 ∧ k_ ≠ gb399)))) _ _ t395 t398 t406 t409 _ ?side1 A57.out).mono ?_
                            (case side1 => exact HO397.out)
                            rintro e w85 ⟨v407, rfl, ho0, hb⟩
                            refine ⟨_, rfl, ?_⟩
                            have n0_ := Aside0.mk (Kd.V_below (by (with_reducible repeat (first | apply Kd.V_alloc | apply Kd.V_drewN | apply Kd.V_drew)); exact HO390.out) hb)
                            have n1_ := Aside0.mk (Kd.V_below (by (with_reducible repeat (first | apply Kd.V_alloc | apply Kd.V_drewN | apply Kd.V_drew)); exact HO397.out) hb)
                            have n2_ := Aside0.mk (Kd.V_lower (Kd.V_mono (ok' := fun k_ => k_ ≠ gb381 ∧ k_ ≠ gb382 ∧ k_ ≠ gb394 ∧ k_ ≠ gb399) ho0 (fun k_ hk_ => ⟨Or.elim hk_ (fun hs_ => hs_.1) (fun hn_ => (Kd.freshB (g := gb381) (o := .cells #[.slice A0_0 l0_0.length c0_0, .int .i64 a0_1] 24 (0, 0)) (by (with_reducible repeat (first | refine blk_drewN ?_ _ | refine blk_drew ?_ | refine blk_alloc ?_ _)); exact BK381.out) k_ hn_)), Or.elim hk_ (fun hs_ => hs_.2.1) (fun hn_ => (Kd.freshB (g := gb382) (o := .cells #[.bool a2_0, .slice A2_1 l2_1.length c2_1] 53 (0, 0)) (by (with_reducible repeat (first | refine blk_drewN ?_ _ | refine blk_drew ?_ | refine blk_alloc ?_ _)); exact BK382.out) k_ hn_)), Or.elim hk_ (fun hs_ => hs_.2.2.1) (fun hn_ => (Kd.freshB (g := gb394) (o := .cells #[.slice Ao64 t388.length co64, .int .i64 t391] 24 (0, 0)) (by (with_reducible repeat (first | refine blk_drewN ?_ _ | refine blk_drew ?_ | refine blk_alloc ?_ _)); exact BK394.out) k_ hn_)), Or.elim hk_ (fun hs_ => hs_.2.2.2) (fun hn_ => (Kd.freshB (g := gb399) (o := .cells #[.slice Ao72 t395.length co72, .int .i64 t398] 24 (0, 0)) (by (with_reducible repeat (first | refine blk_drewN ?_ _ | refine blk_drew ?_ | refine blk_alloc ?_ _)); exact BK399.out) k_ hn_))⟩)) (below_size (by repeat (first | (with_reducible first | exact HB.out | apply below_alloc | apply pw_below_drewN | apply below_drew1 | refine below_set ?_ GE381.out | refine below_set ?_ GE382.out | refine below_set ?_ GE394.out | refine below_set ?_ GE399.out) | exact HB.out))))
                            have n3_ := Aside0.mk (blk_below (g := gb381) (o := .cells #[.slice A0_0 l0_0.length c0_0, .int .i64 a0_1] 24 (0, 0)) (by (with_reducible repeat (first | refine blk_drewN ?_ _ | refine blk_drew ?_ | refine blk_alloc ?_ _)); exact BK381.out) hb)
                            have n4_ := Aside0.mk (blk_below (g := gb382) (o := .cells #[.bool a2_0, .slice A2_1 l2_1.length c2_1] 53 (0, 0)) (by (with_reducible repeat (first | refine blk_drewN ?_ _ | refine blk_drew ?_ | refine blk_alloc ?_ _)); exact BK382.out) hb)
                            have n5_ := Aside0.mk (blk_below (g := gb394) (o := .cells #[.slice Ao64 t388.length co64, .int .i64 t391] 24 (0, 0)) (by (with_reducible repeat (first | refine blk_drewN ?_ _ | refine blk_drew ?_ | refine blk_alloc ?_ _)); exact BK394.out) hb)
                            have n6_ := Aside0.mk (blk_below (g := gb399) (o := .cells #[.slice Ao72 t395.length co72, .int .i64 t398] 24 (0, 0)) (by (with_reducible repeat (first | refine blk_drewN ?_ _ | refine blk_drew ?_ | refine blk_alloc ?_ _)); exact BK399.out) hb)
                            have n7_ := Aside0.mk (below_step (by repeat (first | (with_reducible first | exact HB.out | apply below_alloc | apply pw_below_drewN | apply below_drew1 | refine below_set ?_ GE381.out | refine below_set ?_ GE382.out | refine below_set ?_ GE394.out | refine below_set ?_ GE399.out) | exact HB.out)) hb)
                            clear HO390
                            clear HO397
                            clear BK381
                            clear BK382
                            clear BK394
                            clear BK399
                            clear HB
                            have HO390 := n0_
                            have HO397 := n1_
                            have HO408 := n2_
                            have BK381 := n3_
                            have BK382 := n4_
                            have BK394 := n5_
                            have BK399 := n6_
                            have HB := n7_
                            clear n0_ n1_ n2_ n3_ n4_ n5_ n6_ n7_
                            (try clear hb)
                            (try clear hb2)
                            (try clear hk)
                            (try clear hi)
                            (try clear ho0)
                            obtain ⟨Ao86, co86, eo86⟩ := Kd.V_slice HO408.out
                            (first | subst eo86 | (injection eo86 with f1_ f2_ f3_; have f4_ := f1_.symm; have f5_ := f3_.symm; clear f1_ f2_ f3_; subst f4_; subst f5_))
                            refine hK.out _ _ ⟨(blk_cell BK381.out 0).trans rfl, (blk_cell BK381.out 1).trans rfl, (blk_cell BK399.out 0).trans rfl, (blk_cell BK399.out 1).trans rfl⟩ (fun hHeld => ?_)
                            clear hK K
                            refine norm_ (a' := ?_) ?_ ?_
                            rotate_left
                            · show Act.put _ (some 117) _ = _
                              simp only [Act.put, List.setIfInBounds_toArray, List.set_cons_zero, List.set_cons_succ, i64_w, i32_w]
                              rfl
                            refine one_ (i := 49) (N := some 119) #[true, true, true, true, true, true, true, true, true, true, true, true, true, true, true, true, true, true, true, true, true, true, true, true, true, true, true, true, true, true, true, true, true, true, true, true, true, true, true, true, true, true, true, true, true, true, true, true, true, true, false, false] rfl rfl (one_of HT_.out (by kernel_rfl)) (by decide) (fun K hK => ?_)
                            refine goes_ Try.func37 (by kernel_rfl) rfl #[.agg #[.slice Ao86 t406.length co86, .int .i64 t409], .agg #[.slice Ao72 t395.length co72, .int .i64 t398]] (by rfl) rfl rfl (by (try simp only [List.map_toArray, List.map_cons, List.map_nil]); first | done | rfl | (simp only [List.length_drop, List.length_take]; rfl)) ?_
                            with_reducible refine (assartref05_Same.calls k2 _ _ t406 t409 _ _ t395 t398 t410 _ ?side1 ?side2 ?side3 ?side4 A58.out).mono ?_
                            (case side1 => repeat (first | exact (Kd.V_reads' HO408.out).2.2 | (with_reducible refine Kd.C_alloc ?_ _) | (with_reducible refine Kd.C_drewN ?_ _) | (with_reducible refine Kd.C_drew ?_)))
                            (case side2 => exact (Kd.V_reads' HO408.out).2.1)
                            (case side3 => repeat (first | exact (Kd.V_reads' HO397.out).2.2 | (with_reducible refine Kd.C_alloc ?_ _) | (with_reducible refine Kd.C_drewN ?_ _) | (with_reducible refine Kd.C_drew ?_)))
                            (case side4 => exact (Kd.V_reads' HO397.out).2.1)
                            rintro e w87 ⟨rfl, hb⟩
                            refine ⟨_, rfl, ?_⟩
                            have n0_ := Aside0.mk (Kd.V_below (by (with_reducible repeat (first | apply Kd.V_alloc | apply Kd.V_drewN | apply Kd.V_drew)); exact HO390.out) hb)
                            have n1_ := Aside0.mk (Kd.V_below (by (with_reducible repeat (first | apply Kd.V_alloc | apply Kd.V_drewN | apply Kd.V_drew)); exact HO397.out) hb)
                            have n2_ := Aside0.mk (Kd.V_below (by (with_reducible repeat (first | apply Kd.V_alloc | apply Kd.V_drewN | apply Kd.V_drew)); exact HO408.out) hb)
                            have n3_ := Aside0.mk (blk_below (g := gb381) (o := .cells #[.slice A0_0 l0_0.length c0_0, .int .i64 a0_1] 24 (0, 0)) (by (with_reducible repeat (first | refine blk_drewN ?_ _ | refine blk_drew ?_ | refine blk_alloc ?_ _)); exact BK381.out) hb)
                            have n4_ := Aside0.mk (blk_below (g := gb382) (o := .cells #[.bool a2_0, .slice A2_1 l2_1.length c2_1] 53 (0, 0)) (by (with_reducible repeat (first | refine blk_drewN ?_ _ | refine blk_drew ?_ | refine blk_alloc ?_ _)); exact BK382.out) hb)
                            have n5_ := Aside0.mk (blk_below (g := gb394) (o := .cells #[.slice Ao64 t388.length co64, .int .i64 t391] 24 (0, 0)) (by (with_reducible repeat (first | refine blk_drewN ?_ _ | refine blk_drew ?_ | refine blk_alloc ?_ _)); exact BK394.out) hb)
                            have n6_ := Aside0.mk (blk_below (g := gb399) (o := .cells #[.slice Ao72 t395.length co72, .int .i64 t398] 24 (0, 0)) (by (with_reducible repeat (first | refine blk_drewN ?_ _ | refine blk_drew ?_ | refine blk_alloc ?_ _)); exact BK399.out) hb)
                            have n7_ := Aside0.mk (below_step (by repeat (first | (with_reducible first | exact HB.out | apply below_alloc | apply pw_below_drewN | apply below_drew1 | refine below_set ?_ GE381.out | refine below_set ?_ GE382.out | refine below_set ?_ GE394.out | refine below_set ?_ GE399.out) | exact HB.out)) hb)
                            clear HO390
                            clear HO397
                            clear HO408
                            clear BK381
                            clear BK382
                            clear BK394
                            clear BK399
                            clear HB
                            have HO390 := n0_
                            have HO397 := n1_
                            have HO408 := n2_
                            have BK381 := n3_
                            have BK382 := n4_
                            have BK394 := n5_
                            have BK399 := n6_
                            have HB := n7_
                            clear n0_ n1_ n2_ n3_ n4_ n5_ n6_ n7_
                            (try clear hb)
                            (try clear hb2)
                            (try clear hk)
                            (try clear hi)
                            refine hK.out _ _ ⟨(blk_cell BK381.out 0).trans rfl, (blk_cell BK381.out 1).trans rfl, (blk_cell BK399.out 0).trans rfl, (blk_cell BK399.out 1).trans rfl⟩ (fun hHeld => ?_)
                            clear hK K
                            refine norm_ (a' := ?_) ?_ ?_
                            rotate_left
                            · show Act.put _ (some 119) _ = _
                              simp only [Act.put, List.setIfInBounds_toArray, List.set_cons_zero, List.set_cons_succ, i64_w, i32_w]
                              rfl
                            refine pure_ (i := 50) (N := some 120) (v := ?_) (a' := ?_) #[true, true, true, true, true, true, true, true, true, true, true, true, true, true, true, true, true, true, true, true, true, true, true, true, true, true, true, true, true, true, true, true, true, true, true, true, true, true, true, true, true, true, true, true, true, true, true, true, true, true, true, false] rfl rfl (any_of HT_.out (by kernel_rfl)) (fun _ _ _ h => h) (Or.inl ⟨by rfl, ?_⟩) ?_ ?_
                            rotate_left
                            · intro w'
                              go_simp
                              with_reducible rfl
                            rotate_left
                            · simp only [Act.put, List.setIfInBounds_toArray, List.set_cons_zero, List.set_cons_succ, i64_w, i32_w]
                              rfl
                            refine pure_ (i := 51) (N := some 6) (v := ?_) (a' := ?_) #[true, true, true, true, true, true, true, true, true, true, true, true, true, true, true, true, true, true, true, true, true, true, true, true, true, true, true, true, true, true, true, true, true, true, true, true, true, true, true, true, true, true, true, true, true, true, true, true, true, true, true, true] rfl rfl (any_of HT_.out (by kernel_rfl)) (fun _ _ _ h => h) (Or.inl ⟨by rfl, ?_⟩) ?_ ?_
                            rotate_left
                            · intro w'
                              go_simp
                              with_reducible rfl
                            rotate_left
                            · simp only [Act.put, List.setIfInBounds_toArray, List.set_cons_zero, List.set_cons_succ, i64_w, i32_w]
                              rfl
                            refine done_ (done_of HT_.out (by kernel_rfl)) ?_
                            try go_wp2
                            go_ret
                            exact ⟨by first | rfl | (simp [errW_none, errW_some] <;> rfl) | (simp [*, errW_none, errW_some] <;> rfl), by repeat (first | (with_reducible first | exact HB.out | apply below_alloc | apply pw_below_drewN | apply below_drew1 | refine below_set ?_ GE381.out | refine below_set ?_ GE382.out | refine below_set ?_ GE394.out | refine below_set ?_ GE399.out) | exact HB.out)⟩
                          · replace c56 := Bool.eq_false_iff.mpr c56
                            subst c56
                            have H1 : (some false) = some r := by rw [if_neg (show ¬ (false = true) by decide)] at H; exact H
                            clear H
                            have H := H1
                            clear H1
                            obtain rfl := Option.some.inj H
                            cases hr
                        · rw [if_neg c54] at H
                          have c54b0 : (t404 == x9_2) = false := beq_eq_false_iff_ne.mpr c54
                          have c54b1 : (t404 != x9_2) = true := bne_iff_ne.mpr c54
                          obtain rfl := Option.some.inj H
                          cases hr
                      · rw [if_neg c52] at H
                        have c52b0 : ((t393 == 0) == t403) = false := by simpa using c52
                        (try (have c52b1 : decide ((t393 == 0) = t403) = false := by simpa using c52))
                        (try (have c52b2 : ((t393 == 0) == t403) = false := by simpa using c52))
                        (try (have c52b3 : ¬ ((t393 == 0) = t403) := by simpa using c52))
                        clear c52
                        obtain rfl := Option.some.inj H
                        cases hr
                    · rw [if_neg c50] at H
                      have c50b0 : (t402 == (decide (a1 ≤ (wrap64 (x8_2 - a0_1))))) = false := by simpa using c50
                      (try (have c50b1 : decide (t402 = (decide (a1 ≤ (wrap64 (x8_2 - a0_1))))) = false := by simpa using c50))
                      (try (have c50b2 : (t402 == (decide (a1 ≤ (wrap64 (x8_2 - a0_1))))) = false := by simpa using c50))
                      (try (have c50b3 : ¬ (t402 = (decide (a1 ≤ (wrap64 (x8_2 - a0_1))))) := by simpa using c50))
                      clear c50
                      obtain rfl := Option.some.inj H
                      cases hr
                  · rw [if_neg c48] at H
                    have c48b0 : (t401 == (decide (a1 ≤ x8_2))) = false := by simpa using c48
                    (try (have c48b1 : decide (t401 = (decide (a1 ≤ x8_2))) = false := by simpa using c48))
                    (try (have c48b2 : (t401 == (decide (a1 ≤ x8_2))) = false := by simpa using c48))
                    (try (have c48b3 : ¬ (t401 = (decide (a1 ≤ x8_2))) := by simpa using c48))
                    clear c48
                    obtain rfl := Option.some.inj H
                    cases hr
                · rw [if_neg c46] at H
                  have c46b0 : (t400 == x8_2) = false := beq_eq_false_iff_ne.mpr c46
                  have c46b1 : (t400 != x8_2) = true := bne_iff_ne.mpr c46
                  obtain rfl := Option.some.inj H
                  cases hr
              · replace c44 := Bool.eq_false_iff.mpr c44
                subst c44
                have H1 : (some false) = some r := by rw [if_neg (show ¬ (false = true) by decide)] at H; exact H
                clear H
                have H := H1
                clear H1
                obtain rfl := Option.some.inj H
                cases hr
end Go.Proofs.Yteiladccdenpbaa.P
end
section
namespace Go.Proofs.Yteiladccdenpbaa.P
open Go.RowKit Go.Proofs.YteiladccdenpbaaW.PrintWords Go.Proofs.YteiladccdenpbaaW.PrintLast Go.Proofs.YteiladccdenpbaaW.PrintMore
set_option linter.unusedVariables false
set_option linter.unusedSimpArgs false
def HR (l : List S55) : Prop := l.length ≤ 2000 ∧ ∀ p : Int, 0 ≤ p → p < (l.length : Int) → cellR l.length (rd_T55 l p)
theorem HR.rn {l : List S55} (H : HR l) {p : Int} (h0 : 0 ≤ p) (h1 : p < (l.length : Int)) (hr : 0 < Rf l p) : RtN (It l p) := by
  rcases H.2 p h0 h1 with h | h
  · have := h.1; simp only [Rf] at hr; omega
  · exact h.2.2.2.1
abbrev lo (l : List S55) (p : Int) : Int := kAt (It l p) 0
def Hi (l : List S55) : Nat → Int → Int
  | 0, _ => 0
  | 1, p => kAt (It l p) ((It l p).length - 1)
  | h + 2, p => Hi l (h + 1) (vAt (It l p) ((It l p).length - 1))
def Tr (l : List S55) : Nat → Int → Prop
  | 0, _ => False
  | 1, p => 0 ≤ p ∧ p < (l.length : Int) ∧ 0 < Rf l p ∧ Lf l p = true
  | h + 2, p => 0 ≤ p ∧ p < (l.length : Int) ∧ 0 < Rf l p ∧ Lf l p = false ∧ ∀ i, i < (It l p).length →
      Tr l (h + 1) (vAt (It l p) i) ∧ lo l (vAt (It l p) i) = kAt (It l p) i ∧ (i + 1 < (It l p).length → Hi l (h + 1) (vAt (It l p) i) < kAt (It l p) (i + 1))
def Ls (l : List S55) : Nat → Int → List S49
  | 0, _ => []
  | 1, p => It l p
  | h + 2, p => (It l p).flatMap fun x => Ls l (h + 1) x.f1
theorem Tr.base {l : List S55} {h : Nat} {p : Int} (t : Tr l h p) : 0 ≤ p ∧ p < (l.length : Int) ∧ 0 < Rf l p := by
  match h, t with
  | 1, t => exact ⟨t.1, t.2.1, t.2.2.1⟩
  | h + 2, t => exact ⟨t.1, t.2.1, t.2.2.1⟩
theorem Tr.pos {l : List S55} {h : Nat} {p : Int} (t : Tr l h p) : 1 ≤ h := by
  match h, t with
  | h + 1, t => omega
theorem Tr.rn {l : List S55} (H : HR l) {h : Nat} {p : Int} (t : Tr l h p) : RtN (It l p) := H.rn t.base.1 t.base.2.1 t.base.2.2
theorem Tr.leaf {l : List S55} {h : Nat} {p : Int} (t : Tr l h p) : Lf l p = decide (h = 1) := by
  match h, t with
  | 1, t => exact t.2.2.2
  | h + 2, t => rw [t.2.2.2.1, decide_eq_false (by omega)]
theorem rising_all {l : List S49} (h : RtN l) {i j : Nat} (hij : i < j) (hj : j < l.length) : kAt l i < kAt l j := rising_lt (rising_of h) i j hij hj
theorem rising_le {l : List S49} (h : RtN l) {i j : Nat} (hij : i ≤ j) (hj : j < l.length) : kAt l i ≤ kAt l j := by
  by_cases e : i = j
  · subst e; exact Int.le_refl _
  · have := rising_all h (show i < j by omega) hj; omega
structure Said1 (l : List S55) (h : Nat) (p : Int) : Prop where
  le : lo l p ≤ Hi l h p
  lo0 : 0 ≤ lo l p
  hi1 : Hi l h p ≤ 2147483647
  bd : ∀ x ∈ Ls l h p, lo l p ≤ x.f0 ∧ x.f0 ≤ Hi l h p
  hd : ∃ x xs, Ls l h p = x :: xs ∧ x.f0 = lo l p
  pw : (Ls l h p).Pairwise fun a b => a.f0 < b.f0
theorem gap {l : List S55} (H : HR l) {h : Nat} {p : Int} (t : Tr l (h + 2) p) {i j : Nat} (hij : i < j) (hj : j < (It l p).length) : Hi l (h + 1) (vAt (It l p) i) < kAt (It l p) j := by
  have := (t.2.2.2.2 i (by omega)).2.2 (by omega)
  have := rising_le (t.rn H) (show i + 1 ≤ j by omega) hj
  omega
end Go.Proofs.Yteiladccdenpbaa.P
end
section
namespace Go.Proofs.Yteiladccdenpbaa.P
open Go.RowKit Go.Proofs.YteiladccdenpbaaW.PrintWords Go.Proofs.YteiladccdenpbaaW.PrintLast Go.Proofs.YteiladccdenpbaaW.PrintMore
set_option linter.unusedVariables false
set_option linter.unusedSimpArgs false
instance decS53 : DecidableEq S53 := fun x y =>
  if h : x.f0 = y.f0 ∧ x.f1 = y.f1 then isTrue (by cases x; cases y; simp at h; simp [h]) else isFalse (fun e => h (by rw [e]; exact ⟨rfl, rfl⟩))
instance decS55 : DecidableEq S55 := fun x y =>
  if h : x.f0 = y.f0 ∧ x.f1 = y.f1 ∧ x.f2 = y.f2 then isTrue (by cases x; cases y; simp at h; simp [h]) else isFalse (fun e => h (by rw [e]; exact ⟨rfl, rfl, rfl⟩))
theorem s55_ext {x y : S55} (h0 : x.f0 = y.f0) (h1 : x.f1 = y.f1) (h2 : x.f2.f0 = y.f2.f0) (h3 : x.f2.f1 = y.f2.f1) : x = y := by
  obtain ⟨a, b, c, d⟩ := x
  obtain ⟨a', b', c', d'⟩ := y
  simp only at h0 h1 h2 h3
  subst h0; subst h1; subst h2; subst h3; rfl
theorem rd55_at {l : List S55} {j : Nat} (h : j < l.length) : rd_T55 l (j : Nat) = l[j] := by
  simp only [rd_T55, Int.toNat_natCast, List.getD_eq_getElem?_getD, List.getElem?_eq_getElem h, Option.getD_some]
theorem refSame_l0 (l m : List S55) (kp kp' : Int) (hl : l.length ≤ 100000) (hlm : l.length = m.length) (hi : ∀ x ∈ l, x.f2.f1.length ≤ 1000) : ∀ (d k j : Nat), j + d = l.length → 1001 + d < k → assartref05_Same.l0 k (j : Int) l kp m kp' = some (decide (l.drop j = m.drop j)) := by
  intro d
  induction d with
  | zero =>
    intro k j hj hk
    obtain ⟨k, rfl⟩ : ∃ m, k = m + 1 := ⟨k - 1, by omega⟩
    simp only [assartref05_Same.l0]
    rw [if_neg (by omega), List.drop_eq_nil_of_le (by omega), List.drop_eq_nil_of_le (by omega)]
    simp
  | succ d ih =>
    intro k j hj hk
    obtain ⟨k, rfl⟩ : ∃ m, k = m + 1 := ⟨k - 1, by omega⟩
    obtain ⟨hm, hd⟩ := rd55_mem (l := l) (j := j) (by omega)
    obtain ⟨-, hd'⟩ := rd55_mem (l := m) (j := j) (by omega)
    simp only [assartref05_Same.l0]
    rw [if_pos (by omega), if_pos (by omega), if_pos (by omega), refSame04_val' k _ _ _ _ (hi _ hm) (by omega), Option.bind_some, wsucc j (by omega), ih k (j + 1) (by omega) (by omega), hd, hd']
    generalize rd_T55 l (j : Nat) = x
    generalize rd_T55 m (j : Nat) = y
    by_cases h1 : ((x.f2.f0 == y.f2.f0) && decide (x.f2.f1 = y.f2.f1)) = true
    · rw [if_pos h1]
      rw [Bool.and_eq_true, beq_iff_eq, decide_eq_true_eq] at h1
      by_cases h2 : x.f0 = y.f0
      · rw [if_pos h2]
        by_cases h3 : x.f1 = y.f1
        · rw [if_neg (by rw [h3]; simp), s55_ext h2 h3 h1.1 h1.2]
          congr 1
          rw [decide_eq_decide]
          simp
        · rw [if_pos (by rw [bne_iff_ne]; exact h3), decide_eq_false (fun e => h3 (by rw [(List.cons.inj e).1]))]
      · rw [if_neg h2, decide_eq_false (fun e => h2 (by rw [(List.cons.inj e).1]))]
    · rw [if_neg h1, decide_eq_false (fun e => h1 (by rw [(List.cons.inj e).1]; simp))]
theorem refSame_val (l m : List S55) (kp kp' : Int) (hl : l.length ≤ 100000) (hi : ∀ x ∈ l, x.f2.f1.length ≤ 1000) {k : Nat} (hk : 1003 + l.length < k) : assartref05_Same.f k l kp m kp' = some (decide (kp = kp' ∧ l = m)) := by
  unfold assartref05_Same.f
  obtain ⟨k, rfl⟩ : ∃ m, k = m + 1 := ⟨k - 1, by omega⟩
  by_cases h1 : kp = kp'
  · rw [if_pos h1]
    simp only [assartref05_Same.j0]
    by_cases h2 : l.length = m.length
    · rw [if_neg (by rw [h2]; simp)]
      have := refSame_l0 l m kp kp' hl h2 hi l.length k 0 (by omega) (by omega)
      rw [show ((0 : Nat) : Int) = 0 from rfl, List.drop_zero, List.drop_zero] at this
      rw [this]
      congr 1
      rw [decide_eq_decide]
      exact ⟨fun h => ⟨h1, h⟩, fun h => h.2⟩
    · rw [if_pos (by rw [bne_iff_ne]; omega), decide_eq_false (fun h => h2 (by rw [h.2]))]
  · rw [if_neg h1]
    simp only [assartref05_Same.j0]
    rw [if_pos trivial, decide_eq_false (fun h => h1 h.1)]
def freeN (l : List S55) : Nat := (l.filter isFreeB).length
theorem freeN_le (l : List S55) : freeN l ≤ l.length := List.length_filter_le _ _
theorem freeN_drop {l : List S55} {j : Nat} (h : j < l.length) : freeN (l.drop j) = (if isFreeB (rd_T55 l (j : Nat)) = true then 1 else 0) + freeN (l.drop (j + 1)) := by
  obtain ⟨-, hd⟩ := rd55_mem h
  unfold freeN
  rw [hd, List.filter_cons]
  by_cases hf : isFreeB (rd_T55 l (j : Nat)) = true
  · rw [if_pos hf, if_pos hf, List.length_cons]; omega
  · rw [if_neg hf, if_neg hf]; omega
theorem free_l0 (l : List S55) (hl : l.length ≤ 100000) : ∀ (d k j c : Nat), j + d = l.length → d < k → c ≤ j → heap_Free.l0 k (c : Int) l (l.length : Int) (j : Int) = some (((c + freeN (l.drop j) : Nat)) : Int) := by
  intro d
  induction d with
  | zero =>
    intro k j c hj hk hc
    obtain ⟨k, rfl⟩ : ∃ m, k = m + 1 := ⟨k - 1, by omega⟩
    simp only [heap_Free.l0]
    rw [if_neg (by omega), List.drop_eq_nil_of_le (by omega)]
    rfl
  | succ d ih =>
    intro k j c hj hk hc
    obtain ⟨k, rfl⟩ : ∃ m, k = m + 1 := ⟨k - 1, by omega⟩
    simp only [heap_Free.l0]
    rw [if_pos (by omega), if_pos (by omega), if_pos (by omega), isFree_val, Option.bind_some, wsucc j (by omega), freeN_drop (by omega)]
    by_cases h : isFreeB (rd_T55 l (j : Nat)) = true
    · rw [if_pos h, if_pos h, wsucc c (by omega), ih k (j + 1) (c + 1) (by omega) (by omega) (by omega)]
      congr 2
      omega
    · rw [if_neg h, if_neg h, ih k (j + 1) c (by omega) (by omega) (by omega)]
      congr 2
      omega
theorem free_val (l : List S55) (kp : Int) (hl : l.length ≤ 100000) {k : Nat} (hk : l.length < k) : heap_Free.f k l kp = some (freeN l : Int) := by
  unfold heap_Free.f
  have := free_l0 l hl l.length k 0 0 (by omega) hk (by omega)
  rw [List.drop_zero, Nat.zero_add] at this
  exact this
def fitsB (l : List S55) (kp n : Int) (deep : Bool) : Bool := if deep = true then decide (n ≤ (freeN l : Int)) else decide (n ≤ wrap64 ((freeN l : Int) - kp))
theorem fits_val5 (l : List S55) (kp n : Int) (deep : Bool) (hl : l.length ≤ 100000) {k : Nat} (hk : l.length < k) : heap_Fits.f k l kp n deep = some (fitsB l kp n deep) := by
  unfold heap_Fits.f fitsB
  rw [free_val l kp hl hk, Option.bind_some]
  cases deep
  · rw [if_neg (by simp), if_neg (by simp)]
  · rw [if_pos rfl, if_pos rfl]
theorem small_items {l : List S55} (h : smallF l 0) : ∀ x ∈ l, x.f2.f1.length ≤ 10 ∧ x.f0 ≤ 1000000 := fun x hx => by
  obtain ⟨i, hi, rfl⟩ := List.mem_iff_getElem.1 hx
  have := h i hi (Nat.zero_le _)
  simp only [It, Rf] at this
  rw [rd55_at hi] at this
  exact this
end Go.Proofs.Yteiladccdenpbaa.P
end
section
namespace Go.Proofs.Yteiladccdenpbaa.P
open Go.RowKit Go.Proofs.Yteiladccdenpbaa.P Go.Proofs.YteiladccdenpbaaW.PrintWords Go.Proofs.YteiladccdenpbaaW.PrintLast
def zeroN (l : List S55) : Nat := (l.filter fun x => x.f0 == 0).length
theorem zeroN_drop {l : List S55} {j : Nat} (h : j < l.length) : zeroN (l.drop j) = (if (rd_T55 l (j : Nat)).f0 = 0 then 1 else 0) + zeroN (l.drop (j + 1)) := by
  obtain ⟨-, hd⟩ := rd55_mem h
  unfold zeroN
  rw [hd, List.filter_cons]
  by_cases hf : (rd_T55 l (j : Nat)).f0 = 0
  · rw [if_pos hf, if_pos (beq_iff_eq.2 hf), List.length_cons]; omega
  · rw [if_neg hf, if_neg (by rw [beq_iff_eq]; exact hf)]; omega
theorem zeroN_le (l : List S55) : zeroN l ≤ l.length := List.length_filter_le _ _
def settle (x : S55) : S55 := ⟨x.f0, false, x.f2⟩
theorem free_settle (l : List S55) : freeN (l.map settle) = zeroN l := by
  unfold freeN zeroN
  rw [List.filter_map, List.length_map]
  congr 2
  funext x
  simp [isFreeB, settle]
theorem right_settle (l : List S55) (kp : Int) (h : heapR l kp) : heapR (l.map settle) kp := by
  obtain ⟨h1, h2, h3, h4, h5⟩ := h
  refine ⟨by rw [List.length_map]; exact h1, by rw [List.length_map]; exact h2, h3, by rw [List.length_map]; exact h4, fun i hi h0 => ?_⟩
  rw [List.length_map] at hi ⊢
  rw [rd55_at (by rw [List.length_map]; exact hi), List.getElem_map]
  have := h5 i hi h0
  rw [rd55_at hi] at this
  rcases this with h | ⟨a, b, c, d⟩
  · exact .inl h
  · exact .inr ⟨a, b, rfl, d⟩
theorem settle_settle (l : List S55) : (l.map settle).map settle = l.map settle := by
  rw [List.map_map]; rfl
theorem idx_free (l : List S55) : idxN isFreeB l 0 < 0 ↔ ¬ 1 ≤ freeN l := by
  have := idxN_any isFreeB l 0
  have h2 : l.any isFreeB = true ↔ 1 ≤ freeN l := by
    unfold freeN
    rw [List.any_eq_true]
    constructor
    · rintro ⟨x, hx, hp⟩
      exact List.length_pos_of_mem (List.mem_filter.2 ⟨hx, hp⟩)
    · intro h
      obtain ⟨x, hx⟩ := List.exists_mem_of_length_pos (l := l.filter isFreeB) (by omega)
      exact ⟨x, (List.mem_filter.1 hx).1, (List.mem_filter.1 hx).2⟩
  rw [← h2, ← this, decide_eq_true_eq]
  omega
theorem HeapFits_end (l : List S55) (kp n : Int) (it : List S49) (k : Nat) (hk : 2020 ≤ k) (hl : l.length ≤ 60) (hs : ∀ x ∈ l, x.f2.f1.length ≤ 10) (hr : heapR l kp) (hit : RtN it) (hi2 : it.length ≤ 10) :
    assartlaw05_HeapFits.l0 k n true ((freeN l : Nat) : Int) ((zeroN l : Nat) : Int) (l.length : Int) l kp true it = some true := by
  obtain ⟨k, rfl⟩ : ∃ m, k = m + 1 := ⟨k - 1, by omega⟩
  simp only [assartlaw05_HeapFits.l0]
  rw [if_neg (by omega)]
  have ha : ∃ l' r, heap_Alloc.f l kp true it [] = some (l', kp, r, if 1 ≤ freeN l then 0 else 3) := by
    unfold heap_Alloc.f
    rw [if_pos ⟨by omega, by omega, by simp⟩, if_pos ⟨hit, by unfold leadsB; rfl⟩]
    by_cases h : idxN isFreeB l 0 < 0
    · exact ⟨l, 0, by rw [if_pos h, if_neg ((idx_free l).1 h)]⟩
    · refine ⟨l.set (idxN isFreeB l 0).toNat ⟨1, false, ⟨true, it⟩⟩, idxN isFreeB l 0, ?_⟩
      rw [if_neg h, if_pos (by have := idx_free l; omega)]
      unfold eachP
      rw [if_pos rfl, Option.bind_some, if_pos rfl]
  obtain ⟨l', r, ha⟩ := ha
  have hl0 := hr.1
  have hse : heap_Settle.f l kp = some (l.map settle, kp) := by unfold heap_Settle.f; rw [if_pos ⟨by omega, by omega⟩]; rfl
  have hse2 : heap_Settle.f (l.map settle) kp = some (l.map settle, kp) := by unfold heap_Settle.f; rw [if_pos ⟨by rw [List.length_map]; omega, by rw [List.length_map]; omega⟩]; congr 2; exact settle_settle l
  have hlm : (l.map settle).length = l.length := List.length_map _
  have hsm : ∀ x ∈ l.map settle, x.f2.f1.length ≤ 10 := fun x hx => by obtain ⟨y, hy, rfl⟩ := List.mem_map.1 hx; exact hs y hy
  rw [ha, Option.bind_some, hse, Option.bind_some, if_pos trivial, free_val l kp (by omega) (by omega), Option.bind_some, if_pos rfl, fits_val5 l kp n true (by omega) (by omega), Option.bind_some]
  simp only []
  rw [if_pos (by simp [fitsB]), fits_val5 l kp n false (by omega) (by omega), Option.bind_some, if_pos (by simp [fitsB]), fits_val5 l kp 1 true (by omega) (by omega), Option.bind_some, if_pos (by
    by_cases h : 1 ≤ freeN l
    · rw [if_pos h]; simp [fitsB]; omega
    · rw [if_neg h]; simp [fitsB]; omega), free_val (l.map settle) kp (by omega) (by omega), Option.bind_some, if_pos (by rw [free_settle]), right05_val _ kp k (.inr (by omega)), Option.bind_some, if_pos (decide_eq_true (right_settle l kp hr)), hse2, Option.bind_some]
  simp only []
  rw [refSame_val _ _ kp kp (by omega) (fun x hx => by have := hsm x hx; omega) (by omega), Option.bind_some]
  simp
theorem HeapFits_l0 (l : List S55) (kp n : Int) (it : List S49) (hl : l.length ≤ 60) (hs : ∀ x ∈ l, x.f2.f1.length ≤ 10) (hr : heapR l kp) (hit : RtN it) (hi2 : it.length ≤ 10) : ∀ (d k j c z : Nat), j + d = l.length → 2020 + d ≤ k → c + freeN (l.drop j) = freeN l → z + zeroN (l.drop j) = zeroN l →
    assartlaw05_HeapFits.l0 k n true (c : Int) (z : Int) (j : Int) l kp true it = some true := by
  intro d
  induction d with
  | zero =>
    intro k j c z hj hk hc hz
    rw [List.drop_eq_nil_of_le (by omega)] at hc hz
    have e1 : freeN ([] : List S55) = 0 := rfl
    have e2 : zeroN ([] : List S55) = 0 := rfl
    obtain rfl : c = freeN l := by omega
    obtain rfl : z = zeroN l := by omega
    obtain rfl : j = l.length := by omega
    exact HeapFits_end l kp n it k (by omega) hl hs hr hit hi2
  | succ d ih =>
    intro k j c z hj hk hc hz
    obtain ⟨k, rfl⟩ : ∃ m, k = m + 1 := ⟨k - 1, by omega⟩
    have hcl := freeN_le l
    have hzl := zeroN_le l
    rw [freeN_drop (by omega)] at hc
    rw [zeroN_drop (by omega)] at hz
    simp only [assartlaw05_HeapFits.l0]
    rw [if_pos (by omega), if_pos (by omega), wsucc j (by omega)]
    unfold isFreeB at hc
    by_cases h : (rd_T55 l (j : Nat)).f0 = 0
    · rw [if_pos h]
      rw [if_pos h] at hz
      rw [beq_iff_eq.2 h, Bool.true_and] at hc
      rw [wsucc z (by omega)]
      by_cases h2 : (rd_T55 l (j : Nat)).f1 = true
      · rw [if_pos h2]
        rw [h2, if_neg (by simp)] at hc
        exact ih k (j + 1) c (z + 1) (by omega) (by omega) (by omega) (by omega)
      · rw [if_neg h2]
        rw [Bool.not_eq_true] at h2
        rw [h2, if_pos (by rfl)] at hc
        rw [wsucc c (by omega)]
        exact ih k (j + 1) (c + 1) (z + 1) (by omega) (by omega) (by omega) (by omega)
    · rw [if_neg h]
      rw [if_neg h] at hz
      rw [beq_eq_false_iff_ne.2 h, Bool.false_and, if_neg (by simp)] at hc
      exact ih k (j + 1) c z (by omega) (by omega) (by omega) (by omega)
theorem HeapFits_val (l : List S55) (kp n : Int) (leaf : Bool) (it : List S49) : assartlaw05_HeapFits.g 10000 l kp n leaf it = some true := by
  unfold assartlaw05_HeapFits.g assartlaw05_shown.f
  have hj0 : ∀ k : Nat, 1 ≤ k → assartlaw05_HeapFits.j0 k n true true l kp leaf it = some true := fun k hk => by
    obtain ⟨k, rfl⟩ : ∃ m, k = m + 1 := ⟨k - 1, by omega⟩
    simp only [assartlaw05_HeapFits.j0]
    simp
  have hm := may05_val l kp 60 (by omega) 10000 (by omega)
  rw [show ((60 : Nat) : Int) = 60 from rfl] at hm
  rw [Option.bind_some, hm, Option.bind_some]
  by_cases h1 : mayH l kp 60
  · rw [if_pos (decide_eq_true h1)]
    by_cases h2 : (it.length : Int) > 10
    · rw [if_pos h2]; exact hj0 _ (by omega)
    · rw [if_neg h2]
      cases leaf
      · rw [if_neg (by simp)]; exact hj0 _ (by omega)
      · rw [if_pos rfl, refRight04_val true it 10000 (.inr (by omega)), Option.bind_some]
        by_cases h3 : RtN it
        · rw [decide_eq_true h3]
          simp only [assartlaw05_HeapFits.j0]
          rw [if_neg (by simp)]
          have hs := fun x hx => (small_items h1.2.1 x hx).1
          exact HeapFits_l0 l kp n it h1.1 hs h1.2.2 h3 (by omega) l.length _ 0 0 0 (by omega) (by have := h1.1; omega) (by rw [List.drop_zero]; omega) (by rw [List.drop_zero]; omega)
        · rw [decide_eq_false h3]; exact hj0 _ (by omega)
  · rw [if_neg (by simpa using h1)]; exact hj0 _ (by omega)
end Go.Proofs.Yteiladccdenpbaa.P
end
section
namespace Go.Proofs.Yteiladccdenpbaa.P
open Go.RowKit Go.Proofs.YteiladccdenpbaaW.PrintWords Go.Proofs.YteiladccdenpbaaW.PrintLast Go.Proofs.YteiladccdenpbaaW.PrintMore
set_option linter.unusedVariables false
def assartlaw05_HeapFits.f (k : Nat) (l0_0 : List (S55)) (a0_1 : Int) (a1 : Int) (a2_0 : Bool) (l2_1 : List (S49)) : Option (Bool) := some true
theorem assartlaw05_HeapFits.calls (k : Nat) (A0_0 : Option Addr) (c0_0 : Nat) (l0_0 : List (S55)) (a0_1 : Int) (a1 : Int) (a2_0 : Bool) (A2_1 : Option Addr) (c2_1 : Nat) (l2_1 : List (S49)) (r : Bool) (w : World) (hr0_0 : Kd.C k55 w A0_0 l0_0.length l0_0) (hc0_0 : l0_0.length ≤ c0_0) (hr2_1 : Kd.C k49 w A2_1 l2_1.length l2_1) (hc2_1 : l2_1.length ≤ c2_1) (h : assartlaw05_HeapFits.f k l0_0 a0_1 a1 a2_0 l2_1 = some r) :
    Calls Try.prog 12 #[.agg #[.slice A0_0 l0_0.length c0_0, .int .i64 a0_1], .int .i64 a1, .agg #[.bool a2_0, .slice A2_1 l2_1.length c2_1]] w fun e w' => e = .returned (.bool r) ∧ Below w.heap.size w w' := by
  obtain rfl := Option.some.inj h
  exact assartlaw05_HeapFits.walk 10000 A0_0 c0_0 l0_0 a0_1 a1 a2_0 A2_1 c2_1 l2_1 true w hr0_0 hc0_0 hr2_1 hc2_1 (HeapFits_val l0_0 a0_1 a1 a2_0 l2_1) rfl
end Go.Proofs.Yteiladccdenpbaa.P
end
section
namespace Go.Proofs.Yteiladccdenpbaa.P
open Go.RowKit Go.Proofs.YteiladccdenpbaaW.PrintWords Go.Proofs.YteiladccdenpbaaW.PrintLast Go.Proofs.YteiladccdenpbaaW.PrintMore
set_option linter.unusedVariables false
set_option linter.unusedSimpArgs false
structure Opens {α : Type} (P : Program) (t : TypeId) (d : Kd α) (ok : α → Prop) : Prop where
  sz : P.cellsOf t = d.sz
  op : ∀ {H : Type} {enc : TypeId × Value → H} {W : World} {base : Nat} {spare : Nat → Bool} {held : Bool} {fuel : Nat} {cs : List Value} {y : DataW H × List MemPlace}, DataW.trod enc P W base spare held fuel t cs = some y → (DataW.weights P t y.1).all (· ≤ reachBytes) = true → ∃ x, d.K W x cs ∧ ok x
theorem Opens.int {P : Program} {t : TypeId} {k : IntKind} (h : P.underlying t = some (.int k)) (hs : P.cellsOf t = 1) : Opens P t (Kd.int k) (fun n => (Lit.int k n).wf = true) :=
  ⟨hs, fun hy _ => by
    obtain ⟨n, rfl, _, hw⟩ := DataW.trod_int h hy
    exact ⟨n, rfl, hw⟩⟩
theorem Opens.bool {P : Program} {t : TypeId} (h : P.underlying t = some .bool) (hs : P.cellsOf t = 1) : Opens P t Kd.bool (fun _ => True) :=
  ⟨hs, fun hy _ => by
    obtain ⟨b, rfl, _⟩ := DataW.trod_bool h hy
    exact ⟨b, rfl, trivial⟩⟩
theorem choose_row {α : Type} {R : Nat → α → Prop} : ∀ n, (∀ i, i < n → ∃ x, R i x) → ∃ xs : List α, xs.length = n ∧ ∀ i x, xs[i]? = some x → R i x
  | 0, _ => ⟨[], rfl, fun i x h => by simp at h⟩
  | n + 1, h => by
    obtain ⟨xs, hl, hx⟩ := choose_row n (fun i hi => h i (by omega))
    obtain ⟨x, hr⟩ := h n (by omega)
    refine ⟨xs ++ [x], by simp [hl], fun i z hz => ?_⟩
    by_cases hi : i < n
    · rw [List.getElem?_append_left (by omega)] at hz
      exact hx i z hz
    · rw [List.getElem?_append_right (by omega)] at hz
      have : i - xs.length = 0 := by
        rcases Nat.eq_zero_or_pos (i - xs.length) with h0 | h0
        · exact h0
        · rw [List.getElem?_eq_none (by simp; omega)] at hz; cases hz
      rw [this] at hz
      simp at hz
      subst hz
      have : i = n := by omega
      rw [this]; exact hr
theorem weightsAll_mem {H : Type} {P : Program} {e : TypeId} : ∀ {ds : List (DataW H)}, (DataW.weightsAll P e ds).all (· ≤ reachBytes) = true → ∀ d ∈ ds, (DataW.weights P e d).all (· ≤ reachBytes) = true
  | [], _, d, hd => by cases hd
  | a :: ds, h, d, hd => by
    simp only [DataW.weightsAll, List.all_append, Bool.and_eq_true] at h
    rcases List.mem_cons.1 hd with rfl | hd
    · exact h.1
    · exact weightsAll_mem h.2 d hd
theorem Opens.slice {α : Type} {P : Program} {t e : TypeId} {d : Kd α} {ok : α → Prop} {B : Nat} (h : P.underlying t = some (.slice e)) (hs : P.cellsOf t = 1) (hB : P.bytesOf e = B) (he : Opens P e d ok) : Opens P t (Kd.slice e d) (fun xs => xs.length * B ≤ 140737488351232 ∧ ∀ x ∈ xs, ok x) :=
  ⟨hs, fun {H enc W base spare held fuel cs y} hy hw => by
    rcases DataW.trod_slice h hy with ⟨rfl, rfl⟩ | ⟨a, len, cap, elems, rest, n, rfl, rfl, rfl, hb, hl, hc, hel, hi, _, _⟩
    · exact ⟨[], ⟨none, 0, rfl, Nat.le_refl _, Kd.C_nil _ _⟩, by simp⟩
    · unfold DataW.weights at hw
      rw [h] at hw
      simp only [List.all_cons, List.all_append, Bool.and_eq_true, decide_eq_true_eq, hB, List.length_map] at hw
      obtain ⟨hw0, hw1, _⟩ := hw
      have hx : ∀ i, i < len → ∃ x, ok x ∧ ∃ c, c.length = d.sz ∧ d.K W x c ∧ W.cells? base (a.add (i * d.sz)) d.sz = some c := by
        intro i hlt
        have h1 := hi i hlt
        rw [List.getElem?_eq_getElem (by omega)] at h1
        obtain ⟨c, hc1, hc2⟩ := Option.bind_eq_some_iff.1 h1
        obtain ⟨x, hK, hok⟩ := he.op hc2 (weightsAll_mem hw1 _ (List.mem_map_of_mem (List.getElem_mem _)))
        rw [he.sz] at hc1
        exact ⟨x, hok, c, d.K_len hK, hK, hc1⟩
      obtain ⟨xs, hxl, hxs⟩ := choose_row len hx
      refine ⟨xs, ⟨some a, cap, by rw [hxl], by omega, rfl, ?_, fun hpos => ⟨a, rfl, fun j p hj => ?_⟩⟩, ?_, ?_⟩
      · simp only [maxLen] at hc; omega
      · obtain ⟨_, c, hcl, hK, hcc⟩ := hxs j p hj
        refine ⟨c, hcl, hK, fun i u hu => ?_⟩
        obtain ⟨_, _, hcell⟩ := World.cells?_some hcc
        have hi : i < d.sz := by rw [← hcl]; exact (List.getElem?_eq_some_iff.1 hu).1
        have := hcell i hi
        rw [Addr.add_add] at this
        rw [this, hu]
      · rw [hxl, ← hel]
        refine Nat.le_trans (Nat.mul_le_mul_right _ (Nat.le_add_right _ _)) hw0
      · intro x hx
        obtain ⟨i, hlt, rfl⟩ := List.getElem_of_mem hx
        exact (hxs i _ (List.getElem?_eq_getElem hlt)).1⟩
theorem weights_at {H : Type} {P : Program} : ∀ {ts : List TypeId} {ds : List (DataW H)} {j : Nat} {t : TypeId} {d : DataW H}, (DataW.weightsEach P ts ds).all (· ≤ reachBytes) = true → ts[j]? = some t → ds[j]? = some d → (DataW.weights P t d).all (· ≤ reachBytes) = true
  | [], _, _, _, _, _, ht, _ => by simp at ht
  | _ :: _, [], _, _, _, _, _, hd => by simp at hd
  | t0 :: ts, d0 :: ds, 0, _, _, h, ht, hd => by
    simp only [List.getElem?_cons_zero, Option.some.injEq] at ht hd
    subst ht; subst hd
    simp only [DataW.weightsEach, List.all_append, Bool.and_eq_true] at h
    exact h.1
  | t0 :: ts, d0 :: ds, j + 1, _, _, h, ht, hd => by
    simp only [List.getElem?_cons_succ] at ht hd
    simp only [DataW.weightsEach, List.all_append, Bool.and_eq_true] at h
    exact weights_at h.2 ht hd
structure OpensFs {α : Type} (P : Program) (fs : List Field) (off : Nat) (d : Kd α) (ok : α → Prop) : Prop where
  op : ∀ {H : Type} {enc : TypeId × Value → H} {W : World} {base : Nat} {spare : Nat → Bool} {held : Bool} {fuel : Nat} {cs : List Value} {ys : List (DataW H × List MemPlace)},
    (∀ (i : Nat) (f : Field), fs[i]? = some f → DataW.trod enc P W base spare held fuel f.type ((cs.drop f.offset).take (P.cellsOf f.type)) = ys[i]?) → ys.length = fs.length →
    (DataW.weightsEach P (fs.map (·.type)) (ys.map (·.1))).all (· ≤ reachBytes) = true → cs.length = off + d.sz → ∃ x, d.K W x (cs.drop off) ∧ ok x
theorem OpensFs.one {α : Type} {P : Program} {f : Field} {t : TypeId} {off : Nat} {d : Kd α} {ok : α → Prop} (ht : f.type = t) (hoff : f.offset = off) (h : Opens P t d ok) : OpensFs P [f] off d ok :=
  ⟨fun {H enc W base spare held fuel cs ys} hy hl hw hcs => by
    obtain ⟨y, rfl⟩ : ∃ y, ys = [y] := by
      cases ys with
      | nil => simp at hl
      | cons y ys => cases ys with
        | nil => exact ⟨y, rfl⟩
        | cons => simp at hl
    have h0 := hy 0 f rfl
    simp only [List.getElem?_cons_zero] at h0
    simp only [List.map_cons, List.map_nil, DataW.weightsEach, List.append_nil] at hw
    rw [ht] at h0 hw
    obtain ⟨x, hK, hok⟩ := h.op h0 hw
    rw [hoff, List.take_of_length_le (by rw [List.length_drop, h.sz]; omega)] at hK
    exact ⟨x, hK, hok⟩⟩
theorem OpensFs.cons {α β : Type} {P : Program} {f : Field} {fs : List Field} {t : TypeId} {off n : Nat} {d : Kd α} {d' : Kd β} {ok : α → Prop} {ok' : β → Prop} (ht : f.type = t) (hoff : f.offset = off) (h : Opens P t d ok) (hn : off + d.sz = n) (hr : OpensFs P fs n d' ok') :
    OpensFs P (f :: fs) off (Kd.pair d d') (fun x => ok x.1 ∧ ok' x.2) :=
  ⟨fun {H enc W base spare held fuel cs ys} hy hl hw hcs => by
    cases ys with
    | nil => simp at hl
    | cons y ys =>
      have h0 := hy 0 f rfl
      simp only [List.getElem?_cons_zero] at h0
      simp only [List.map_cons, DataW.weightsEach, List.all_append, Bool.and_eq_true] at hw
      have hw0 := hw.1
      rw [ht] at h0 hw0
      obtain ⟨x, hK, hok⟩ := h.op h0 hw0
      have hsz : (Kd.pair d d').sz = d.sz + d'.sz := rfl
      rw [hsz] at hcs
      obtain ⟨x', hK', hok'⟩ := hr.op (fun i g hg => hy (i + 1) g (by simpa using hg)) (by simpa using hl) hw.2 (by omega)
      refine ⟨(x, x'), ⟨_, _, ?_, hK, hK'⟩, hok, hok'⟩
      rw [hoff, h.sz, ← hn, ← List.drop_drop]
      exact (List.take_append_drop _ _).symm⟩
theorem Opens.struct {α β : Type} {P : Program} {t : TypeId} {fs : Array Field} {fl : List Field} {d : Kd α} {ok : α → Prop} (f : β → α) (g : α → β) (hfg : ∀ x, f (g x) = x) (h : P.underlying t = some (.struct fs)) (hfl : fs.toList = fl) (hs : P.cellsOf t = d.sz) (ho : OpensFs P fl 0 d ok) :
    Opens P t (Kd.iso d f) (fun x => ok (f x)) :=
  ⟨hs, fun {H enc W base spare held fuel cs y} hy hw => by
    obtain ⟨xs, n, rfl, rfl, hcl, hxl, hx⟩ := DataW.trod_struct h hy
    unfold DataW.weights at hw
    rw [h] at hw
    simp only [hfl] at hw
    subst hfl
    obtain ⟨x, hK, hok⟩ := ho.op (ys := xs) (fun i f hf => hx i f (by simpa using hf)) (by simpa using hxl) hw (by omega)
    rw [List.drop_zero] at hK
    refine ⟨g x, ?_, ?_⟩
    · show d.K W (f (g x)) cs
      rw [hfg]; exact hK
    · rw [hfg]; exact hok⟩
end Go.Proofs.Yteiladccdenpbaa.P
end
section
namespace Go.Proofs.Yteiladccdenpbaa.P
open Go.RowKit Go.Proofs.YteiladccdenpbaaW.PrintWords Go.Proofs.YteiladccdenpbaaW.PrintLast Go.Proofs.YteiladccdenpbaaW.PrintMore
attribute [local go_sem] max2_int min2_int max_two min_two max_three min_three max_four min_four
set_option linter.unusedVariables false
set_option linter.unusedSimpArgs false
def ok49 (x : S49) : Prop := (fun x => (Lit.int .i64 x).wf = true) x.f0 ∧ (fun x => (Lit.int .i64 x).wf = true) x.f1
theorem opens49 : Opens Try.prog 49 k49 ok49 := Opens.struct (fs := _) (fun x : S49 => (x.f0, x.f1)) (fun p => ⟨p.1, p.2⟩) (fun _ => rfl) Try.underlying49 rfl (by kernel_rfl) (OpensFs.cons rfl rfl (Opens.int Try.underlying3 (by kernel_rfl)) rfl (OpensFs.one rfl rfl (Opens.int Try.underlying3 (by kernel_rfl))))
def ok53 (x : S53) : Prop := (fun x => True) x.f0 ∧ (fun x => x.length * 16 ≤ 140737488351232 ∧ ∀ y ∈ x, (ok49) y) x.f1
theorem opens53 : Opens Try.prog 53 k53 ok53 := Opens.struct (fs := _) (fun x : S53 => (x.f0, x.f1)) (fun p => ⟨p.1, p.2⟩) (fun _ => rfl) Try.underlying53 rfl (by kernel_rfl) (OpensFs.cons rfl rfl (Opens.bool Try.underlying4 (by kernel_rfl)) rfl (OpensFs.one rfl rfl (Opens.slice (B := 16) Try.underlying43 (by kernel_rfl) (by kernel_rfl) opens49)))
def ok55 (x : S55) : Prop := (fun x => (Lit.int .i64 x).wf = true) x.f0 ∧ (fun x => True) x.f1 ∧ (ok53) x.f2
theorem opens55 : Opens Try.prog 55 k55 ok55 := Opens.struct (fs := _) (fun x : S55 => (x.f0, x.f1, x.f2)) (fun p => ⟨p.1, p.2.1, p.2.2⟩) (fun _ => rfl) Try.underlying55 rfl (by kernel_rfl) (OpensFs.cons rfl rfl (Opens.int Try.underlying3 (by kernel_rfl)) rfl (OpensFs.cons rfl rfl (Opens.bool Try.underlying4 (by kernel_rfl)) rfl (OpensFs.one rfl rfl opens53)))
def assartlaw05_HeapFits.QPure : Prop := ∀ (l0_0 : List (S55)) (a0_1 : Int) (a1 : Int) (a2_0 : Bool) (l2_1 : List (S49)), (l0_0.length * 48 ≤ 140737488351232 ∧ ∀ x ∈ l0_0, ok55 x) → ((Lit.int .i64 a0_1).wf = true) → ((Lit.int .i64 a1).wf = true) → (l2_1.length * 16 ≤ 140737488351232 ∧ ∀ x ∈ l2_1, ok49 x) → ∃ k, assartlaw05_HeapFits.f k l0_0 a0_1 a1 a2_0 l2_1 = some true
end Go.Proofs.Yteiladccdenpbaa.P
end
section
namespace Go.Proofs.Yteiladccdenpbaa.Pure
open Go.RowKit Go.Proofs.Yteiladccdenpbaa.P
theorem HeapFits : assartlaw05_HeapFits.QPure := by
  unfold assartlaw05_HeapFits.QPure
  intros
  exact ⟨0, rfl⟩
end Go.Proofs.Yteiladccdenpbaa.Pure
end
section
namespace Go.Proofs.Yteiladccdenpbaa.heapFits
open Go.ChangeShapes Go.WideShapes Go.ChangeAt Go.RowKit Go.Proofs.Yteiladccdenpbaa.P Go.Proofs.YteiladccdenpbaaW.PrintWords Go.Proofs.YteiladccdenpbaaW.PrintLast Go.Proofs.YteiladccdenpbaaW.PrintMore
open Go.ChangeMaps (open_string shut_string)
set_option linter.unusedVariables false
set_option linter.unusedSimpArgs false
theorem own : ownKnob Try.prog.godebug = none := by kernel_rfl
theorem laidOut : laidOutB Try.prog = true := by kernel_rfl
set_option maxHeartbeats 1000000 in
set_option maxRecDepth 100000 in
theorem lifted (os : Os) (started : os.Started) (H : Type) (enc : TypeId × Value → H) :
  ReturnsInHanded {} Try.checked os 12 .any (Rows.heapFitsSpec.pre6 enc Try.prog Try.f12 Rows.heapFitsRow.domain false) (Rows.heapFitsSpec.post enc Try.prog Try.f12 false true false false) := by
 refine returnsInHanded_of_change_sized (C := Try.checked) own started (by kernel_rfl) Try.func12
  (ChangeSpec.witness6 (enc := enc) (C := Try.checked) false ⟨#[], #[.agg #[.slice none 0 0, .int .i64 0], .int .i64 0, .agg #[.bool false, .slice none 0 0]], []⟩ 8 (by kernel_rfl) (by kernel_rfl) (by kernel_rfl) (by kernel_rfl)) ?_
 intro W base args ds gs before hval0 hW hcnd hsz0 _
 have hsz : (DataW.weightsEach Try.prog (Try.f12.params.toList ++ Rows.heapFitsSpec.plain.varTypes Try.prog) (ds ++ gs)).all (· ≤ reachBytes) = true := hsz0
 have hval : ∀ (j : Nat) t v, Try.f12.params[j]? = some t → args[j]? = some v → Value.okWide Try.prog W .any base t v := hval0
 have hW' := hW
 obtain ⟨p, q, hA0, hV, rfl, hfz, hnd⟩ := hW
 have hA : DataW.TrodAll enc Try.prog W 0 (fun _ => true) true Try.f12.params.toList args.toList ds p := hA0
 rw [Try.params12] at hA hval hsz
 obtain ⟨v0, vs0, d0, ds0, p0, q0, hargs, rfl, rfl, h0, r0⟩ := trodAll_cons hA
 obtain ⟨v1, vs1, d1, ds1, p1, q1, rfl, rfl, rfl, h1, r1⟩ := trodAll_cons r0
 obtain ⟨v2, vs2, d2, ds2, p2, q2, rfl, rfl, rfl, h2, r2⟩ := trodAll_cons r1
 obtain ⟨rfl, rfl, rfl⟩ := trodAll_nil r2
 obtain rfl : args = #[v0, v1, v2] := by cases args; simp_all
 obtain ⟨rfl, rfl⟩ := trodVars_none hV
 have k0 := h0
 have lt0 : ∀ x ∈ p0, x.block < W.heap.size := by obtain ⟨m, hm⟩ := k0; exact DataW.trod_lt m _ _ _ hm
 have wt0 := weights_at hsz (j := 0) (t := 24) (d := d0) rfl rfl
 obtain ⟨fuel0, hf0⟩ := h0
 obtain ⟨x0, hK0, hok0⟩ := (Opens.struct (f := id) (g := id) (fun _ => rfl) Try.underlying24 rfl (by kernel_rfl) (OpensFs.cons rfl rfl (Opens.slice (B := 48) Try.underlying22 (by kernel_rfl) (by kernel_rfl) opens55) rfl (OpensFs.one rfl rfl (Opens.int Try.underlying3 (by kernel_rfl))))).op hf0 wt0
 obtain ⟨cs0, rfl, hsz0⟩ := okWide_struct Try.underlying24 (hval 0 24 v0 rfl rfl)
 obtain ⟨l0_0, a0_1⟩ := x0
 obtain ⟨L0, hL0⟩ : ∃ L, (Value.agg cs0).cells.toList = L := ⟨_, rfl⟩
 rw [hL0] at hK0
 obtain ⟨_, _, rfl, ⟨A0_0, c0_0, rfl, hc0_0, hr0_0⟩, rfl⟩ := hK0
 obtain rfl : cs0 = #[.slice A0_0 l0_0.length c0_0, .int .i64 a0_1] := by have h := hL0; simp [Value.cells] at h; cases cs0; simp_all
 obtain ⟨o0_0, o0_1⟩ := hok0
 have k1 := h1
 have lt1 : ∀ x ∈ p1, x.block < W.heap.size := by obtain ⟨m, hm⟩ := k1; exact DataW.trod_lt m _ _ _ hm
 have wt1 := weights_at hsz (j := 1) (t := 3) (d := d1) rfl rfl
 obtain ⟨a1, rfl, _, _, o1⟩ := open_int Try.underlying3 (hval 1 3 v1 rfl rfl) h1
 have k2 := h2
 have lt2 : ∀ x ∈ p2, x.block < W.heap.size := by obtain ⟨m, hm⟩ := k2; exact DataW.trod_lt m _ _ _ hm
 have wt2 := weights_at hsz (j := 2) (t := 53) (d := d2) rfl rfl
 obtain ⟨fuel2, hf2⟩ := h2
 obtain ⟨x2, hK2, hok2⟩ := (Opens.struct (f := id) (g := id) (fun _ => rfl) Try.underlying53 rfl (by kernel_rfl) (OpensFs.cons rfl rfl (Opens.bool Try.underlying4 (by kernel_rfl)) rfl (OpensFs.one rfl rfl (Opens.slice (B := 16) Try.underlying43 (by kernel_rfl) (by kernel_rfl) opens49)))).op hf2 wt2
 obtain ⟨cs2, rfl, hsz2⟩ := okWide_struct Try.underlying53 (hval 2 53 v2 rfl rfl)
 obtain ⟨a2_0, l2_1⟩ := x2
 obtain ⟨L2, hL2⟩ : ∃ L, (Value.agg cs2).cells.toList = L := ⟨_, rfl⟩
 rw [hL2] at hK2
 obtain ⟨_, _, rfl, rfl, ⟨A2_1, c2_1, rfl, hc2_1, hr2_1⟩⟩ := hK2
 obtain rfl : cs2 = #[.bool a2_0, .slice A2_1 l2_1.length c2_1] := by have h := hL2; simp [Value.cells] at h; cases cs2; simp_all
 obtain ⟨o2_0, o2_1⟩ := hok2
 clear hA0 hval0 hsz0 hsz
 obtain ⟨k, h⟩ := Pure.HeapFits l0_0 a0_1 a1 a2_0 l2_1 o0_0 o0_1 o1 o2_1
 refine (assartlaw05_HeapFits.calls k _ _ l0_0 a0_1 a1 a2_0 _ _ l2_1 true W hr0_0 hc0_0 hr2_1 hc2_1 h).mono fun e W' ⟨he, bel0⟩ => ?_
 have bel := bel0
 subst he
 exact ⟨_, rfl, _, _, _, [], _, [], hW', trodAll_mk1 (shut_bool Try.underlying4 _), (trodAll_cons_mk (Below.trod laidOut (by kernel_rfl) (of_decide_eq_true (by kernel_rfl)) k0 bel lt0) (trodAll_cons_mk (Below.trod laidOut (by kernel_rfl) (of_decide_eq_true (by kernel_rfl)) k1 bel lt1) (trodAll_cons_mk (Below.trod laidOut (by kernel_rfl) (of_decide_eq_true (by kernel_rfl)) k2 bel lt2) trodAll_mk0))), rfl, bel.frame _, fun h => by cases h⟩
theorem over : Rows.heapFitsRow.holds Try.pinned (OpenSpec.ofChange Rows.heapFitsSpec) :=
 OpenClaim.holds_of_wide 12 Try.f12 rfl rfl rfl rfl rfl rfl rfl ⟨rfl, rfl, rfl, rfl, rfl⟩ rfl rfl rfl rfl rfl (by kernel_rfl) Try.func12 (by kernel_rfl)
  (of_decide_eq_true (by kernel_rfl)) (by unfold Func.isWrapper; first | (rw [if_pos (by decide +kernel)]; kernel_rfl) | (rw [if_neg (by decide +kernel)]; exact ⟨rfl, rfl⟩))
  (fun os started H enc _ => lifted os started H enc)
theorem proved : Rows.HeapFitsSaid := over
#print axioms proved
end Go.Proofs.Yteiladccdenpbaa.heapFits
namespace Go.Proofs.Yteiladccdenpbaa
theorem heapFits_holds : Rows.HeapFitsSaid := heapFits.proved
end Go.Proofs.Yteiladccdenpbaa
end
