/- Texts of this claim's proof put together: HCleanShared, HRow, LawCleanShared. -/
import Derived.Below
import Derived.Deep.Draws
import Derived.Deep.AppendLies
import Derived.Maps.AppendAt
import Derived.OwnWalk
import Derived.Laws.BytesArg
import Derived.Laws.MakeOwn
import Derived.Laws.OwnMore
import Derived.Deep.OwnRows
import Derived.Tactics
import Derived.Lib.ConvBytes
import Derived.Laws.Slices
import Derived.WalkKit
import Derived.KernelRfl
import Derived.RowKit3
import Derived.Deep.LoopGhost
import Derived.Deep.QuietTactic
import Derived.BigQuiet
import Derived.WideLaws
import Derived.Deep.DeepCutAuto
import Derived.Deep.CutBlock
import Derived.Deep.RegionHeld3
import Derived.Laws.Rows
import Derived.Lib.AppendStr
import Derived.ArgAppend
import Derived.Laws.IdiomCopy
import Derived.RowKit
import Derived.OrdersHeld
import Derived.Laws.BitsLemmas
import Derived.Laws.StructEq
import Derived.Test.YtflndiikeoflfaaProg
import Derived.Shelf.RegionOpenPlain
import Derived.Shelf.Abstract
import Derived.Laws.CopyOwn
import Derived.Lib.SlBuf
import Derived.WalkLawsBesides
import Derived.Lib.LazyBuf
import Derived.ChangeArms
import Derived.DataReads
import Derived.DataElems
import Derived.SizedLaws
import Derived.Test.YtflndiikeoflfaaRows
import Derived.ProofKit
import Derived.OpenShut
import Derived.ShutString
import Derived.ChangeOld
import Derived.Test.YtflndiikeoflfaaKCleanShared0
import Derived.Test.YtflndiikeoflfaaKCleanShared1
import Derived.Test.YtflndiikeoflfaaKCleanShared2
import Derived.Test.YtflndiikeoflfaaKCleanShared3
import Derived.Test.YtflndiikeoflfaaKCleanShared4
namespace Foot
end Foot
namespace Go.Proofs.Ytflndiikeoflfaa
end Go.Proofs.Ytflndiikeoflfaa
namespace Go.Proofs.Ytflndiikeoflfaa.P
end Go.Proofs.Ytflndiikeoflfaa.P
namespace Go.Proofs.Ytflndiikeoflfaa.cleanShared
end Go.Proofs.Ytflndiikeoflfaa.cleanShared
namespace Go.Proofs.YtflndiikeoflfaaW.PrintLast
end Go.Proofs.YtflndiikeoflfaaW.PrintLast
namespace Go.Proofs.YtflndiikeoflfaaW.PrintMore
end Go.Proofs.YtflndiikeoflfaaW.PrintMore
namespace Go.Proofs.YtflndiikeoflfaaW.PrintWords
end Go.Proofs.YtflndiikeoflfaaW.PrintWords
namespace Kd
end Kd
section
namespace Go.Proofs.Ytflndiikeoflfaa.P
open Go.RowKit Go.Proofs.YtflndiikeoflfaaW.PrintWords Go.Proofs.YtflndiikeoflfaaW.PrintLast Go.Proofs.YtflndiikeoflfaaW.PrintMore
set_option linter.unusedVariables false
set_option linter.unusedSimpArgs false
theorem litI2 (W : World) (a b : Int) : Kd.C (Kd.int .i64) (W.alloc (.cells #[.int .i64 a, .int .i64 b] 3)) (some ⟨W.heap.size, 0, none⟩) 2 [a, b] := by
  refine ⟨rfl, by omega, fun _ => ⟨_, rfl, fun j p hj => ?_⟩⟩
  match j, hj with
  | 0, hj =>
    simp at hj
    subst hj
    refine ⟨_, rfl, rfl, fun i u hu => ?_⟩
    rw [add_g, blk_cell (alloc_new W _)]
    match i, hu with
    | 0, hu => simpa using hu
    | i + 1, hu => simp at hu
  | 1, hj =>
    simp at hj
    subst hj
    refine ⟨_, rfl, rfl, fun i u hu => ?_⟩
    rw [add_g, blk_cell (alloc_new W _)]
    match i, hu with
    | 0, hu => simp at hu; subst hu; rfl
    | i + 1, hu => simp at hu
  | j + 2, hj => simp at hj
theorem fine_at (A : Option Addr) (c : Nat) (l : List S38) (kp : Int) (A1 : Option Addr) (c1 : Nat) (rs : List Int) (b : Bool) (w : World) (hr : Kd.C k38 w A l.length l) (hc : l.length ≤ c) (hr1 : Kd.C (Kd.int .i64) w A1 rs.length rs) (hc1 : rs.length ≤ c1) (h : assartref08_Fine.f 400000 l kp rs [] 40 = some b) :
    Calls Try.prog 6 #[.agg #[.slice A l.length c, .int .i64 kp], .slice A1 rs.length c1, .slice none 0 0, .int .i64 40] w fun e w' => e = .returned (.bool b) ∧ Below w.heap.size w w' :=
  assartref08_Fine.calls 400000 A c l kp A1 c1 rs none 0 [] 40 b w hr hc hr1 hc1 (Kd.C_nil _ _) (Nat.le_refl _) h
theorem less_eq (r0 : Int) (h : 2 ≤ r0) (h1 : r0 ≤ 1000000) : (r0 - 1 == wrap64 (r0 - 1)) = true := by
  rw [show wrap64 (r0 - 1) = r0 - 1 by unfold wrap64; omega]
  exact beq_self_eq_true _
def hShd.T6 : Bool × List (List Nat × List Nat) := (true, [([], []), ([0], [0]), ([1], [1]), ([2, 1], [1, 2]), ([1, 3], [1, 3]), ([4, 1], [4]), ([5], [5]), ([6, 5], [5, 6]), ([7, 5], [5, 7]), ([5, 8], [5, 8]), ([9, 5], [9]), ([10], [10]), ([10], [10]), ([12, 10], [10, 12]), ([11, 13, 10, 10], [10, 11, 13]), ([10, 14], [10, 14]), ([15, 14], [15]), ([16], [16]), ([16], [16]), ([17, 18, 16, 16], [16, 17, 18]), ([16], [16]), ([16], [16]), ([20, 21, 19, 16], [16, 20, 21]), ([19, 22, 22, 16], [16, 19, 22]), ([16, 23], [16, 23]), ([24, 23], [24]), ([25], [25]), ([26, 25], [25, 26]), ([25], [25]), ([27, 28, 25], [25, 27, 28]), ([29, 25], [25, 29]), ([30, 25], [25, 30]), ([25], [25]), ([32, 25], [25, 32]), ([25], [25]), ([33, 34, 25], [25, 33, 34]), ([35, 25], [25, 35]), ([36, 25], [25, 36]), ([37, 25], [25, 37]), ([31, 38, 25], [25, 31, 38]), ([25, 39], [25, 39]), ([40, 25, 0, 1, 2, 3, 4, 5, 6, 7, 8, 9, 10, 11, 12, 13, 14, 15, 16, 17, 18, 19, 20, 21, 22, 23, 24, 25, 26, 27, 28, 29, 30, 31, 32, 33, 34, 35, 36, 37, 38, 39, 40], [40])])
def hShd.B6 : List Nat := [0, 1, 3, 7, 15, 31, 63, 127, 255, 511, 1023, 2047, 2047, 6143, 16383, 32767, 65535, 131071, 131071, 524287, 131071, 131071, 4194303, 8388607, 16777215, 33554431, 67108863, 134217727, 67108863, 536870911, 1073741823, 2147483647, 67108863, 4362076159, 67108863, 30131879935, 64491618303, 133211095039, 270650048511, 549755813887, 1099511627775, 2199023255551]
theorem hShd.tab6 : rtab .any (opsOf Try.f4 6) = hShd.T6 := by kernel_rfl
theorem hShd.bits6 : waitsOk hShd.T6.2 hShd.B6 = true := by kernel_rfl
set_option maxHeartbeats 8000000 in
set_option maxRecDepth 100000 in
theorem assartlaw11_CleanShared.walk (A : Option Addr) (c : Nat) (l : List S38) (kp r : Int) (w : World) (hr : Kd.C k38 w A l.length l) (hc : l.length ≤ c) :
    Calls Try.prog 4 #[.agg #[.slice A l.length c, .int .i64 kp], .int .i64 r] w fun e w' => e = .returned (.bool true) ∧ Below w.heap.size w w' := by
  have hlenI : ((if r < 0 then true else false) : Bool) = decide (r < 0) := by by_cases h : r < 0 <;> simp [h]
  clear hlenI
  obtain ⟨wA, hwA⟩ : ∃ wA, w.alloc (.cells #[.slice A l.length c, .int .i64 kp] 24) = wA := ⟨_, rfl⟩
  have HB : Aside0 (Below w.heap.size w wA) := ⟨by rw [← hwA]; exact (Below.refl _ w).alloc (Nat.le_refl _) _⟩
  have KXh : Aside0 (wA.heap[w.heap.size]? = some (.cells #[.slice A l.length c, .int .i64 kp] 24 (0, 0))) := ⟨by rw [← hwA]; exact alloc_new w _⟩
  have HVl : Aside0 (Kd.V k38 38 wA 0 (fun k => k < w.heap.size) (.slice A l.length c) l) := ⟨Kd.V_below (Kd.V_mk hc (Kd.C_F k38_heap hr)) HB.out⟩
  clear hr hc
  have hu24 := Try.underlying24
  have hu22 := Try.underlying22
  have hu25 := Try.underlying25
  have hu28 := Try.underlying28
  have hu34 := Try.underlying34
  have hu38 := Try.underlying38
  go_enter Try.func4, Try.ntmps4
  go_wp2_with fail
  refine (assartlaw11_shown.calls wA).mono ?_
  rintro e w1 ⟨rfl, hb⟩
  replace HB := Aside0.mk (HB.out.trans (hb.mono HB.out.size))
  replace KXh := Aside0.mk (blk_below KXh.out hb)
  replace HVl := Aside0.mk (Kd.V_below HVl.out hb)
  clear hb hwA
  by_cases h0 : r < 0
  · have hn : decide (r < 0) = true := decide_eq_true h0
    go_wp2
    go_ret
    exact ⟨rfl, HB.out⟩
  · obtain ⟨p, rfl⟩ : ∃ p : Nat, r = (p : Nat) := ⟨r.toNat, by omega⟩
    have hn : decide ((p : Int) < 0) = false := decide_eq_false h0
    have xh_0 : w1.cell? ⟨w.heap.size, 0, none⟩ = some (.slice A l.length c) := (blk_cell KXh.out 0).trans rfl
    have xh_1 : w1.cell? ⟨w.heap.size, 1, none⟩ = some (.int .i64 kp) := (blk_cell KXh.out 1).trans rfl
    have lh : w.heap.size < w1.heap.size := blk_lt KXh.out
    go_wp2_with fail
    clear hn xh_0 xh_1 lh
    have HI := Aside0.mk (litI2 w1 (p : Int) (p : Int))
    have hpre : Below w1.heap.size w1 (w1.alloc (.cells #[.int .i64 (p : Int), .int .i64 (p : Int)] 3)) := (Below.refl w1.heap.size w1).alloc (Nat.le_refl _) _
    replace HB := Aside0.mk (HB.out.trans (hpre.mono HB.out.size))
    replace KXh := Aside0.mk (blk_below KXh.out hpre)
    replace HVl := Aside0.mk (Kd.V_below HVl.out hpre)
    have KXi : Aside0 ((w1.alloc (.cells #[.int .i64 (p : Int), .int .i64 (p : Int)] 3)).heap[w1.heap.size]? = some (.cells #[.int .i64 (p : Int), .int .i64 (p : Int)] 3 (0, 0))) := ⟨alloc_new w1 _⟩
    clear hpre
    obtain ⟨w2, hw_⟩ : ∃ w_, (w1.alloc (.cells #[.int .i64 (p : Int), .int .i64 (p : Int)] 3)) = w_ := ⟨_, rfl⟩
    rw [hw_]
    rw [hw_] at HI HB KXh HVl KXi
    clear hw_ KXi
    rcases fine_tot l kp (p : Int) with hf | ⟨hf, hF⟩
    · refine (assartref08_Fine.calls 400000 A c l kp (some ⟨w1.heap.size, 0, none⟩) 2 [(p : Int), (p : Int)] none 0 [] 40 false w2 (Kd.V_reads' HVl.out).2.2 (Kd.V_reads' HVl.out).2.1 HI.out (Nat.le_refl _) (Kd.C_nil _ _) (Nat.le_refl _) hf).mono ?_
      rintro e w3 ⟨rfl, hb⟩
      replace HB := Aside0.mk (HB.out.trans (hb.mono HB.out.size))
      replace KXh := Aside0.mk (blk_below KXh.out hb)
      replace HVl := Aside0.mk (Kd.V_below HVl.out hb)
      clear hb
      go_wp2
      go_ret
      exact ⟨rfl, HB.out⟩
    · refine (assartref08_Fine.calls 400000 A c l kp (some ⟨w1.heap.size, 0, none⟩) 2 [(p : Int), (p : Int)] none 0 [] 40 true w2 (Kd.V_reads' HVl.out).2.2 (Kd.V_reads' HVl.out).2.1 HI.out (Nat.le_refl _) (Kd.C_nil _ _) (Nat.le_refl _) hf).mono ?_
      rintro e w3 ⟨rfl, hb⟩
      replace HB := Aside0.mk (HB.out.trans (hb.mono HB.out.size))
      replace KXh := Aside0.mk (blk_below KXh.out hb)
      replace HVl := Aside0.mk (Kd.V_below HVl.out hb)
      clear hb HI hf
      obtain ⟨hp1, hl40, h2, hbig, hlo, hfg, hrg, L, hL1, hL2, hIt⟩ := shared_says l kp (p : Int) hF (by omega)
      rw [Int.toNat_natCast] at hlo hfg hrg hL2
      have hp : p < l.length := by omega
      have HLEN : Aside0 ((lessL l p).length = l.length) := ⟨(sh_less l p hp h2).1⟩
      obtain ⟨lg, hlg⟩ : ∃ lg, lessL l p = lg := ⟨_, rfl⟩
      rw [hlg] at hlo hfg hrg hL2 HLEN
      obtain ⟨r0, hr0⟩ : ∃ r0, (rd_T38 l (p : Nat)).f0 = r0 := ⟨_, rfl⟩
      rw [hr0] at h2 hbig hrg
      have HLES : Aside0 ((rd_T38 l (p : Nat)).f0 ≠ 1) := ⟨by omega⟩
      have HR0 := Aside0.mk hr0
      have HRG := Aside0.mk hrg
      have HLO := Aside0.mk hlo
      have HFG := Aside0.mk hfg
      have HL1 := Aside0.mk hL1
      have HL2 := Aside0.mk hL2
      have HIT := Aside0.mk hIt
      have HNE := Aside0.mk (less_eq r0 h2 hbig)
      clear hlo hfg hrg hL1 hL2 hIt hF hlg hr0 h2 hbig
      have xh_0 : w3.cell? ⟨w.heap.size, 0, none⟩ = some (.slice A l.length c) := (blk_cell KXh.out 0).trans rfl
      have xh_1 : w3.cell? ⟨w.heap.size, 1, none⟩ = some (.int .i64 kp) := (blk_cell KXh.out 1).trans rfl
      have lh : w.heap.size < w3.heap.size := blk_lt KXh.out
      go_wp2_with fail
      clear xh_0 xh_1 lh
      refine (give_walk p w3).mono ?_
      rintro e w4 ⟨v_, rfl, hv, hb⟩
      replace HB := Aside0.mk (HB.out.trans (hb.mono HB.out.size))
      replace KXh := Aside0.mk (blk_below KXh.out hb)
      replace HVl := Aside0.mk (Kd.V_below HVl.out hb)
      obtain ⟨At, ct, ev, hct, hCt⟩ := Kd.R_reads hv
      subst ev
      have HFt : Aside0 (Kd.F kc w4 (fun k => k < w4.heap.size) At (fls [(p, 0)]).length (fls [(p, 0)])) := ⟨Kd.C_F kc_heap hCt⟩
      have HCt : Aside0 (([] : List (Nat × Nat)).length + 1 ≤ ct) := ⟨hct⟩
      rw [show ([(fl p, fl 0)] : List (Nat × Nat)).length = ([] : List (Nat × Nat)).length + 1 from rfl]
      clear hv hb hct hCt
      have xh_0 : w4.cell? ⟨w.heap.size, 0, none⟩ = some (.slice A l.length c) := (blk_cell KXh.out 0).trans rfl
      have xh_1 : w4.cell? ⟨w.heap.size, 1, none⟩ = some (.int .i64 kp) := (blk_cell KXh.out 1).trans rfl
      have lh : w.heap.size < w4.heap.size := blk_lt KXh.out
      go_wp2_with fail
      clear xh_0 xh_1 lh
      refine (step_less (fun _ => True) A c l kp At ct p 0 [] w4 (V_base (Kd.V_mono HVl.out (fun _ _ => trivial))) _ HFt.out HCt.out (by decide) hp (by omega) (by decide) rfl (.inl HLES.out) lg 0 HLO.out).mono ?_
      rintro e w5 ⟨Ag, cg, At2, ct2, rfl, hv, -, hct2, hb⟩
      replace HB := Aside0.mk (HB.out.trans (hb.mono HB.out.size))
      replace KXh := Aside0.mk (blk_below KXh.out hb)
      replace HVl := Aside0.mk (Kd.V_below HVl.out hb)
      replace HFt := Aside0.mk (Kd.F_below HFt.out hb)
      have HVg : Aside0 (Kd.V k38 38 w5 0 (fun _ => True) (.slice Ag lg.length cg) lg) := ⟨V_base (Kd.V_mono hv (fun _ _ => trivial))⟩
      clear hv hb hct2 HFt HLO HLES
      rw [show ([] : List (Nat × Nat)).length = 0 from rfl]
      have xh_0 : w5.cell? ⟨w.heap.size, 0, none⟩ = some (.slice A l.length c) := (blk_cell KXh.out 0).trans rfl
      have xh_1 : w5.cell? ⟨w.heap.size, 1, none⟩ = some (.int .i64 kp) := (blk_cell KXh.out 1).trans rfl
      have lh : w.heap.size < w5.heap.size := blk_lt KXh.out
      go_wp2_with fail
      clear xh_0 xh_1 lh
      have hpre : Below w5.heap.size w5 (w5.alloc (.cells #[.slice Ag lg.length cg, .int .i64 kp] 24)) := (Below.refl w5.heap.size w5).alloc (Nat.le_refl _) _
      replace HB := Aside0.mk (HB.out.trans (hpre.mono HB.out.size))
      replace KXh := Aside0.mk (blk_below KXh.out hpre)
      replace HVl := Aside0.mk (Kd.V_below HVl.out hpre)
      replace HVg := Aside0.mk (Kd.V_below HVg.out hpre)
      have KXg : Aside0 ((w5.alloc (.cells #[.slice Ag lg.length cg, .int .i64 kp] 24)).heap[w5.heap.size]? = some (.cells #[.slice Ag lg.length cg, .int .i64 kp] 24 (0, 0))) := ⟨alloc_new w5 _⟩
      clear hpre
      obtain ⟨w6, hw_⟩ : ∃ w_, (w5.alloc (.cells #[.slice Ag lg.length cg, .int .i64 kp] 24)) = w_ := ⟨_, rfl⟩
      rw [hw_]
      rw [hw_] at HB KXh HVl HVg KXg
      clear hw_
      obtain ⟨ag, A_, c_, e1, y0, -⟩ := at_T38 (Kd.V_reads' HVg.out).2.2 (p : Int) (by omega) (by have := HLEN.out; omega)
      obtain ⟨ax, A_', c_', e2, y1, -⟩ := at_T38 (Kd.V_reads' HVl.out).2.2 (p : Int) (by omega) (by omega)
      subst e1
      subst e2
      rw [Int.toNat_natCast, HRG.out] at y0
      rw [Int.toNat_natCast, HR0.out] at y1
      have Z0 : Aside0 (w6.cell? ⟨w5.heap.size, 0, none⟩ = some (.slice (some ag) lg.length cg)) := ⟨(blk_cell KXg.out 0).trans rfl⟩
      have Z1 : Aside0 (w6.cell? ⟨w5.heap.size, 1, none⟩ = some (.int .i64 kp)) := ⟨(blk_cell KXg.out 1).trans rfl⟩
      have Z2 : Aside0 (w6.cell? ⟨w.heap.size, 0, none⟩ = some (.slice (some ax) l.length c)) := ⟨(blk_cell KXh.out 0).trans rfl⟩
      have Z3 : Aside0 (w6.cell? ⟨w.heap.size, 1, none⟩ = some (.int .i64 kp)) := ⟨(blk_cell KXh.out 1).trans rfl⟩
      have Z4 : Aside0 (w6.cell? (ag.add (p * 4)) = some (.int .i64 (r0 - 1))) := ⟨y0⟩
      have Z5 : Aside0 (w6.cell? (ax.add (p * 4)) = some (.int .i64 r0)) := ⟨y1⟩
      have p1 : (p : Int) < (l.length : Int) := by omega
      replace p1 := eq_true p1
      have p2 : (p : Int) < (lg.length : Int) := by have := HLEN.out; omega
      replace p2 := eq_true p2
      clear y0 y1
      replace Z0 : Aside0 (w6.drew.cell? ⟨w5.heap.size, 0, none⟩ = some (.slice (some ag) lg.length cg)) := ⟨Z0.out⟩
      replace Z1 : Aside0 (w6.drew.cell? ⟨w5.heap.size, 1, none⟩ = some (.int .i64 kp)) := ⟨Z1.out⟩
      replace Z2 : Aside0 (w6.drew.cell? ⟨w.heap.size, 0, none⟩ = some (.slice (some ax) l.length c)) := ⟨Z2.out⟩
      replace Z3 : Aside0 (w6.drew.cell? ⟨w.heap.size, 1, none⟩ = some (.int .i64 kp)) := ⟨Z3.out⟩
      replace Z4 : Aside0 (w6.drew.cell? (ag.add (p * 4)) = some (.int .i64 (r0 - 1))) := ⟨Z4.out⟩
      replace Z5 : Aside0 (w6.drew.cell? (ax.add (p * 4)) = some (.int .i64 r0)) := ⟨Z5.out⟩
      replace HB := Aside0.mk (below_drew HB.out)
      replace KXh := Aside0.mk (blk_drew KXh.out)
      replace HVl := Aside0.mk (Kd.V_drew HVl.out)
      replace HVg := Aside0.mk (Kd.V_drew HVg.out)
      replace KXg := Aside0.mk (blk_drew KXg.out)
      refine start_ (n := 42) (S := fun w' => w'.cell? ⟨w5.heap.size, 0, none⟩ = some (.slice (some ag) lg.length cg) ∧ w'.cell? ⟨w5.heap.size, 1, none⟩ = some (.int .i64 kp) ∧ w'.cell? ⟨w.heap.size, 0, none⟩ = some (.slice (some ax) l.length c) ∧ w'.cell? ⟨w.heap.size, 1, none⟩ = some (.int .i64 kp) ∧ w'.cell? (ag.add (p * 4)) = some (.int .i64 (r0 - 1)) ∧ w'.cell? (ax.add (p * 4)) = some (.int .i64 r0)) (ds := []) #[false, false, false, false, false, false, false, false, false, false, false, false, false, false, false, false, false, false, false, false, false, false, false, false, false, false, false, false, false, false, false, false, false, false, false, false, false, false, false, false, false, false] (by kernel_rfl) rfl rfl ⟨Z0.out, Z1.out, Z2.out, Z3.out, Z4.out, Z5.out⟩ (fun hHeld => ?_)
      refine with_tabW hShd.tab6 hShd.bits6 (fun HT_ HW_ => ?_)
      generalize w6.drew = wdr6 at Z0 Z1 Z2 Z3 Z4 Z5 HB KXh HVl HVg KXg hHeld ⊢
      refine pure_ (i := 0) (N := some 33) (v := ?_) (a' := ?_) #[true, false, false, false, false, false, false, false, false, false, false, false, false, false, false, false, false, false, false, false, false, false, false, false, false, false, false, false, false, false, false, false, false, false, false, false, false, false, false, false, false, false] rfl rfl (any_of HT_.out (by kernel_rfl)) (fun _ _ _ h => h) (Or.inl ⟨by rfl, ?_⟩) ?_ ?_
      rotate_left
      · intro w'
        go_simp
        with_reducible rfl
      rotate_left
      · simp only [Act.put, List.setIfInBounds_toArray, List.set_cons_zero, List.set_cons_succ, i64_w, i32_w]
        rfl
      refine pure_ (i := 1) (N := some 34) (v := ?_) (a' := ?_) #[true, true, false, false, false, false, false, false, false, false, false, false, false, false, false, false, false, false, false, false, false, false, false, false, false, false, false, false, false, false, false, false, false, false, false, false, false, false, false, false, false, false] rfl rfl (any_of HT_.out (by kernel_rfl)) (fun _ _ _ h => h) (Or.inl ⟨by rfl, ?_⟩) ?_ ?_
      rotate_left
      · intro w'
        go_simp
        with_reducible rfl
      rotate_left
      · simp only [Act.put, List.setIfInBounds_toArray, List.set_cons_zero, List.set_cons_succ, i64_w, i32_w]
        rfl
      refine pure_ (i := 2) (N := some 35) (v := ?_) (a' := ?_) #[true, true, true, false, false, false, false, false, false, false, false, false, false, false, false, false, false, false, false, false, false, false, false, false, false, false, false, false, false, false, false, false, false, false, false, false, false, false, false, false, false, false] rfl rfl (any_of HT_.out (by kernel_rfl)) (fun _ _ _ h => h) (Or.inl ⟨by rfl, ?_⟩) ?_ ?_
      rotate_left
      · intro w'
        go_simp
        with_reducible rfl
      rotate_left
      · simp only [Act.put, List.setIfInBounds_toArray, List.set_cons_zero, List.set_cons_succ, i64_w, i32_w]
        rfl
      refine pure_ (i := 3) (N := some 36) (v := ?_) (a' := ?_) #[true, true, true, true, false, false, false, false, false, false, false, false, false, false, false, false, false, false, false, false, false, false, false, false, false, false, false, false, false, false, false, false, false, false, false, false, false, false, false, false, false, false] rfl rfl (any_of HT_.out (by kernel_rfl)) (fun _ _ _ h => h) (Or.inl ⟨by rfl, ?_⟩) ?_ ?_
      rotate_left
      · intro w'
        go_simp
        with_reducible rfl
      rotate_left
      · simp only [Act.put, List.setIfInBounds_toArray, List.set_cons_zero, List.set_cons_succ, i64_w, i32_w]
        rfl
      refine pure_ (i := 4) (N := some 37) (v := ?_) (a' := ?_) #[true, true, true, true, true, false, false, false, false, false, false, false, false, false, false, false, false, false, false, false, false, false, false, false, false, false, false, false, false, false, false, false, false, false, false, false, false, false, false, false, false, false] rfl rfl (any_of HT_.out (by kernel_rfl)) (fun _ _ _ h => h) (Or.inl ⟨by rfl, ?_⟩) ?_ ?_
      rotate_left
      · intro w'
        go_simp
        with_reducible rfl
      rotate_left
      · simp only [Act.put, List.setIfInBounds_toArray, List.set_cons_zero, List.set_cons_succ, i64_w, i32_w]
        rfl
      refine pure_ (i := 5) (N := some 38) (v := ?_) (a' := ?_) #[true, true, true, true, true, true, false, false, false, false, false, false, false, false, false, false, false, false, false, false, false, false, false, false, false, false, false, false, false, false, false, false, false, false, false, false, false, false, false, false, false, false] rfl rfl (any_of HT_.out (by kernel_rfl)) (fun _ _ _ h => h) (Or.inl ⟨by rfl, ?_⟩) ?_ ?_
      rotate_left
      · intro w'
        go_simp
        with_reducible rfl
      rotate_left
      · simp only [Act.put, List.setIfInBounds_toArray, List.set_cons_zero, List.set_cons_succ, i64_w, i32_w]
        rfl
      refine pure_ (i := 6) (N := some 39) (v := ?_) (a' := ?_) #[true, true, true, true, true, true, true, false, false, false, false, false, false, false, false, false, false, false, false, false, false, false, false, false, false, false, false, false, false, false, false, false, false, false, false, false, false, false, false, false, false, false] rfl rfl (any_of HT_.out (by kernel_rfl)) (fun _ _ _ h => h) (Or.inl ⟨by rfl, ?_⟩) ?_ ?_
      rotate_left
      · intro w'
        go_simp
        with_reducible rfl
      rotate_left
      · simp only [Act.put, List.setIfInBounds_toArray, List.set_cons_zero, List.set_cons_succ, i64_w, i32_w]
        rfl
      refine pure_ (i := 7) (N := some 40) (v := ?_) (a' := ?_) #[true, true, true, true, true, true, true, true, false, false, false, false, false, false, false, false, false, false, false, false, false, false, false, false, false, false, false, false, false, false, false, false, false, false, false, false, false, false, false, false, false, false] rfl rfl (any_of HT_.out (by kernel_rfl)) (fun _ _ _ h => h) (Or.inl ⟨by rfl, ?_⟩) ?_ ?_
      rotate_left
      · intro w'
        go_simp
        with_reducible rfl
      rotate_left
      · simp only [Act.put, List.setIfInBounds_toArray, List.set_cons_zero, List.set_cons_succ, i64_w, i32_w]
        rfl
      refine pure_ (i := 8) (N := some 41) (v := ?_) (a' := ?_) #[true, true, true, true, true, true, true, true, true, false, false, false, false, false, false, false, false, false, false, false, false, false, false, false, false, false, false, false, false, false, false, false, false, false, false, false, false, false, false, false, false, false] rfl rfl (any_of HT_.out (by kernel_rfl)) (fun _ _ _ h => h) (Or.inl ⟨by rfl, ?_⟩) ?_ ?_
      rotate_left
      · intro w'
        go_simp
        with_reducible rfl
      rotate_left
      · simp only [Act.put, List.setIfInBounds_toArray, List.set_cons_zero, List.set_cons_succ, i64_w, i32_w]
        rfl
      refine pure_ (i := 9) (N := some 42) (v := ?_) (a' := ?_) #[true, true, true, true, true, true, true, true, true, true, false, false, false, false, false, false, false, false, false, false, false, false, false, false, false, false, false, false, false, false, false, false, false, false, false, false, false, false, false, false, false, false] rfl rfl (any_of HT_.out (by kernel_rfl)) (fun _ _ _ h => h) (Or.inl ⟨by rfl, ?_⟩) ?_ ?_
      rotate_left
      · intro w'
        go_simp
        with_reducible rfl
      rotate_left
      · simp only [Act.put, List.setIfInBounds_toArray, List.set_cons_zero, List.set_cons_succ, i64_w, i32_w]
        rfl
      refine pure_ (i := 10) (N := some 43) (v := ?_) (a' := ?_) #[true, true, true, true, true, true, true, true, true, true, true, false, false, false, false, false, false, false, false, false, false, false, false, false, false, false, false, false, false, false, false, false, false, false, false, false, false, false, false, false, false, false] rfl rfl (any_of HT_.out (by kernel_rfl)) (fun _ _ _ h => h) (Or.inl ⟨by rfl, ?_⟩) ?_ ?_
      rotate_left
      · intro w'
        go_simp
        with_reducible rfl
      rotate_left
      · simp only [Act.put, List.setIfInBounds_toArray, List.set_cons_zero, List.set_cons_succ, i64_w, i32_w]
        rfl
      refine take_ (i := 11) (N := some 44) (v := ?_) (a' := ?_) #[true, true, true, true, true, true, true, true, true, true, true, true, false, false, false, false, false, false, false, false, false, false, false, false, false, false, false, false, false, false, false, false, false, false, false, false, false, false, false, false, false, false] rfl rfl (take_ofW HT_.out HW_.out (by kernel_rfl)) (fun _ _ _ h => h) (Or.inl ⟨by rfl, ?_⟩) hHeld ?_ ?_
      rotate_left
      · rintro w' ⟨s0, s1, s2, s3, s4, s5⟩
        go_simp
        with_reducible rfl
      rotate_left
      · simp only [Act.put, List.setIfInBounds_toArray, List.set_cons_zero, List.set_cons_succ, i64_w, i32_w]
        rfl
      refine pure_ (i := 12) (N := some 45) (v := ?_) (a' := ?_) #[true, true, true, true, true, true, true, true, true, true, true, true, true, false, false, false, false, false, false, false, false, false, false, false, false, false, false, false, false, false, false, false, false, false, false, false, false, false, false, false, false, false] rfl rfl (any_of HT_.out (by kernel_rfl)) (fun _ _ _ h => h) (Or.inl ⟨by rfl, ?_⟩) ?_ ?_
      rotate_left
      · intro w'
        go_simp
        with_reducible rfl
      rotate_left
      · simp only [Act.put, List.setIfInBounds_toArray, List.set_cons_zero, List.set_cons_succ, i64_w, i32_w]
        rfl
      refine one_ (i := 13) (N := some 46) #[true, true, true, true, true, true, true, true, true, true, true, true, true, true, false, false, false, false, false, false, false, false, false, false, false, false, false, false, false, false, false, false, false, false, false, false, false, false, false, false, false, false] rfl rfl (one_of HT_.out (by kernel_rfl)) (by decide) (fun K hK => ?_)
      refine Kd.R_lit_step (Kd.int .i64) (w0 := wdr6) wdr6.heap.size 3 (by rfl) (N := 46) rfl (xs := [(p : Int)]) (inner := [.int .i64 (p : Int)]) (ok := fun _ => True) (okp := fun _ => False) ?hr ?hp (fun _ h => h.elim) trivial (Below.refl _ _) (Nat.le_refl _) (by simp) ?_
      case hr => first | (go_simp; done) | (go_simp; rfl)
      case hp => exact (Reps.none _ _).snoc (p := (p : Int)) (c := [.int .i64 (p : Int)]) rfl rfl
      intro v1 wcr13 ho hb hg_ hn_
      obtain ⟨A1, c1, ev1, hc1, hC1⟩ := Kd.R_reads ho
      subst ev1
      have HC1 := Aside0.mk hC1
      have HD1 := Aside0.mk hc1
      clear ho hg_ hn_ hC1 hc1
      replace Z0 : Aside0 (wcr13.cell? ⟨w5.heap.size, 0, none⟩ = some (.slice (some ag) lg.length cg)) := ⟨(hb.cell (World.block_lt_of_cell? wdr6 _ Z0.out)).trans Z0.out⟩
      replace Z1 : Aside0 (wcr13.cell? ⟨w5.heap.size, 1, none⟩ = some (.int .i64 kp)) := ⟨(hb.cell (World.block_lt_of_cell? wdr6 _ Z1.out)).trans Z1.out⟩
      replace Z2 : Aside0 (wcr13.cell? ⟨w.heap.size, 0, none⟩ = some (.slice (some ax) l.length c)) := ⟨(hb.cell (World.block_lt_of_cell? wdr6 _ Z2.out)).trans Z2.out⟩
      replace Z3 : Aside0 (wcr13.cell? ⟨w.heap.size, 1, none⟩ = some (.int .i64 kp)) := ⟨(hb.cell (World.block_lt_of_cell? wdr6 _ Z3.out)).trans Z3.out⟩
      replace Z4 : Aside0 (wcr13.cell? (ag.add (p * 4)) = some (.int .i64 (r0 - 1))) := ⟨(hb.cell (World.block_lt_of_cell? wdr6 _ Z4.out)).trans Z4.out⟩
      replace Z5 : Aside0 (wcr13.cell? (ax.add (p * 4)) = some (.int .i64 r0)) := ⟨(hb.cell (World.block_lt_of_cell? wdr6 _ Z5.out)).trans Z5.out⟩
      replace HB := Aside0.mk (HB.out.trans (hb.mono HB.out.size))
      replace KXh := Aside0.mk (blk_below KXh.out hb)
      replace HVl := Aside0.mk (Kd.V_below HVl.out hb)
      replace HVg := Aside0.mk (Kd.V_below HVg.out hb)
      replace KXg := Aside0.mk (blk_below KXg.out hb)
      clear hb hHeld
      refine hK.out _ _ ⟨Z0.out, Z1.out, Z2.out, Z3.out, Z4.out, Z5.out⟩ (fun hHeld => ?_)
      clear hK K
      refine norm_ (a' := ?_) ?_ ?_
      rotate_left
      · show Act.put _ (some 46) _ = _
        simp only [Act.put, List.setIfInBounds_toArray, List.set_cons_zero, List.set_cons_succ, i64_w, i32_w]
        rfl
      refine one_ (i := 14) (N := some 47) #[true, true, true, true, true, true, true, true, true, true, true, true, true, true, true, false, false, false, false, false, false, false, false, false, false, false, false, false, false, false, false, false, false, false, false, false, false, false, false, false, false, false] rfl rfl (one_of HT_.out (by kernel_rfl)) (by decide) (fun K hK => ?_)
      refine goes_ Try.func6 (by kernel_rfl) rfl #[.agg #[.slice (some ag) lg.length cg, .int .i64 kp], .slice A1 [(p : Int)].length c1, .slice none 0 0, .int .i64 40] (by rfl) rfl rfl (by (try simp only [List.map_toArray, List.map_cons, List.map_nil]); first | done | rfl | (simp only [List.length_drop, List.length_take]; rfl)) ?_
      with_reducible refine (fine_at (some ag) cg lg kp A1 c1 [(p : Int)] true _ (Kd.V_reads' HVg.out).2.2 (Kd.V_reads' HVg.out).2.1 HC1.out HD1.out HFG.out).mono ?_
      rintro e wcr14 ⟨rfl, hb⟩
      refine ⟨_, rfl, ?_⟩
      replace Z0 : Aside0 (wcr14.cell? ⟨w5.heap.size, 0, none⟩ = some (.slice (some ag) lg.length cg)) := ⟨(hb.cell (World.block_lt_of_cell? wcr13 _ Z0.out)).trans Z0.out⟩
      replace Z1 : Aside0 (wcr14.cell? ⟨w5.heap.size, 1, none⟩ = some (.int .i64 kp)) := ⟨(hb.cell (World.block_lt_of_cell? wcr13 _ Z1.out)).trans Z1.out⟩
      replace Z2 : Aside0 (wcr14.cell? ⟨w.heap.size, 0, none⟩ = some (.slice (some ax) l.length c)) := ⟨(hb.cell (World.block_lt_of_cell? wcr13 _ Z2.out)).trans Z2.out⟩
      replace Z3 : Aside0 (wcr14.cell? ⟨w.heap.size, 1, none⟩ = some (.int .i64 kp)) := ⟨(hb.cell (World.block_lt_of_cell? wcr13 _ Z3.out)).trans Z3.out⟩
      replace Z4 : Aside0 (wcr14.cell? (ag.add (p * 4)) = some (.int .i64 (r0 - 1))) := ⟨(hb.cell (World.block_lt_of_cell? wcr13 _ Z4.out)).trans Z4.out⟩
      replace Z5 : Aside0 (wcr14.cell? (ax.add (p * 4)) = some (.int .i64 r0)) := ⟨(hb.cell (World.block_lt_of_cell? wcr13 _ Z5.out)).trans Z5.out⟩
      replace HB := Aside0.mk (HB.out.trans (hb.mono HB.out.size))
      replace KXh := Aside0.mk (blk_below KXh.out hb)
      replace HVl := Aside0.mk (Kd.V_below HVl.out hb)
      replace HVg := Aside0.mk (Kd.V_below HVg.out hb)
      replace KXg := Aside0.mk (blk_below KXg.out hb)
      clear hb hHeld
      refine hK.out _ _ ⟨Z0.out, Z1.out, Z2.out, Z3.out, Z4.out, Z5.out⟩ (fun hHeld => ?_)
      clear hK K
      refine norm_ (a' := ?_) ?_ ?_
      rotate_left
      · show Act.put _ (some 47) _ = _
        simp only [Act.put, List.setIfInBounds_toArray, List.set_cons_zero, List.set_cons_succ, i64_w, i32_w]
        rfl
      refine pure_ (i := 15) (N := some 48) (v := ?_) (a' := ?_) #[true, true, true, true, true, true, true, true, true, true, true, true, true, true, true, true, false, false, false, false, false, false, false, false, false, false, false, false, false, false, false, false, false, false, false, false, false, false, false, false, false, false] rfl rfl (any_of HT_.out (by kernel_rfl)) (fun _ _ _ h => h) (Or.inl ⟨by rfl, ?_⟩) ?_ ?_
      rotate_left
      · intro w'
        go_simp
        with_reducible rfl
      rotate_left
      · simp only [Act.put, List.setIfInBounds_toArray, List.set_cons_zero, List.set_cons_succ, i64_w, i32_w]
        rfl
      refine pure_ (i := 16) (N := some 49) (v := ?_) (a' := ?_) #[true, true, true, true, true, true, true, true, true, true, true, true, true, true, true, true, true, false, false, false, false, false, false, false, false, false, false, false, false, false, false, false, false, false, false, false, false, false, false, false, false, false] rfl rfl (any_of HT_.out (by kernel_rfl)) (fun _ _ _ h => h) (Or.inl ⟨by rfl, ?_⟩) ?_ ?_
      rotate_left
      · intro w'
        go_simp
        with_reducible rfl
      rotate_left
      · simp only [Act.put, List.setIfInBounds_toArray, List.set_cons_zero, List.set_cons_succ, i64_w, i32_w]
        rfl
      refine take_ (i := 17) (N := some 50) (v := ?_) (a' := ?_) #[true, true, true, true, true, true, true, true, true, true, true, true, true, true, true, true, true, true, false, false, false, false, false, false, false, false, false, false, false, false, false, false, false, false, false, false, false, false, false, false, false, false] rfl rfl (take_ofW HT_.out HW_.out (by kernel_rfl)) (fun _ _ _ h => h) (Or.inl ⟨by rfl, ?_⟩) hHeld ?_ ?_
      rotate_left
      · rintro w' ⟨s0, s1, s2, s3, s4, s5⟩
        go_simp
        with_reducible rfl
      rotate_left
      · simp only [Act.put, List.setIfInBounds_toArray, List.set_cons_zero, List.set_cons_succ, i64_w, i32_w]
        rfl
      refine pure_ (i := 18) (N := some 51) (v := ?_) (a' := ?_) #[true, true, true, true, true, true, true, true, true, true, true, true, true, true, true, true, true, true, true, false, false, false, false, false, false, false, false, false, false, false, false, false, false, false, false, false, false, false, false, false, false, false] rfl rfl (any_of HT_.out (by kernel_rfl)) (fun _ _ _ h => h) (Or.inl ⟨by rfl, ?_⟩) ?_ ?_
      rotate_left
      · intro w'
        go_simp
        with_reducible rfl
      rotate_left
      · simp only [Act.put, List.setIfInBounds_toArray, List.set_cons_zero, List.set_cons_succ, i64_w, i32_w]
        rfl
      refine take_ (i := 20) (N := some 53) (v := ?_) (a' := ?_) #[true, true, true, true, true, true, true, true, true, true, true, true, true, true, true, true, true, true, true, false, true, false, false, false, false, false, false, false, false, false, false, false, false, false, false, false, false, false, false, false, false, false] rfl rfl (take_ofW HT_.out HW_.out (by kernel_rfl)) (fun _ _ _ h => h) (Or.inl ⟨by rfl, ?_⟩) hHeld ?_ ?_
      rotate_left
      · rintro w' ⟨s0, s1, s2, s3, s4, s5⟩
        go_simp
        with_reducible rfl
      rotate_left
      · simp only [Act.put, List.setIfInBounds_toArray, List.set_cons_zero, List.set_cons_succ, i64_w, i32_w]
        rfl
      refine pure_ (i := 21) (N := some 54) (v := ?_) (a' := ?_) #[true, true, true, true, true, true, true, true, true, true, true, true, true, true, true, true, true, true, true, false, true, true, false, false, false, false, false, false, false, false, false, false, false, false, false, false, false, false, false, false, false, false] rfl rfl (any_of HT_.out (by kernel_rfl)) (fun _ _ _ h => h) (Or.inl ⟨by rfl, ?_⟩) ?_ ?_
      rotate_left
      · intro w'
        go_simp
        with_reducible rfl
      rotate_left
      · simp only [Act.put, List.setIfInBounds_toArray, List.set_cons_zero, List.set_cons_succ, i64_w, i32_w]
        rfl
      refine one_ (i := 19) (N := some 52) #[true, true, true, true, true, true, true, true, true, true, true, true, true, true, true, true, true, true, true, true, true, true, false, false, false, false, false, false, false, false, false, false, false, false, false, false, false, false, false, false, false, false] rfl rfl (one_of HT_.out (by kernel_rfl)) (by decide) (fun K hK => ?_)
      refine goes_ Try.func12 (by kernel_rfl) rfl #[.agg #[.slice (some ag) lg.length cg, .int .i64 kp], .int .i64 (p : Int)] (by rfl) rfl rfl (by (try simp only [List.map_toArray, List.map_cons, List.map_nil]); first | done | rfl | (simp only [List.length_drop, List.length_take]; rfl)) ?_
      with_reducible refine (assartref07_List.calls 400000 (fun _ => True) (some ag) cg lg kp (p : Int) L _ (V_base (Kd.V_mono HVg.out (fun _ _ => trivial))) HL2.out).mono ?_
      rintro e wcr19 ⟨v_, rfl, hv, hb⟩
      obtain ⟨As, cs, ev⟩ := Kd.V_slice hv
      subst ev
      have HVs : Aside0 (Kd.V k46 46 wcr19 0 (fun _ => True) (.slice As L.length cs) L) := ⟨V_base (Kd.V_mono hv (fun _ _ => trivial))⟩
      clear hv
      refine ⟨_, rfl, ?_⟩
      replace Z0 : Aside0 (wcr19.cell? ⟨w5.heap.size, 0, none⟩ = some (.slice (some ag) lg.length cg)) := ⟨(hb.cell (World.block_lt_of_cell? wcr14 _ Z0.out)).trans Z0.out⟩
      replace Z1 : Aside0 (wcr19.cell? ⟨w5.heap.size, 1, none⟩ = some (.int .i64 kp)) := ⟨(hb.cell (World.block_lt_of_cell? wcr14 _ Z1.out)).trans Z1.out⟩
      replace Z2 : Aside0 (wcr19.cell? ⟨w.heap.size, 0, none⟩ = some (.slice (some ax) l.length c)) := ⟨(hb.cell (World.block_lt_of_cell? wcr14 _ Z2.out)).trans Z2.out⟩
      replace Z3 : Aside0 (wcr19.cell? ⟨w.heap.size, 1, none⟩ = some (.int .i64 kp)) := ⟨(hb.cell (World.block_lt_of_cell? wcr14 _ Z3.out)).trans Z3.out⟩
      replace Z4 : Aside0 (wcr19.cell? (ag.add (p * 4)) = some (.int .i64 (r0 - 1))) := ⟨(hb.cell (World.block_lt_of_cell? wcr14 _ Z4.out)).trans Z4.out⟩
      replace Z5 : Aside0 (wcr19.cell? (ax.add (p * 4)) = some (.int .i64 r0)) := ⟨(hb.cell (World.block_lt_of_cell? wcr14 _ Z5.out)).trans Z5.out⟩
      replace HB := Aside0.mk (HB.out.trans (hb.mono HB.out.size))
      replace KXh := Aside0.mk (blk_below KXh.out hb)
      replace HVl := Aside0.mk (Kd.V_below HVl.out hb)
      replace HVg := Aside0.mk (Kd.V_below HVg.out hb)
      replace KXg := Aside0.mk (blk_below KXg.out hb)
      clear hb hHeld
      refine hK.out _ _ ⟨Z0.out, Z1.out, Z2.out, Z3.out, Z4.out, Z5.out⟩ (fun hHeld => ?_)
      clear hK K
      refine norm_ (a' := ?_) ?_ ?_
      rotate_left
      · show Act.put _ (some 52) _ = _
        simp only [Act.put, List.setIfInBounds_toArray, List.set_cons_zero, List.set_cons_succ, i64_w, i32_w]
        rfl
      refine one_ (i := 22) (N := some 55) #[true, true, true, true, true, true, true, true, true, true, true, true, true, true, true, true, true, true, true, true, true, true, true, false, false, false, false, false, false, false, false, false, false, false, false, false, false, false, false, false, false, false] rfl rfl (one_of HT_.out (by kernel_rfl)) (by decide) (fun K hK => ?_)
      refine goes_ Try.func12 (by kernel_rfl) rfl #[.agg #[.slice (some ax) l.length c, .int .i64 kp], .int .i64 (p : Int)] (by rfl) rfl rfl (by (try simp only [List.map_toArray, List.map_cons, List.map_nil]); first | done | rfl | (simp only [List.length_drop, List.length_take]; rfl)) ?_
      with_reducible refine (assartref07_List.calls 400000 (fun _ => True) (some ax) c l kp (p : Int) L _ (V_base (Kd.V_mono HVl.out (fun _ _ => trivial))) HL1.out).mono ?_
      rintro e wcr22 ⟨v_, rfl, hv, hb⟩
      obtain ⟨At, ct, ev⟩ := Kd.V_slice hv
      subst ev
      have HVt : Aside0 (Kd.V k46 46 wcr22 0 (fun _ => True) (.slice At L.length ct) L) := ⟨V_base (Kd.V_mono hv (fun _ _ => trivial))⟩
      clear hv
      replace HVs := Aside0.mk (Kd.V_below HVs.out hb)
      refine ⟨_, rfl, ?_⟩
      replace Z0 : Aside0 (wcr22.cell? ⟨w5.heap.size, 0, none⟩ = some (.slice (some ag) lg.length cg)) := ⟨(hb.cell (World.block_lt_of_cell? wcr19 _ Z0.out)).trans Z0.out⟩
      replace Z1 : Aside0 (wcr22.cell? ⟨w5.heap.size, 1, none⟩ = some (.int .i64 kp)) := ⟨(hb.cell (World.block_lt_of_cell? wcr19 _ Z1.out)).trans Z1.out⟩
      replace Z2 : Aside0 (wcr22.cell? ⟨w.heap.size, 0, none⟩ = some (.slice (some ax) l.length c)) := ⟨(hb.cell (World.block_lt_of_cell? wcr19 _ Z2.out)).trans Z2.out⟩
      replace Z3 : Aside0 (wcr22.cell? ⟨w.heap.size, 1, none⟩ = some (.int .i64 kp)) := ⟨(hb.cell (World.block_lt_of_cell? wcr19 _ Z3.out)).trans Z3.out⟩
      replace Z4 : Aside0 (wcr22.cell? (ag.add (p * 4)) = some (.int .i64 (r0 - 1))) := ⟨(hb.cell (World.block_lt_of_cell? wcr19 _ Z4.out)).trans Z4.out⟩
      replace Z5 : Aside0 (wcr22.cell? (ax.add (p * 4)) = some (.int .i64 r0)) := ⟨(hb.cell (World.block_lt_of_cell? wcr19 _ Z5.out)).trans Z5.out⟩
      replace HB := Aside0.mk (HB.out.trans (hb.mono HB.out.size))
      replace KXh := Aside0.mk (blk_below KXh.out hb)
      replace HVl := Aside0.mk (Kd.V_below HVl.out hb)
      replace HVg := Aside0.mk (Kd.V_below HVg.out hb)
      replace KXg := Aside0.mk (blk_below KXg.out hb)
      clear hb hHeld
      refine hK.out _ _ ⟨Z0.out, Z1.out, Z2.out, Z3.out, Z4.out, Z5.out⟩ (fun hHeld => ?_)
      clear hK K
      refine norm_ (a' := ?_) ?_ ?_
      rotate_left
      · show Act.put _ (some 55) _ = _
        simp only [Act.put, List.setIfInBounds_toArray, List.set_cons_zero, List.set_cons_succ, i64_w, i32_w]
        rfl
      refine one_ (i := 23) (N := some 56) #[true, true, true, true, true, true, true, true, true, true, true, true, true, true, true, true, true, true, true, true, true, true, true, true, false, false, false, false, false, false, false, false, false, false, false, false, false, false, false, false, false, false] rfl rfl (one_of HT_.out (by kernel_rfl)) (by decide) (fun K hK => ?_)
      refine goes_ Try.func11 (by kernel_rfl) rfl #[.slice As L.length cs, .slice At L.length ct] (by rfl) rfl rfl (by (try simp only [List.map_toArray, List.map_cons, List.map_nil]); first | done | rfl | (simp only [List.length_drop, List.length_take]; rfl)) ?_
      with_reducible refine (assartref04_Items.calls 400000 As cs L At ct L true _ (Kd.V_reads' HVs.out).2.2 (Kd.V_reads' HVs.out).2.1 (Kd.V_reads' HVt.out).2.2 (Kd.V_reads' HVt.out).2.1 HIT.out).mono ?_
      rintro e wcr23 ⟨rfl, hd⟩
      have hb := hd.below
      clear hd
      refine ⟨_, rfl, ?_⟩
      replace Z0 : Aside0 (wcr23.cell? ⟨w5.heap.size, 0, none⟩ = some (.slice (some ag) lg.length cg)) := ⟨(hb.cell (World.block_lt_of_cell? wcr22 _ Z0.out)).trans Z0.out⟩
      replace Z1 : Aside0 (wcr23.cell? ⟨w5.heap.size, 1, none⟩ = some (.int .i64 kp)) := ⟨(hb.cell (World.block_lt_of_cell? wcr22 _ Z1.out)).trans Z1.out⟩
      replace Z2 : Aside0 (wcr23.cell? ⟨w.heap.size, 0, none⟩ = some (.slice (some ax) l.length c)) := ⟨(hb.cell (World.block_lt_of_cell? wcr22 _ Z2.out)).trans Z2.out⟩
      replace Z3 : Aside0 (wcr23.cell? ⟨w.heap.size, 1, none⟩ = some (.int .i64 kp)) := ⟨(hb.cell (World.block_lt_of_cell? wcr22 _ Z3.out)).trans Z3.out⟩
      replace Z4 : Aside0 (wcr23.cell? (ag.add (p * 4)) = some (.int .i64 (r0 - 1))) := ⟨(hb.cell (World.block_lt_of_cell? wcr22 _ Z4.out)).trans Z4.out⟩
      replace Z5 : Aside0 (wcr23.cell? (ax.add (p * 4)) = some (.int .i64 r0)) := ⟨(hb.cell (World.block_lt_of_cell? wcr22 _ Z5.out)).trans Z5.out⟩
      replace HB := Aside0.mk (HB.out.trans (hb.mono HB.out.size))
      replace KXh := Aside0.mk (blk_below KXh.out hb)
      replace HVl := Aside0.mk (Kd.V_below HVl.out hb)
      replace HVg := Aside0.mk (Kd.V_below HVg.out hb)
      replace KXg := Aside0.mk (blk_below KXg.out hb)
      clear hb hHeld
      refine hK.out _ _ ⟨Z0.out, Z1.out, Z2.out, Z3.out, Z4.out, Z5.out⟩ (fun hHeld => ?_)
      clear hK K
      refine norm_ (a' := ?_) ?_ ?_
      rotate_left
      · show Act.put _ (some 56) _ = _
        simp only [Act.put, List.setIfInBounds_toArray, List.set_cons_zero, List.set_cons_succ, i64_w, i32_w]
        rfl
      refine pure_ (i := 24) (N := some 57) (v := ?_) (a' := ?_) #[true, true, true, true, true, true, true, true, true, true, true, true, true, true, true, true, true, true, true, true, true, true, true, true, true, false, false, false, false, false, false, false, false, false, false, false, false, false, false, false, false, false] rfl rfl (any_of HT_.out (by kernel_rfl)) (fun _ _ _ h => h) (Or.inl ⟨by rfl, ?_⟩) ?_ ?_
      rotate_left
      · intro w'
        go_simp
        with_reducible rfl
      rotate_left
      · simp only [Act.put, List.setIfInBounds_toArray, List.set_cons_zero, List.set_cons_succ, i64_w, i32_w]
        rfl
      refine pure_ (i := 25) (N := some 58) (v := ?_) (a' := ?_) #[true, true, true, true, true, true, true, true, true, true, true, true, true, true, true, true, true, true, true, true, true, true, true, true, true, true, false, false, false, false, false, false, false, false, false, false, false, false, false, false, false, false] rfl rfl (any_of HT_.out (by kernel_rfl)) (fun _ _ _ h => h) (Or.inl ⟨by rfl, ?_⟩) ?_ ?_
      rotate_left
      · intro w'
        go_simp
        with_reducible rfl
      rotate_left
      · simp only [Act.put, List.setIfInBounds_toArray, List.set_cons_zero, List.set_cons_succ, i64_w, i32_w]
        rfl
      refine pure_ (i := 26) (N := some 59) (v := ?_) (a' := ?_) #[true, true, true, true, true, true, true, true, true, true, true, true, true, true, true, true, true, true, true, true, true, true, true, true, true, true, true, false, false, false, false, false, false, false, false, false, false, false, false, false, false, false] rfl rfl (any_of HT_.out (by kernel_rfl)) (fun _ _ _ h => h) (Or.inl ⟨by rfl, ?_⟩) ?_ ?_
      rotate_left
      · intro w'
        go_simp
        with_reducible rfl
      rotate_left
      · simp only [Act.put, List.setIfInBounds_toArray, List.set_cons_zero, List.set_cons_succ, i64_w, i32_w]
        rfl
      refine take_ (i := 27) (N := some 60) (v := ?_) (a' := ?_) #[true, true, true, true, true, true, true, true, true, true, true, true, true, true, true, true, true, true, true, true, true, true, true, true, true, true, true, true, false, false, false, false, false, false, false, false, false, false, false, false, false, false] rfl rfl (take_ofW HT_.out HW_.out (by kernel_rfl)) (fun _ _ _ h => h) (Or.inl ⟨by rfl, ?_⟩) hHeld ?_ ?_
      rotate_left
      · rintro w' ⟨s0, s1, s2, s3, s4, s5⟩
        go_simp
        with_reducible rfl
      rotate_left
      · simp only [Act.put, List.setIfInBounds_toArray, List.set_cons_zero, List.set_cons_succ, i64_w, i32_w]
        rfl
      refine pure_ (i := 28) (N := some 61) (v := ?_) (a' := ?_) #[true, true, true, true, true, true, true, true, true, true, true, true, true, true, true, true, true, true, true, true, true, true, true, true, true, true, true, true, true, false, false, false, false, false, false, false, false, false, false, false, false, false] rfl rfl (any_of HT_.out (by kernel_rfl)) (fun _ _ _ h => h) (Or.inl ⟨by rfl, ?_⟩) ?_ ?_
      rotate_left
      · intro w'
        go_simp
        with_reducible rfl
      rotate_left
      · simp only [Act.put, List.setIfInBounds_toArray, List.set_cons_zero, List.set_cons_succ, i64_w, i32_w]
        rfl
      refine pure_ (i := 29) (N := some 62) (v := ?_) (a' := ?_) #[true, true, true, true, true, true, true, true, true, true, true, true, true, true, true, true, true, true, true, true, true, true, true, true, true, true, true, true, true, true, false, false, false, false, false, false, false, false, false, false, false, false] rfl rfl (any_of HT_.out (by kernel_rfl)) (fun _ _ _ h => h) (Or.inl ⟨by rfl, ?_⟩) ?_ ?_
      rotate_left
      · intro w'
        go_simp
        with_reducible rfl
      rotate_left
      · simp only [Act.put, List.setIfInBounds_toArray, List.set_cons_zero, List.set_cons_succ, i64_w, i32_w]
        rfl
      refine pure_ (i := 30) (N := some 63) (v := ?_) (a' := ?_) #[true, true, true, true, true, true, true, true, true, true, true, true, true, true, true, true, true, true, true, true, true, true, true, true, true, true, true, true, true, true, true, false, false, false, false, false, false, false, false, false, false, false] rfl rfl (any_of HT_.out (by kernel_rfl)) (fun _ _ _ h => h) (Or.inl ⟨by rfl, ?_⟩) ?_ ?_
      rotate_left
      · intro w'
        go_simp
        with_reducible rfl
      rotate_left
      · simp only [Act.put, List.setIfInBounds_toArray, List.set_cons_zero, List.set_cons_succ, i64_w, i32_w]
        rfl
      refine take_ (i := 31) (N := some 64) (v := ?_) (a' := ?_) #[true, true, true, true, true, true, true, true, true, true, true, true, true, true, true, true, true, true, true, true, true, true, true, true, true, true, true, true, true, true, true, true, false, false, false, false, false, false, false, false, false, false] rfl rfl (take_ofW HT_.out HW_.out (by kernel_rfl)) (fun _ _ _ h => h) (Or.inl ⟨by rfl, ?_⟩) hHeld ?_ ?_
      rotate_left
      · rintro w' ⟨s0, s1, s2, s3, s4, s5⟩
        go_simp
        with_reducible rfl
      rotate_left
      · simp only [Act.put, List.setIfInBounds_toArray, List.set_cons_zero, List.set_cons_succ, i64_w, i32_w]
        rfl
      refine pure_ (i := 32) (N := some 65) (v := ?_) (a' := ?_) #[true, true, true, true, true, true, true, true, true, true, true, true, true, true, true, true, true, true, true, true, true, true, true, true, true, true, true, true, true, true, true, true, true, false, false, false, false, false, false, false, false, false] rfl rfl (any_of HT_.out (by kernel_rfl)) (fun _ _ _ h => h) (Or.inl ⟨by rfl, ?_⟩) ?_ ?_
      rotate_left
      · intro w'
        go_simp
        with_reducible rfl
      rotate_left
      · simp only [Act.put, List.setIfInBounds_toArray, List.set_cons_zero, List.set_cons_succ, i64_w, i32_w]
        rfl
      refine take_ (i := 33) (N := some 66) (v := ?_) (a' := ?_) #[true, true, true, true, true, true, true, true, true, true, true, true, true, true, true, true, true, true, true, true, true, true, true, true, true, true, true, true, true, true, true, true, true, true, false, false, false, false, false, false, false, false] rfl rfl (take_ofW HT_.out HW_.out (by kernel_rfl)) (fun _ _ _ h => h) (Or.inl ⟨by rfl, ?_⟩) hHeld ?_ ?_
      rotate_left
      · rintro w' ⟨s0, s1, s2, s3, s4, s5⟩
        go_simp
        with_reducible rfl
      rotate_left
      · simp only [Act.put, List.setIfInBounds_toArray, List.set_cons_zero, List.set_cons_succ, i64_w, i32_w]
        rfl
      refine pure_ (i := 34) (N := some 67) (v := ?_) (a' := ?_) #[true, true, true, true, true, true, true, true, true, true, true, true, true, true, true, true, true, true, true, true, true, true, true, true, true, true, true, true, true, true, true, true, true, true, true, false, false, false, false, false, false, false] rfl rfl (any_of HT_.out (by kernel_rfl)) (fun _ _ _ h => h) (Or.inl ⟨by rfl, ?_⟩) ?_ ?_
      rotate_left
      · intro w'
        go_simp
        with_reducible rfl
      rotate_left
      · simp only [Act.put, List.setIfInBounds_toArray, List.set_cons_zero, List.set_cons_succ, i64_w, i32_w]
        rfl
      refine pure_ (i := 35) (N := some 68) (v := ?_) (a' := ?_) #[true, true, true, true, true, true, true, true, true, true, true, true, true, true, true, true, true, true, true, true, true, true, true, true, true, true, true, true, true, true, true, true, true, true, true, true, false, false, false, false, false, false] rfl rfl (any_of HT_.out (by kernel_rfl)) (fun _ _ _ h => h) (Or.inl ⟨by rfl, ?_⟩) ?_ ?_
      rotate_left
      · intro w'
        go_simp
        with_reducible rfl
      rotate_left
      · simp only [Act.put, List.setIfInBounds_toArray, List.set_cons_zero, List.set_cons_succ, i64_w, i32_w]
        rfl
      refine pure_ (i := 36) (N := some 69) (v := ?_) (a' := ?_) #[true, true, true, true, true, true, true, true, true, true, true, true, true, true, true, true, true, true, true, true, true, true, true, true, true, true, true, true, true, true, true, true, true, true, true, true, true, false, false, false, false, false] rfl rfl (any_of HT_.out (by kernel_rfl)) (fun _ _ _ h => h) (Or.inl ⟨by rfl, ?_⟩) ?_ ?_
      rotate_left
      · intro w'
        go_simp
        with_reducible rfl
      rotate_left
      · simp only [Act.put, List.setIfInBounds_toArray, List.set_cons_zero, List.set_cons_succ, i64_w, i32_w]
        rfl
      refine take_ (i := 37) (N := some 70) (v := ?_) (a' := ?_) #[true, true, true, true, true, true, true, true, true, true, true, true, true, true, true, true, true, true, true, true, true, true, true, true, true, true, true, true, true, true, true, true, true, true, true, true, true, true, false, false, false, false] rfl rfl (take_ofW HT_.out HW_.out (by kernel_rfl)) (fun _ _ _ h => h) (Or.inl ⟨by rfl, ?_⟩) hHeld ?_ ?_
      rotate_left
      · rintro w' ⟨s0, s1, s2, s3, s4, s5⟩
        go_simp
        with_reducible rfl
      rotate_left
      · simp only [Act.put, List.setIfInBounds_toArray, List.set_cons_zero, List.set_cons_succ, i64_w, i32_w]
        rfl
      refine pure_ (i := 38) (N := some 71) (v := ?_) (a' := ?_) #[true, true, true, true, true, true, true, true, true, true, true, true, true, true, true, true, true, true, true, true, true, true, true, true, true, true, true, true, true, true, true, true, true, true, true, true, true, true, true, false, false, false] rfl rfl (any_of HT_.out (by kernel_rfl)) (fun _ _ _ h => h) (Or.inl ⟨by rfl, ?_⟩) ?_ ?_
      rotate_left
      · intro w'
        go_simp
        with_reducible rfl
      rotate_left
      · simp only [Act.put, List.setIfInBounds_toArray, List.set_cons_zero, List.set_cons_succ, i64_w, i32_w]
        rfl
      refine pure_ (i := 39) (N := some 72) (v := ?_) (a' := ?_) #[true, true, true, true, true, true, true, true, true, true, true, true, true, true, true, true, true, true, true, true, true, true, true, true, true, true, true, true, true, true, true, true, true, true, true, true, true, true, true, true, false, false] rfl rfl (any_of HT_.out (by kernel_rfl)) (fun _ _ _ h => h) (Or.inl ⟨by rfl, ?_⟩) ?_ ?_
      rotate_left
      · intro w'
        go_simp
        with_reducible rfl
      rotate_left
      · simp only [Act.put, List.setIfInBounds_toArray, List.set_cons_zero, List.set_cons_succ, i64_w, i32_w]
        rfl
      rw [HNE.out]
      refine pure_ (i := 40) (N := some 73) (v := ?_) (a' := ?_) #[true, true, true, true, true, true, true, true, true, true, true, true, true, true, true, true, true, true, true, true, true, true, true, true, true, true, true, true, true, true, true, true, true, true, true, true, true, true, true, true, true, false] rfl rfl (any_of HT_.out (by kernel_rfl)) (fun _ _ _ h => h) (Or.inl ⟨by rfl, ?_⟩) ?_ ?_
      rotate_left
      · intro w'
        go_simp
        with_reducible rfl
      rotate_left
      · simp only [Act.put, List.setIfInBounds_toArray, List.set_cons_zero, List.set_cons_succ, i64_w, i32_w]
        rfl
      refine pure_ (i := 41) (N := some 4) (v := ?_) (a' := ?_) #[true, true, true, true, true, true, true, true, true, true, true, true, true, true, true, true, true, true, true, true, true, true, true, true, true, true, true, true, true, true, true, true, true, true, true, true, true, true, true, true, true, true] rfl rfl (any_of HT_.out (by kernel_rfl)) (fun _ _ _ h => h) (Or.inl ⟨by rfl, ?_⟩) ?_ ?_
      rotate_left
      · intro w'
        go_simp
        with_reducible rfl
      rotate_left
      · simp only [Act.put, List.setIfInBounds_toArray, List.set_cons_zero, List.set_cons_succ, i64_w, i32_w]
        rfl
      refine done_ (done_of HT_.out (by kernel_rfl)) ?_
      clear hHeld HT_ HW_
      clear Z0 Z1 Z2 Z3 Z4 Z5
      go_wp2
      go_ret
      exact ⟨rfl, HB.out⟩
end Go.Proofs.Ytflndiikeoflfaa.P
end
section
namespace Go.Proofs.Ytflndiikeoflfaa.P
open Go.RowKit Go.Proofs.YtflndiikeoflfaaW.PrintWords Go.Proofs.YtflndiikeoflfaaW.PrintLast Go.Proofs.YtflndiikeoflfaaW.PrintMore
set_option linter.unusedVariables false
set_option linter.unusedSimpArgs false
structure Opens {α : Type} (P : Program) (t : TypeId) (d : Kd α) (ok : α → Prop) : Prop where
  sz : P.cellsOf t = d.sz
  op : ∀ {H : Type} {enc : TypeId × Value → H} {W : World} {base : Nat} {spare : Nat → Bool} {held : Bool} {fuel : Nat} {cs : List Value} {y : DataW H × List MemPlace}, DataW.trod enc P W base spare held fuel t cs = some y → (DataW.weights P t y.1).all (· ≤ reachBytes) = true → ∃ x, d.K W x cs ∧ ok x
theorem Opens.int {P : Program} {t : TypeId} {k : IntKind} (h : P.underlying t = some (.int k)) (hs : P.cellsOf t = 1) : Opens P t (Kd.int k) (fun n => (Lit.int k n).wf = true) :=
  ⟨hs, fun hy _ => by
    obtain ⟨n, rfl, _, hw⟩ := DataW.trod_int h hy
    exact ⟨n, rfl, hw⟩⟩
theorem Opens.bool {P : Program} {t : TypeId} (h : P.underlying t = some .bool) (hs : P.cellsOf t = 1) : Opens P t Kd.bool (fun _ => True) :=
  ⟨hs, fun hy _ => by
    obtain ⟨b, rfl, _⟩ := DataW.trod_bool h hy
    exact ⟨b, rfl, trivial⟩⟩
theorem Opens.string {P : Program} {t : TypeId} (h : P.underlying t = some .string) (hs : P.cellsOf t = 1) : Opens P t Kd.string (fun s => s.size ≤ 140737488351232) :=
  ⟨hs, fun hy hw => by
    obtain ⟨s, rfl, rfl, _⟩ := DataW.trod_string h hy
    refine ⟨s, rfl, ?_⟩
    have := hw
    simp [DataW.weights, reachBytes] at this
    exact of_decide_eq_true this⟩
theorem choose_row {α : Type} {R : Nat → α → Prop} : ∀ n, (∀ i, i < n → ∃ x, R i x) → ∃ xs : List α, xs.length = n ∧ ∀ i x, xs[i]? = some x → R i x
  | 0, _ => ⟨[], rfl, fun i x h => by simp at h⟩
  | n + 1, h => by
    obtain ⟨xs, hl, hx⟩ := choose_row n (fun i hi => h i (by omega))
    obtain ⟨x, hr⟩ := h n (by omega)
    refine ⟨xs ++ [x], by simp [hl], fun i z hz => ?_⟩
    by_cases hi : i < n
    · rw [List.getElem?_append_left (by omega)] at hz
      exact hx i z hz
    · rw [List.getElem?_append_right (by omega)] at hz
      have : i - xs.length = 0 := by
        rcases Nat.eq_zero_or_pos (i - xs.length) with h0 | h0
        · exact h0
        · rw [List.getElem?_eq_none (by simp; omega)] at hz; cases hz
      rw [this] at hz
      simp at hz
      subst hz
      have : i = n := by omega
      rw [this]; exact hr
theorem weightsAll_mem {H : Type} {P : Program} {e : TypeId} : ∀ {ds : List (DataW H)}, (DataW.weightsAll P e ds).all (· ≤ reachBytes) = true → ∀ d ∈ ds, (DataW.weights P e d).all (· ≤ reachBytes) = true
  | [], _, d, hd => by cases hd
  | a :: ds, h, d, hd => by
    simp only [DataW.weightsAll, List.all_append, Bool.and_eq_true] at h
    rcases List.mem_cons.1 hd with rfl | hd
    · exact h.1
    · exact weightsAll_mem h.2 d hd
theorem Opens.slice {α : Type} {P : Program} {t e : TypeId} {d : Kd α} {ok : α → Prop} {B : Nat} (h : P.underlying t = some (.slice e)) (hs : P.cellsOf t = 1) (hB : P.bytesOf e = B) (he : Opens P e d ok) : Opens P t (Kd.slice e d) (fun xs => xs.length * B ≤ 140737488351232 ∧ ∀ x ∈ xs, ok x) :=
  ⟨hs, fun {H enc W base spare held fuel cs y} hy hw => by
    rcases DataW.trod_slice h hy with ⟨rfl, rfl⟩ | ⟨a, len, cap, elems, rest, n, rfl, rfl, rfl, hb, hl, hc, hel, hi, _, _⟩
    · exact ⟨[], ⟨none, 0, rfl, Nat.le_refl _, Kd.C_nil _ _⟩, by simp⟩
    · unfold DataW.weights at hw
      rw [h] at hw
      simp only [List.all_cons, List.all_append, Bool.and_eq_true, decide_eq_true_eq, hB, List.length_map] at hw
      obtain ⟨hw0, hw1, _⟩ := hw
      have hx : ∀ i, i < len → ∃ x, ok x ∧ ∃ c, c.length = d.sz ∧ d.K W x c ∧ W.cells? base (a.add (i * d.sz)) d.sz = some c := by
        intro i hlt
        have h1 := hi i hlt
        rw [List.getElem?_eq_getElem (by omega)] at h1
        obtain ⟨c, hc1, hc2⟩ := Option.bind_eq_some_iff.1 h1
        obtain ⟨x, hK, hok⟩ := he.op hc2 (weightsAll_mem hw1 _ (List.mem_map_of_mem (List.getElem_mem _)))
        rw [he.sz] at hc1
        exact ⟨x, hok, c, d.K_len hK, hK, hc1⟩
      obtain ⟨xs, hxl, hxs⟩ := choose_row len hx
      refine ⟨xs, ⟨some a, cap, by rw [hxl], by omega, rfl, ?_, fun hpos => ⟨a, rfl, fun j p hj => ?_⟩⟩, ?_, ?_⟩
      · simp only [maxLen] at hc; omega
      · obtain ⟨_, c, hcl, hK, hcc⟩ := hxs j p hj
        refine ⟨c, hcl, hK, fun i u hu => ?_⟩
        obtain ⟨_, _, hcell⟩ := World.cells?_some hcc
        have hi : i < d.sz := by rw [← hcl]; exact (List.getElem?_eq_some_iff.1 hu).1
        have := hcell i hi
        rw [Addr.add_add] at this
        rw [this, hu]
      · rw [hxl, ← hel]
        refine Nat.le_trans (Nat.mul_le_mul_right _ (Nat.le_add_right _ _)) hw0
      · intro x hx
        obtain ⟨i, hlt, rfl⟩ := List.getElem_of_mem hx
        exact (hxs i _ (List.getElem?_eq_getElem hlt)).1⟩
theorem weights_at {H : Type} {P : Program} : ∀ {ts : List TypeId} {ds : List (DataW H)} {j : Nat} {t : TypeId} {d : DataW H}, (DataW.weightsEach P ts ds).all (· ≤ reachBytes) = true → ts[j]? = some t → ds[j]? = some d → (DataW.weights P t d).all (· ≤ reachBytes) = true
  | [], _, _, _, _, _, ht, _ => by simp at ht
  | _ :: _, [], _, _, _, _, _, hd => by simp at hd
  | t0 :: ts, d0 :: ds, 0, _, _, h, ht, hd => by
    simp only [List.getElem?_cons_zero, Option.some.injEq] at ht hd
    subst ht; subst hd
    simp only [DataW.weightsEach, List.all_append, Bool.and_eq_true] at h
    exact h.1
  | t0 :: ts, d0 :: ds, j + 1, _, _, h, ht, hd => by
    simp only [List.getElem?_cons_succ] at ht hd
    simp only [DataW.weightsEach, List.all_append, Bool.and_eq_true] at h
    exact weights_at h.2 ht hd
structure OpensFs {α : Type} (P : Program) (fs : List Field) (off : Nat) (d : Kd α) (ok : α → Prop) : Prop where
  op : ∀ {H : Type} {enc : TypeId × Value → H} {W : World} {base : Nat} {spare : Nat → Bool} {held : Bool} {fuel : Nat} {cs : List Value} {ys : List (DataW H × List MemPlace)},
    (∀ (i : Nat) (f : Field), fs[i]? = some f → DataW.trod enc P W base spare held fuel f.type ((cs.drop f.offset).take (P.cellsOf f.type)) = ys[i]?) → ys.length = fs.length →
    (DataW.weightsEach P (fs.map (·.type)) (ys.map (·.1))).all (· ≤ reachBytes) = true → cs.length = off + d.sz → ∃ x, d.K W x (cs.drop off) ∧ ok x
theorem OpensFs.one {α : Type} {P : Program} {f : Field} {t : TypeId} {off : Nat} {d : Kd α} {ok : α → Prop} (ht : f.type = t) (hoff : f.offset = off) (h : Opens P t d ok) : OpensFs P [f] off d ok :=
  ⟨fun {H enc W base spare held fuel cs ys} hy hl hw hcs => by
    obtain ⟨y, rfl⟩ : ∃ y, ys = [y] := by
      cases ys with
      | nil => simp at hl
      | cons y ys => cases ys with
        | nil => exact ⟨y, rfl⟩
        | cons => simp at hl
    have h0 := hy 0 f rfl
    simp only [List.getElem?_cons_zero] at h0
    simp only [List.map_cons, List.map_nil, DataW.weightsEach, List.append_nil] at hw
    rw [ht] at h0 hw
    obtain ⟨x, hK, hok⟩ := h.op h0 hw
    rw [hoff, List.take_of_length_le (by rw [List.length_drop, h.sz]; omega)] at hK
    exact ⟨x, hK, hok⟩⟩
theorem OpensFs.cons {α β : Type} {P : Program} {f : Field} {fs : List Field} {t : TypeId} {off n : Nat} {d : Kd α} {d' : Kd β} {ok : α → Prop} {ok' : β → Prop} (ht : f.type = t) (hoff : f.offset = off) (h : Opens P t d ok) (hn : off + d.sz = n) (hr : OpensFs P fs n d' ok') :
    OpensFs P (f :: fs) off (Kd.pair d d') (fun x => ok x.1 ∧ ok' x.2) :=
  ⟨fun {H enc W base spare held fuel cs ys} hy hl hw hcs => by
    cases ys with
    | nil => simp at hl
    | cons y ys =>
      have h0 := hy 0 f rfl
      simp only [List.getElem?_cons_zero] at h0
      simp only [List.map_cons, DataW.weightsEach, List.all_append, Bool.and_eq_true] at hw
      have hw0 := hw.1
      rw [ht] at h0 hw0
      obtain ⟨x, hK, hok⟩ := h.op h0 hw0
      have hsz : (Kd.pair d d').sz = d.sz + d'.sz := rfl
      rw [hsz] at hcs
      obtain ⟨x', hK', hok'⟩ := hr.op (fun i g hg => hy (i + 1) g (by simpa using hg)) (by simpa using hl) hw.2 (by omega)
      refine ⟨(x, x'), ⟨_, _, ?_, hK, hK'⟩, hok, hok'⟩
      rw [hoff, h.sz, ← hn, ← List.drop_drop]
      exact (List.take_append_drop _ _).symm⟩
theorem Opens.struct {α β : Type} {P : Program} {t : TypeId} {fs : Array Field} {fl : List Field} {d : Kd α} {ok : α → Prop} (f : β → α) (g : α → β) (hfg : ∀ x, f (g x) = x) (h : P.underlying t = some (.struct fs)) (hfl : fs.toList = fl) (hs : P.cellsOf t = d.sz) (ho : OpensFs P fl 0 d ok) :
    Opens P t (Kd.iso d f) (fun x => ok (f x)) :=
  ⟨hs, fun {H enc W base spare held fuel cs y} hy hw => by
    obtain ⟨xs, n, rfl, rfl, hcl, hxl, hx⟩ := DataW.trod_struct h hy
    unfold DataW.weights at hw
    rw [h] at hw
    simp only [hfl] at hw
    subst hfl
    obtain ⟨x, hK, hok⟩ := ho.op (ys := xs) (fun i f hf => hx i f (by simpa using hf)) (by simpa using hxl) hw (by omega)
    rw [List.drop_zero] at hK
    refine ⟨g x, ?_, ?_⟩
    · show d.K W (f (g x)) cs
      rw [hfg]; exact hK
    · rw [hfg]; exact hok⟩
end Go.Proofs.Ytflndiikeoflfaa.P
end
section
namespace Go.Proofs.Ytflndiikeoflfaa.cleanShared
open Go.ChangeShapes Go.WideShapes Go.ChangeAt Go.RowKit Go.Proofs.Ytflndiikeoflfaa.P Go.Proofs.YtflndiikeoflfaaW.PrintWords Go.Proofs.YtflndiikeoflfaaW.PrintLast Go.Proofs.YtflndiikeoflfaaW.PrintMore
open Go.ChangeMaps (open_string shut_string)
set_option linter.unusedVariables false
set_option linter.unusedSimpArgs false
def ok46 (x : S46) : Prop := (fun x => (Lit.int .i64 x).wf = true) x.f0 ∧ (fun x => (Lit.int .i64 x).wf = true) x.f1
theorem opens46 : Opens Try.prog 46 k46 ok46 := Opens.struct (fs := _) (fun x : S46 => (x.f0, x.f1)) (fun p => ⟨p.1, p.2⟩) (fun _ => rfl) Try.underlying46 rfl (by kernel_rfl) (OpensFs.cons rfl rfl (Opens.int Try.underlying3 (by kernel_rfl)) rfl (OpensFs.one rfl rfl (Opens.int Try.underlying3 (by kernel_rfl))))
def ok36 (x : S36) : Prop := (fun x => True) x.f0 ∧ (fun x => x.length * 16 ≤ 140737488351232 ∧ ∀ y ∈ x, (ok46) y) x.f1
theorem opens36 : Opens Try.prog 36 k36 ok36 := Opens.struct (fs := _) (fun x : S36 => (x.f0, x.f1)) (fun p => ⟨p.1, p.2⟩) (fun _ => rfl) Try.underlying36 rfl (by kernel_rfl) (OpensFs.cons rfl rfl (Opens.bool Try.underlying4 (by kernel_rfl)) rfl (OpensFs.one rfl rfl (Opens.slice (B := 16) Try.underlying34 (by kernel_rfl) (by kernel_rfl) opens46)))
def ok38 (x : S38) : Prop := (fun x => (Lit.int .i64 x).wf = true) x.f0 ∧ (fun x => True) x.f1 ∧ (ok36) x.f2
theorem opens38 : Opens Try.prog 38 k38 ok38 := Opens.struct (fs := _) (fun x : S38 => (x.f0, x.f1, x.f2)) (fun p => ⟨p.1, p.2.1, p.2.2⟩) (fun _ => rfl) Try.underlying38 rfl (by kernel_rfl) (OpensFs.cons rfl rfl (Opens.int Try.underlying3 (by kernel_rfl)) rfl (OpensFs.cons rfl rfl (Opens.bool Try.underlying4 (by kernel_rfl)) rfl (OpensFs.one rfl rfl opens36)))
theorem own : ownKnob Try.prog.godebug = none := by kernel_rfl
theorem laidOut : laidOutB Try.prog = true := by kernel_rfl
set_option maxHeartbeats 1000000 in
set_option maxRecDepth 100000 in
theorem lifted (os : Os) (started : os.Started) (H : Type) (enc : TypeId × Value → H) :
  ReturnsInHanded {} Try.checked os 4 .any (Rows.cleanSharedSpec.pre6 enc Try.prog Try.f4 Rows.cleanSharedRow.domain false) (Rows.cleanSharedSpec.post enc Try.prog Try.f4 false true false false) := by
 refine returnsInHanded_of_change_sized (C := Try.checked) own started (by kernel_rfl) Try.func4
  (ChangeSpec.witness6 (enc := enc) (C := Try.checked) false ⟨#[], #[.agg #[.slice none 0 0, .int .i64 0], .int .i64 0], []⟩ 8 (by kernel_rfl) (by kernel_rfl) (by kernel_rfl) (by kernel_rfl)) ?_
 intro W base args ds gs before hval0 hW hcnd hsz0 _
 have hsz : (DataW.weightsEach Try.prog (Try.f4.params.toList ++ Rows.cleanSharedSpec.plain.varTypes Try.prog) (ds ++ gs)).all (· ≤ reachBytes) = true := hsz0
 have hval : ∀ (j : Nat) t v, Try.f4.params[j]? = some t → args[j]? = some v → Value.okWide Try.prog W .any base t v := hval0
 have hW' := hW
 obtain ⟨p, q, hA0, hV, rfl, hfz, hnd⟩ := hW
 have hA : DataW.TrodAll enc Try.prog W 0 (fun _ => true) true Try.f4.params.toList args.toList ds p := hA0
 rw [Try.params4] at hA hval hsz
 obtain ⟨v0, vs0, d0, ds0, p0, q0, hargs, rfl, rfl, h0, r0⟩ := trodAll_cons hA
 obtain ⟨v1, vs1, d1, ds1, p1, q1, rfl, rfl, rfl, h1, r1⟩ := trodAll_cons r0
 obtain ⟨rfl, rfl, rfl⟩ := trodAll_nil r1
 obtain rfl : args = #[v0, v1] := by cases args; simp_all
 obtain ⟨rfl, rfl⟩ := trodVars_none hV
 have k0 := h0
 have lt0 : ∀ x ∈ p0, x.block < W.heap.size := by obtain ⟨m, hm⟩ := k0; exact DataW.trod_lt m _ _ _ hm
 have wt0 := weights_at hsz (j := 0) (t := 24) (d := d0) rfl rfl
 obtain ⟨fuel0, hf0⟩ := h0
 obtain ⟨x0, hK0, hok0⟩ := (Opens.struct (f := id) (g := id) (fun _ => rfl) Try.underlying24 rfl (by kernel_rfl) (OpensFs.cons rfl rfl (Opens.slice (B := 48) Try.underlying22 (by kernel_rfl) (by kernel_rfl) opens38) rfl (OpensFs.one rfl rfl (Opens.int Try.underlying3 (by kernel_rfl))))).op hf0 wt0
 obtain ⟨cs0, rfl, hsz0⟩ := okWide_struct Try.underlying24 (hval 0 24 v0 rfl rfl)
 obtain ⟨l0_0, a0_1⟩ := x0
 obtain ⟨L0, hL0⟩ : ∃ L, (Value.agg cs0).cells.toList = L := ⟨_, rfl⟩
 rw [hL0] at hK0
 obtain ⟨_, _, rfl, ⟨A0_0, c0_0, rfl, hc0_0, hr0_0⟩, rfl⟩ := hK0
 obtain rfl : cs0 = #[.slice A0_0 l0_0.length c0_0, .int .i64 a0_1] := by have h := hL0; simp [Value.cells] at h; cases cs0; simp_all
 obtain ⟨o0_0, o0_1⟩ := hok0
 have k1 := h1
 have lt1 : ∀ x ∈ p1, x.block < W.heap.size := by obtain ⟨m, hm⟩ := k1; exact DataW.trod_lt m _ _ _ hm
 have wt1 := weights_at hsz (j := 1) (t := 3) (d := d1) rfl rfl
 obtain ⟨a1, rfl, _, _, o1⟩ := open_int Try.underlying3 (hval 1 3 v1 rfl rfl) h1
 clear hA0 hval0 hsz0 hsz
 refine (assartlaw11_CleanShared.walk A0_0 c0_0 l0_0 a0_1 a1 W hr0_0 hc0_0).mono fun e W' ⟨he, bel0⟩ => ?_
 have bel := bel0
 subst he
 exact ⟨_, rfl, _, _, _, [], _, [], hW', trodAll_mk1 (shut_bool Try.underlying4 _), (trodAll_cons_mk (Below.trod laidOut (by kernel_rfl) (of_decide_eq_true (by kernel_rfl)) k0 bel lt0) (trodAll_cons_mk (Below.trod laidOut (by kernel_rfl) (of_decide_eq_true (by kernel_rfl)) k1 bel lt1) trodAll_mk0)), rfl, bel.frame _, fun h => by cases h⟩
theorem over : Rows.cleanSharedRow.holds Try.pinned (OpenSpec.ofChange Rows.cleanSharedSpec) :=
 OpenClaim.holds_of_wide 4 Try.f4 rfl rfl rfl rfl rfl rfl rfl ⟨rfl, rfl, rfl, rfl, rfl⟩ rfl rfl rfl rfl rfl (by kernel_rfl) Try.func4 (by kernel_rfl)
  (of_decide_eq_true (by kernel_rfl)) (by unfold Func.isWrapper; first | (rw [if_pos (by decide +kernel)]; kernel_rfl) | (rw [if_neg (by decide +kernel)]; exact ⟨rfl, rfl⟩))
  (fun os started H enc _ => lifted os started H enc)
theorem proved : Rows.CleanSharedSaid := over
#print axioms proved
end Go.Proofs.Ytflndiikeoflfaa.cleanShared
namespace Go.Proofs.Ytflndiikeoflfaa
theorem cleanShared_holds : Rows.CleanSharedSaid := cleanShared.proved
end Go.Proofs.Ytflndiikeoflfaa
end
