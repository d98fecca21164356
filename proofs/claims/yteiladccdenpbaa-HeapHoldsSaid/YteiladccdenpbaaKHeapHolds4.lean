/- Texts of this claim's proof put together: HHeapHolds, HRow, LawHeapHolds. -/
import Derived.Below
import Derived.Deep.Draws
import Derived.Deep.AppendLies
import Derived.Maps.AppendAt
import Derived.OwnWalk
import Derived.Laws.BytesArg
import Derived.Laws.MakeOwn
import Derived.Laws.OwnMore
import Derived.Deep.OwnRows
import Derived.Tactics
import Derived.Lib.ConvBytes
import Derived.Laws.Slices
import Derived.WalkKit
import Derived.KernelRfl
import Derived.RowKit3
import Derived.Deep.LoopGhost
import Derived.Deep.QuietTactic
import Derived.BigQuiet
import Derived.WideLaws
import Derived.Deep.DeepCutAuto
import Derived.Deep.CutBlock
import Derived.Deep.RegionHeld3
import Derived.Laws.Rows
import Derived.Lib.AppendStr
import Derived.ArgAppend
import Derived.Laws.IdiomCopy
import Derived.RowKit
import Derived.OrdersHeld
import Derived.Laws.BitsLemmas
import Derived.Laws.StructEq
import Derived.Test.YteiladccdenpbaaProg
import Derived.Shelf.RegionOpenPlain
import Derived.Shelf.Abstract
import Derived.Laws.CopyOwn
import Derived.Lib.SlBuf
import Derived.ChangeArms
import Derived.DataReads
import Derived.DataElems
import Derived.SizedLaws
import Derived.Test.YteiladccdenpbaaRows
import Derived.ProofKit
import Derived.OpenShut
import Derived.ShutString
import Derived.ChangeOld
import Derived.Test.YteiladccdenpbaaKHeapHolds0
import Derived.Test.YteiladccdenpbaaKHeapHolds1
import Derived.Test.YteiladccdenpbaaKHeapHolds2
import Derived.Test.YteiladccdenpbaaKHeapHolds3
namespace Foot
end Foot
namespace Go.Proofs.Yteiladccdenpbaa
end Go.Proofs.Yteiladccdenpbaa
namespace Go.Proofs.Yteiladccdenpbaa.P
end Go.Proofs.Yteiladccdenpbaa.P
namespace Go.Proofs.Yteiladccdenpbaa.heapHolds
end Go.Proofs.Yteiladccdenpbaa.heapHolds
namespace Go.Proofs.YteiladccdenpbaaW.PrintLast
end Go.Proofs.YteiladccdenpbaaW.PrintLast
namespace Go.Proofs.YteiladccdenpbaaW.PrintMore
end Go.Proofs.YteiladccdenpbaaW.PrintMore
namespace Go.Proofs.YteiladccdenpbaaW.PrintWords
end Go.Proofs.YteiladccdenpbaaW.PrintWords
namespace Kd
end Kd
section
namespace Go.Proofs.Yteiladccdenpbaa.P
open Go.RowKit Go.Proofs.YteiladccdenpbaaW.PrintWords Go.Proofs.YteiladccdenpbaaW.PrintLast Go.Proofs.YteiladccdenpbaaW.PrintMore
set_option linter.unusedVariables false
set_option linter.unusedSimpArgs false
theorem used_val (l : List S55) (kp p : Int) : assartref05_Used.f l kp p = some (usedB l p) := by
  unfold assartref05_Used.f usedB
  by_cases h0 : p ≥ 0
  · rw [if_pos h0]
    by_cases h1 : p < (l.length : Int)
    · rw [if_pos h1, if_pos h0]
      congr 1
      rw [decide_eq_decide]
      omega
    · rw [if_neg h1, decide_eq_false (by omega)]
  · rw [if_neg h0, decide_eq_false (by omega)]
def heldN (l : List S55) (q i : Nat) : List S55 := l.set q ⟨(rd_T55 l q).f0 + i, (rd_T55 l q).f1, (rd_T55 l q).f2⟩
theorem V_base {α : Type} {d : Kd α} {e base base' : Nat} {W : World} {ok : Nat → Prop} {v : Value} {xs : List α} (h : Kd.V d e W base ok v xs) : Kd.V d e W base' ok v xs := h
theorem usedB_nat {l : List S55} {p : Int} (h : usedB l p = true) : ∃ q : Nat, p = q ∧ q < l.length ∧ 0 < (rd_T55 l (q : Nat)).f0 := by
  unfold usedB at h
  rw [decide_eq_true_eq] at h
  refine ⟨p.toNat, by omega, by omega, ?_⟩
  rw [Int.toNat_of_nonneg h.1]
  exact h.2.2
theorem heldN_len (l : List S55) (q i : Nat) : (heldN l q i).length = l.length := by unfold heldN; exact List.length_set
theorem rd55_same {l : List S55} {a i : Nat} (x : S55) (h : a < l.length) : rd_T55 (l.set a x) (i : Nat) = if a = i then x else rd_T55 l (i : Nat) := by
  simp only [rd_T55, Int.toNat_natCast, List.getD_eq_getElem?_getD]
  rw [List.getElem?_set]
  by_cases e : a = i
  · subst e
    rw [if_pos rfl, if_pos rfl, if_pos h]
    rfl
  · rw [if_neg e, if_neg e]
theorem heldN_zero {l : List S55} {q : Nat} (h : q < l.length) : heldN l q 0 = l := by
  unfold heldN
  rw [show (rd_T55 l (q : Nat)).f0 + ((0 : Nat) : Int) = (rd_T55 l (q : Nat)).f0 by simp, rd55_at h]
  exact List.set_getElem_self h
theorem heldN_rd {l : List S55} {q : Nat} (i : Nat) (h : q < l.length) : rd_T55 (heldN l q i) (q : Nat) = ⟨(rd_T55 l q).f0 + i, (rd_T55 l q).f1, (rd_T55 l q).f2⟩ := by
  unfold heldN; rw [rd55_same _ h, if_pos rfl]
theorem heldN_set {l : List S55} {q i k : Nat} (x : S55) (e : x = ⟨(rd_T55 l q).f0 + k, (rd_T55 l q).f1, (rd_T55 l q).f2⟩) : (heldN l q i).set q x = heldN l q k := by
  unfold heldN
  rw [List.set_set, e]
theorem hold_heldN (l : List S55) (kp : Int) (q i : Nat) (hq : q < l.length) (hl : l.length < 1000000) (h0 : 0 < (rd_T55 l (q : Nat)).f0) (h1 : (rd_T55 l (q : Nat)).f0 ≤ 1000000) (hi : i < 20) : heap_Hold.f (heldN l q i) kp q = some (heldN l q (i + 1), kp, 0) := by
  have hr := heldN_rd i hq
  have hlen := heldN_len l q i
  unfold heap_Hold.f
  rw [if_pos (by omega), if_pos (by unfold usedB; rw [hr, decide_eq_true_eq]; simp only []; omega)]
  unfold holdP
  rw [hr]
  simp only []
  rw [if_pos ⟨by omega, by omega, by omega, by omega, by omega⟩, Option.bind_some, Int.toNat_natCast, heldN_set (k := i + 1) _ (by simp only [S55.mk.injEq]; refine ⟨by push_cast; omega, trivial, trivial⟩), if_pos (by rw [heldN_len]; omega)]
theorem loose_heldN (l : List S55) (kp : Int) (q i : Nat) (hq : q < l.length) (hl : l.length < 1000000) (h0 : 0 < (rd_T55 l (q : Nat)).f0) (h1 : (rd_T55 l (q : Nat)).f0 ≤ 1000000) (hi : i < 20) : heap_Loose.f (heldN l q (i + 1)) kp q = some (heldN l q i, kp, 0) := by
  have hr := heldN_rd (i + 1) hq
  have hlen := heldN_len l q (i + 1)
  unfold heap_Loose.f
  rw [if_pos (by omega), if_pos (by unfold usedB; rw [hr, decide_eq_true_eq]; simp only []; omega), looseP, hr]
  simp only []
  rw [if_pos ⟨by omega, by omega, by omega, by omega, by omega⟩, if_neg (by omega), if_pos (by omega), Option.bind_some, Int.toNat_natCast, heldN_set (k := i) _ (by simp only [S55.mk.injEq]; refine ⟨by push_cast; omega, trivial, trivial⟩), if_pos (by rw [heldN_len]; omega)]
theorem right_heldN {l : List S55} {kp : Int} {q i : Nat} (hq : q < l.length) (h : heapR l kp) (h0 : 0 < (rd_T55 l (q : Nat)).f0) (h1 : (rd_T55 l (q : Nat)).f0 ≤ 1000000) (hi : i ≤ 20) : heapR (heldN l q i) kp := by
  obtain ⟨a, b, c, d, e⟩ := h
  have hlen := heldN_len l q i
  refine ⟨by omega, by omega, c, by omega, fun j hj _ => ?_⟩
  rw [hlen] at hj ⊢
  have hc := e j hj (Nat.zero_le _)
  by_cases ej : q = j
  · subst ej
    rw [heldN_rd i hq]
    rcases hc with x | x
    · have := x.1; omega
    · exact .inr ⟨by simp only []; omega, by simp only []; omega, x.2.2.1, x.2.2.2⟩
  · unfold heldN
    rw [rd55_same _ hq, if_neg ej]
    exact hc
def hHolds.T12 : Bool × List (List Nat × List Nat) := (true, [([], []), ([0], [0]), ([1], [1]), ([], []), ([3], [3]), ([4], [4]), ([2, 5], [2, 5]), ([6], [6]), ([7], [7]), ([8, 7], [7, 8]), ([7], [7]), ([9, 10, 7], [7, 9, 10]), ([11, 7], [7, 11]), ([12, 7], [7, 12]), ([7], [7]), ([14, 7], [7, 14]), ([7], [7]), ([15, 16, 7], [7, 15, 16]), ([17, 7], [7, 17]), ([18, 7], [7, 18]), ([7], [7]), ([20, 7], [7, 20]), ([21, 7], [7, 21]), ([19, 22, 7], [7, 19, 22]), ([13, 23, 7], [7, 13, 23]), ([7, 24], [7, 24]), ([25, 7], [25]), ([26], [26]), ([27, 26, 26], [26, 27]), ([28, 26], [26, 28]), ([26, 29], [26, 29])])
def hHolds.B12 : List Nat := [0, 1, 3, 0, 8, 24, 63, 127, 255, 511, 255, 2047, 4095, 8191, 255, 16639, 255, 114943, 246015, 508159, 255, 1048831, 3145983, 8372479, 16777215, 33554431, 67108863, 134217727, 268435455, 536870911, 1073741823]
theorem hHolds.tab12 : rtab .any (opsOf Try.f13 12) = hHolds.T12 := by kernel_rfl
theorem hHolds.bits12 : waitsOk hHolds.T12.2 hHolds.B12 = true := by kernel_rfl
theorem holds_ne (r0 : Int) (j : Nat) (n : Int) (h0 : 0 < r0) (h1 : r0 ≤ 1000000) (hj : j < 20) (hn0 : 0 ≤ n) (hm : n % 20 = (j : Int)) : (r0 + (j : Int) != wrap64 (r0 + wrap64 (n.tmod 20))) = false := by
  have e : n.tmod 20 = (j : Int) := by rw [Int.tmod_eq_emod_of_nonneg hn0]; exact hm
  rw [e]
  have h2 : wrap64 (j : Int) = (j : Int) := by clear e hm; unfold wrap64; omega
  rw [h2, wadd _ _ (Int.le_of_lt h0) (Int.le_trans h1 (by decide)) (by clear h2 e hm; omega) (by clear h2 e hm; omega)]
  exact bne_self_eq_false _
set_option maxHeartbeats 8000000 in
set_option maxRecDepth 100000 in
theorem assartlaw05_HeapHolds.walk (A : Option Addr) (c : Nat) (l : List S55) (kp p n : Int) (w : World) (hr : Kd.C k55 w A l.length l) (hc : l.length ≤ c) (hn0 : 0 ≤ n) (hn1 : n ≤ 255) :
    Calls Try.prog 13 #[.agg #[.slice A l.length c, .int .i64 kp], .int .i64 p, .int .u8 n] w fun e w' => e = .returned (.bool true) ∧ Below w.heap.size w w' := by
  obtain ⟨wA, hwA⟩ : ∃ wA, w.alloc (.cells #[.slice A l.length c, .int .i64 kp] 24) = wA := ⟨_, rfl⟩
  have hbA : Below w.heap.size w wA := by rw [← hwA]; exact (Below.refl _ w).alloc (Nat.le_refl _) _
  have hxA : wA.heap[w.heap.size]? = some (.cells #[.slice A l.length c, .int .i64 kp] 24 (0, 0)) := by rw [← hwA]; exact alloc_new w _
  have hm := may05_val l kp 60 (by omega) 10000 (by omega)
  rw [show ((60 : Nat) : Int) = 60 from rfl] at hm
  have HV : Aside0 (Kd.V k55 55 w 0 (fun k => k < w.heap.size) (.slice A l.length c) l) := ⟨Kd.V_mk hc (Kd.C_F k55_heap hr)⟩
  have HC := Aside0.mk hc
  have HM := Aside0.mk hm
  have HBA := Aside0.mk hbA
  have HXA := Aside0.mk hxA
  clear hr hc hm hbA hxA
  have hu24 := Try.underlying24
  go_enter Try.func13, Try.ntmps13
  go_wp2_with fail
  refine (assartlaw05_shown.calls true wA rfl).mono ?_
  rintro e w1 ⟨rfl, hb1⟩
  have HX1 := Aside0.mk (blk_below HXA.out hb1)
  have HB1 := Aside0.mk (HBA.out.trans (hb1.mono HBA.out.size))
  have a0 : w1.cell? ⟨w.heap.size, 0, none⟩ = some (.slice A l.length c) := (blk_cell HX1.out 0).trans rfl
  have a1 : w1.cell? ⟨w.heap.size, 1, none⟩ = some (.int .i64 kp) := (blk_cell HX1.out 1).trans rfl
  clear hb1 hwA HXA HBA
  go_wp2_with fail
  refine (assartref05_May.calls 10000 A c l kp 60 (decide (mayH l kp 60)) w1 (Kd.V_reads' (Kd.V_below HV.out HB1.out)).2.2 HC.out HM.out).mono ?_
  rintro e w2 ⟨rfl, hb2⟩
  have HX2 := Aside0.mk (blk_below HX1.out hb2)
  have HB2 := Aside0.mk (HB1.out.trans (hb2.mono HB1.out.size))
  clear a0 a1 hb2 HX1 HB1
  have a0 : w2.cell? ⟨w.heap.size, 0, none⟩ = some (.slice A l.length c) := (blk_cell HX2.out 0).trans rfl
  have a1 : w2.cell? ⟨w.heap.size, 1, none⟩ = some (.int .i64 kp) := (blk_cell HX2.out 1).trans rfl
  by_cases h1 : mayH l kp 60
  · rw [decide_eq_true h1]
    go_wp2_with fail
    clear a0 a1
    refine (assartref05_Used.calls A c l kp p (usedB l p) w2 (Kd.V_reads' (Kd.V_below HV.out HB2.out)).2.2 HC.out (used_val l kp p)).mono ?_
    rintro e w3 ⟨rfl, hb3⟩
    have HX3 := Aside0.mk (blk_below HX2.out hb3)
    have HB3 := Aside0.mk (HB2.out.trans (hb3.mono HB2.out.size))
    have a0 : w3.cell? ⟨w.heap.size, 0, none⟩ = some (.slice A l.length c) := (blk_cell HX3.out 0).trans rfl
    have a1 : w3.cell? ⟨w.heap.size, 1, none⟩ = some (.int .i64 kp) := (blk_cell HX3.out 1).trans rfl
    clear hb3 HX2 HB2
    by_cases h2 : usedB l p = true
    · rw [h2]
      go_wp2
      obtain ⟨q, rfl, hq, h0⟩ := usedB_nat h2
      have hle : (rd_T55 l (q : Nat)).f0 ≤ 1000000 := (h1.2.1 q hq (Nat.zero_le _)).2
      have hl60 := h1.1
      obtain ⟨m, hm, hm20⟩ : ∃ m : Nat, n % 20 = m ∧ m < 20 := ⟨(n % 20).toNat, by omega, by omega⟩
      obtain ⟨wB, hwB⟩ : ∃ wB, w3.alloc (.cells #[.slice A l.length c, .int .i64 kp] 24) = wB := ⟨_, rfl⟩
      obtain ⟨gb, hgb⟩ : ∃ gb, w3.heap.size = gb := ⟨_, rfl⟩
      have hne : w.heap.size < gb := by rw [← hgb]; exact blk_lt HX3.out
      have HB : Aside0 (Below w.heap.size w wB) := ⟨by rw [← hwB]; exact HB3.out.alloc HB3.out.size _⟩
      have HX : Aside0 (wB.heap[w.heap.size]? = some (.cells #[.slice A l.length c, .int .i64 kp] 24 (0, 0))) := ⟨by rw [← hwB]; exact blk_alloc HX3.out _⟩
      have HG : Aside0 (wB.heap[gb]? = some (.cells #[.slice A l.length c, .int .i64 kp] 24 (0, 0))) := ⟨by rw [← hwB, ← hgb]; exact alloc_new w3 _⟩
      have HVB : Aside0 (Kd.V k55 55 wB 0 (fun k => k ≠ gb) (.slice A l.length c) l) := ⟨Kd.V_mono (Kd.V_below HV.out HB.out) (fun k hk => by omega)⟩
      rw [hwB, hgb]
      clear hwB hgb HX3 HB3 a0 a1
      go_loopg [9] m (fun kx s wr => ∃ (j : Nat) (A' : Option Addr) (c' : Nat), s = .int .i64 j ∧ j ≤ m ∧ m - j ≤ kx ∧ Aside0 (Below w.heap.size w wr) ∧ Aside0 (wr.heap[w.heap.size]? = some (.cells #[.slice A l.length c, .int .i64 kp] 24 (0, 0))) ∧ Aside0 (wr.heap[gb]? = some (.cells #[.slice A' (heldN l q j).length c', .int .i64 kp] 24 (0, 0))) ∧ Aside0 (Kd.V k55 55 wr 0 (fun k => k ≠ gb) (.slice A l.length c) l) ∧ Aside0 (Kd.V k55 55 wr 0 (fun k => k ≠ gb) (.slice A' (heldN l q j).length c') (heldN l q j)))
      case atStart => exact ⟨0, A, c, rfl, Nat.zero_le _, by omega, HB, HX, ⟨by rw [heldN_zero hq]; exact HG.out⟩, HVB, ⟨by rw [heldN_zero hq]; exact HVB.out⟩⟩
      case round =>
        obtain ⟨j, A', c', rfl, hj, hgk, HBr, HXr, HGr, HVr, HV'⟩ := hrel
        by_cases hlt : j < m
        · have hf := Aside0.mk (hold_heldN l kp q j hq (by omega) h0 hle (by omega))
          obtain ⟨lj, hlj⟩ : ∃ lj, heldN l q j = lj := ⟨_, rfl⟩
          rw [hlj] at HGr HV' hf
          have g0 : wr.cell? ⟨gb, 0, none⟩ = some (.slice A' lj.length c') := (blk_cell HGr.out 0).trans rfl
          have g1 : wr.cell? ⟨gb, 1, none⟩ = some (.int .i64 kp) := (blk_cell HGr.out 1).trans rfl
          have hc1 : decide ((j : Int) < n % 20) = true := decide_eq_true (by omega)
          go_wp2_with fail
          clear g0 g1
          refine (heap_Hold.calls (fun k => k ≠ gb) A' c' lj kp q _ kp 0 wr (V_base HV'.out) hf.out).mono ?_
          rintro e w4 ⟨v4, rfl, hv, hb⟩
          obtain ⟨A4, c4, ev⟩ := Kd.V_slice hv
          subst ev
          have hgr : gb < wr.heap.size := blk_lt HGr.out
          have hg4 : gb < w4.heap.size := Nat.lt_of_lt_of_le hgr hb.size
          have HG4 := Aside0.mk (blk_below HGr.out hb)
          have HX4 := Aside0.mk (blk_below HXr.out hb)
          have HB4 := Aside0.mk (HBr.out.trans (hb.mono HBr.out.size))
          have HVh := Aside0.mk (Kd.V_below HVr.out hb)
          have HVg : Aside0 (Kd.V k55 55 w4 0 (fun k => k ≠ gb) (.slice A4 (heldN l q (j + 1)).length c4) (heldN l q (j + 1))) := ⟨V_base (Kd.V_mono hv (fun k hk => by omega))⟩
          have g0 : w4.cell? ⟨gb, 0, none⟩ = some (.slice A' lj.length c') := (blk_cell HG4.out 0).trans rfl
          have g1 : w4.cell? ⟨gb, 1, none⟩ = some (.int .i64 kp) := (blk_cell HG4.out 1).trans rfl
          have g2 := blk_frozen HG4.out 0
          have g3 := blk_frozen HG4.out 1
          clear hv hb hgr HBr HXr HGr HVr HV' hf
          go_wp2_with fail
          go_roundg (m - (j + 1))
          case measure => omega
          case rel =>
            exact ⟨j + 1, A4, c4, by simp, by omega, Nat.le_refl _, ⟨below_alloc (below_set (below_set HB4.out (Nat.le_of_lt hne)) (Nat.le_of_lt hne)) _⟩, ⟨blk_alloc (blk_far (blk_far HX4.out (Nat.ne_of_lt hne) _) (Nat.ne_of_lt hne) _) _⟩, ⟨blk_alloc (blk_put (blk_put HG4.out 0 _ rfl) 1 _ rfl) _⟩, ⟨Kd.V_alloc (Kd.V_far (Kd.V_far HVh.out (fun k hk => hk) _) (fun k hk => hk) _) _⟩, ⟨Kd.V_alloc (Kd.V_far (Kd.V_far HVg.out (fun k hk => hk) _) (fun k hk => hk) _) _⟩⟩
        · obtain rfl : j = m := by omega
          have hc1 : decide ((j : Int) < n % 20) = false := decide_eq_false (by omega)
          obtain ⟨lj, hlj⟩ : ∃ lj, heldN l q j = lj := ⟨_, rfl⟩
          have hlen : lj.length = l.length := by rw [← hlj]; exact heldN_len l q j
          have hrd : rd_T55 lj (q : Nat) = ⟨(rd_T55 l q).f0 + j, (rd_T55 l q).f1, (rd_T55 l q).f2⟩ := by rw [← hlj]; exact heldN_rd j hq
          have hrt := Aside0.mk (right_heldN (i := j) hq h1.2.2 h0 hle (by omega))
          rw [hlj] at HGr HV' hrt
          obtain ⟨ad, A1, c1, e1, y0, -⟩ := at_T55 (Kd.V_reads' HV'.out).2.2 (q : Int) (by omega) (by omega)
          obtain ⟨ax, A2, c2, e2, y1, -⟩ := at_T55 (Kd.V_reads' HVr.out).2.2 (q : Int) (by omega) (by omega)
          cases e1
          cases e2
          rw [Int.toNat_natCast, hrd] at y0
          rw [Int.toNat_natCast] at y1
          obtain ⟨r0, hr0⟩ : ∃ r0, (rd_T55 l (q : Nat)).f0 = r0 := ⟨_, rfl⟩
          rw [hr0] at y0 y1 h0 hle
          have Z0 : Aside0 (wr.cell? ⟨gb, 0, none⟩ = some (.slice (some ad) l.length c')) := ⟨by rw [← hlen]; exact (blk_cell HGr.out 0).trans rfl⟩
          have Z1 : Aside0 (wr.cell? ⟨gb, 1, none⟩ = some (.int .i64 kp)) := ⟨(blk_cell HGr.out 1).trans rfl⟩
          have Z2 : Aside0 (wr.cell? ⟨w.heap.size, 0, none⟩ = some (.slice (some ax) l.length c)) := ⟨(blk_cell HXr.out 0).trans rfl⟩
          have Z3 : Aside0 (wr.cell? ⟨w.heap.size, 1, none⟩ = some (.int .i64 kp)) := ⟨(blk_cell HXr.out 1).trans rfl⟩
          have Z4 : Aside0 (wr.cell? (ad.add (q * 4)) = some (.int .i64 (r0 + (j : Int)))) := ⟨y0⟩
          have Z5 : Aside0 (wr.cell? (ax.add (q * 4)) = some (.int .i64 r0)) := ⟨y1⟩
          have p1 : (q : Int) < (l.length : Int) := by omega
          have HNE := Aside0.mk (holds_ne r0 j n (by omega) (by omega) hm20 hn0 hm)
          replace p1 := eq_true p1
          clear y0 y1
          go_wp2_with fail
          replace Z0 : Aside0 (wr.drew.cell? ⟨gb, 0, none⟩ = some (.slice (some ad) l.length c')) := ⟨Z0.out⟩
          replace Z1 : Aside0 (wr.drew.cell? ⟨gb, 1, none⟩ = some (.int .i64 kp)) := ⟨Z1.out⟩
          replace Z2 : Aside0 (wr.drew.cell? ⟨w.heap.size, 0, none⟩ = some (.slice (some ax) l.length c)) := ⟨Z2.out⟩
          replace Z3 : Aside0 (wr.drew.cell? ⟨w.heap.size, 1, none⟩ = some (.int .i64 kp)) := ⟨Z3.out⟩
          replace Z4 : Aside0 (wr.drew.cell? (ad.add (q * 4)) = some (.int .i64 (r0 + (j : Int)))) := ⟨Z4.out⟩
          replace Z5 : Aside0 (wr.drew.cell? (ax.add (q * 4)) = some (.int .i64 r0)) := ⟨Z5.out⟩
          replace HBr := Aside0.mk (below_drew HBr.out)
          replace HXr := Aside0.mk (blk_drew HXr.out)
          replace HGr := Aside0.mk (blk_drew HGr.out)
          replace HVr := Aside0.mk (Kd.V_drew HVr.out)
          replace HV' := Aside0.mk (Kd.V_drew HV'.out)
          refine start_ (n := 31) (S := fun w' => w'.cell? ⟨gb, 0, none⟩ = some (.slice (some ad) l.length c') ∧ w'.cell? ⟨gb, 1, none⟩ = some (.int .i64 kp) ∧ w'.cell? ⟨w.heap.size, 0, none⟩ = some (.slice (some ax) l.length c) ∧ w'.cell? ⟨w.heap.size, 1, none⟩ = some (.int .i64 kp) ∧ w'.cell? (ad.add (q * 4)) = some (.int .i64 (r0 + (j : Int))) ∧ w'.cell? (ax.add (q * 4)) = some (.int .i64 r0)) (ds := []) #[false, false, false, false, false, false, false, false, false, false, false, false, false, false, false, false, false, false, false, false, false, false, false, false, false, false, false, false, false, false, false] (by kernel_rfl) rfl rfl ⟨Z0.out, Z1.out, Z2.out, Z3.out, Z4.out, Z5.out⟩ (fun hHeld => ?_)
          refine with_tabW hHolds.tab12 hHolds.bits12 (fun HT_ HW_ => ?_)
          generalize wr.drew = wdr12 at Z0 Z1 Z2 Z3 Z4 Z5 HBr HXr HGr HVr HV' hHeld ⊢
          refine pure_ (i := 0) (N := some 43) (v := ?_) (a' := ?_) #[true, false, false, false, false, false, false, false, false, false, false, false, false, false, false, false, false, false, false, false, false, false, false, false, false, false, false, false, false, false, false] rfl rfl (any_of HT_.out (by kernel_rfl)) (fun _ _ _ h => h) (Or.inl ⟨by rfl, ?_⟩) ?_ ?_
          rotate_left
          · intro w'
            go_simp
            with_reducible rfl
          rotate_left
          · simp only [Act.put, List.setIfInBounds_toArray, List.set_cons_zero, List.set_cons_succ, i64_w, i32_w]
            rfl
          refine take_ (i := 1) (N := some 44) (v := ?_) (a' := ?_) #[true, true, false, false, false, false, false, false, false, false, false, false, false, false, false, false, false, false, false, false, false, false, false, false, false, false, false, false, false, false, false] rfl rfl (take_ofW HT_.out HW_.out (by kernel_rfl)) (fun _ _ _ h => h) (Or.inl ⟨by rfl, ?_⟩) hHeld ?_ ?_
          rotate_left
          · rintro w' ⟨s0, s1, s2, s3, s4, s5⟩
            go_simp
            with_reducible rfl
          rotate_left
          · simp only [Act.put, List.setIfInBounds_toArray, List.set_cons_zero, List.set_cons_succ, i64_w, i32_w]
            rfl
          refine pure_ (i := 2) (N := some 45) (v := ?_) (a' := ?_) #[true, true, true, false, false, false, false, false, false, false, false, false, false, false, false, false, false, false, false, false, false, false, false, false, false, false, false, false, false, false, false] rfl rfl (any_of HT_.out (by kernel_rfl)) (fun _ _ _ h => h) (Or.inl ⟨by rfl, ?_⟩) ?_ ?_
          rotate_left
          · intro w'
            go_simp
            with_reducible rfl
          rotate_left
          · simp only [Act.put, List.setIfInBounds_toArray, List.set_cons_zero, List.set_cons_succ, i64_w, i32_w]
            rfl
          refine pure_ (i := 3) (N := some 46) (v := ?_) (a' := ?_) #[true, true, true, true, false, false, false, false, false, false, false, false, false, false, false, false, false, false, false, false, false, false, false, false, false, false, false, false, false, false, false] rfl rfl (any_of HT_.out (by kernel_rfl)) (fun _ _ _ h => h) (Or.inl ⟨by rfl, ?_⟩) ?_ ?_
          rotate_left
          · intro w'
            go_simp
            with_reducible rfl
          rotate_left
          · simp only [Act.put, List.setIfInBounds_toArray, List.set_cons_zero, List.set_cons_succ, i64_w, i32_w]
            rfl
          refine take_ (i := 4) (N := some 47) (v := ?_) (a' := ?_) #[true, true, true, true, true, false, false, false, false, false, false, false, false, false, false, false, false, false, false, false, false, false, false, false, false, false, false, false, false, false, false] rfl rfl (take_ofW HT_.out HW_.out (by kernel_rfl)) (fun _ _ _ h => h) (Or.inl ⟨by rfl, ?_⟩) hHeld ?_ ?_
          rotate_left
          · rintro w' ⟨s0, s1, s2, s3, s4, s5⟩
            go_simp
            with_reducible rfl
          rotate_left
          · simp only [Act.put, List.setIfInBounds_toArray, List.set_cons_zero, List.set_cons_succ, i64_w, i32_w]
            rfl
          refine pure_ (i := 5) (N := some 48) (v := ?_) (a' := ?_) #[true, true, true, true, true, true, false, false, false, false, false, false, false, false, false, false, false, false, false, false, false, false, false, false, false, false, false, false, false, false, false] rfl rfl (any_of HT_.out (by kernel_rfl)) (fun _ _ _ h => h) (Or.inl ⟨by rfl, ?_⟩) ?_ ?_
          rotate_left
          · intro w'
            go_simp
            with_reducible rfl
          rotate_left
          · simp only [Act.put, List.setIfInBounds_toArray, List.set_cons_zero, List.set_cons_succ, i64_w, i32_w]
            rfl
          refine pure_ (i := 6) (N := some 49) (v := ?_) (a' := ?_) #[true, true, true, true, true, true, true, false, false, false, false, false, false, false, false, false, false, false, false, false, false, false, false, false, false, false, false, false, false, false, false] rfl rfl (any_of HT_.out (by kernel_rfl)) (fun _ _ _ h => h) (Or.inl ⟨by rfl, ?_⟩) ?_ ?_
          rotate_left
          · intro w'
            go_simp
            with_reducible rfl
          rotate_left
          · simp only [Act.put, List.setIfInBounds_toArray, List.set_cons_zero, List.set_cons_succ, i64_w, i32_w]
            rfl
          refine pure_ (i := 7) (N := some 50) (v := ?_) (a' := ?_) #[true, true, true, true, true, true, true, true, false, false, false, false, false, false, false, false, false, false, false, false, false, false, false, false, false, false, false, false, false, false, false] rfl rfl (any_of HT_.out (by kernel_rfl)) (fun _ _ _ h => h) (Or.inl ⟨by rfl, ?_⟩) ?_ ?_
          rotate_left
          · intro w'
            go_simp
            with_reducible rfl
          rotate_left
          · simp only [Act.put, List.setIfInBounds_toArray, List.set_cons_zero, List.set_cons_succ, i64_w, i32_w]
            rfl
          refine pure_ (i := 8) (N := some 51) (v := ?_) (a' := ?_) #[true, true, true, true, true, true, true, true, true, false, false, false, false, false, false, false, false, false, false, false, false, false, false, false, false, false, false, false, false, false, false] rfl rfl (any_of HT_.out (by kernel_rfl)) (fun _ _ _ h => h) (Or.inl ⟨by rfl, ?_⟩) ?_ ?_
          rotate_left
          · intro w'
            go_simp
            with_reducible rfl
          rotate_left
          · simp only [Act.put, List.setIfInBounds_toArray, List.set_cons_zero, List.set_cons_succ, i64_w, i32_w]
            rfl
          refine take_ (i := 9) (N := some 52) (v := ?_) (a' := ?_) #[true, true, true, true, true, true, true, true, true, true, false, false, false, false, false, false, false, false, false, false, false, false, false, false, false, false, false, false, false, false, false] rfl rfl (take_ofW HT_.out HW_.out (by kernel_rfl)) (fun _ _ _ h => h) (Or.inl ⟨by rfl, ?_⟩) hHeld ?_ ?_
          rotate_left
          · rintro w' ⟨s0, s1, s2, s3, s4, s5⟩
            go_simp
            with_reducible rfl
          rotate_left
          · simp only [Act.put, List.setIfInBounds_toArray, List.set_cons_zero, List.set_cons_succ, i64_w, i32_w]
            rfl
          refine pure_ (i := 10) (N := some 53) (v := ?_) (a' := ?_) #[true, true, true, true, true, true, true, true, true, true, true, false, false, false, false, false, false, false, false, false, false, false, false, false, false, false, false, false, false, false, false] rfl rfl (any_of HT_.out (by kernel_rfl)) (fun _ _ _ h => h) (Or.inl ⟨by rfl, ?_⟩) ?_ ?_
          rotate_left
          · intro w'
            go_simp
            with_reducible rfl
          rotate_left
          · simp only [Act.put, List.setIfInBounds_toArray, List.set_cons_zero, List.set_cons_succ, i64_w, i32_w]
            rfl
          refine pure_ (i := 11) (N := some 54) (v := ?_) (a' := ?_) #[true, true, true, true, true, true, true, true, true, true, true, true, false, false, false, false, false, false, false, false, false, false, false, false, false, false, false, false, false, false, false] rfl rfl (any_of HT_.out (by kernel_rfl)) (fun _ _ _ h => h) (Or.inl ⟨by rfl, ?_⟩) ?_ ?_
          rotate_left
          · intro w'
            go_simp
            with_reducible rfl
          rotate_left
          · simp only [Act.put, List.setIfInBounds_toArray, List.set_cons_zero, List.set_cons_succ, i64_w, i32_w]
            rfl
          refine pure_ (i := 12) (N := some 55) (v := ?_) (a' := ?_) #[true, true, true, true, true, true, true, true, true, true, true, true, true, false, false, false, false, false, false, false, false, false, false, false, false, false, false, false, false, false, false] rfl rfl (any_of HT_.out (by kernel_rfl)) (fun _ _ _ h => h) (Or.inl ⟨by rfl, ?_⟩) ?_ ?_
          rotate_left
          · intro w'
            go_simp
            with_reducible rfl
          rotate_left
          · simp only [Act.put, List.setIfInBounds_toArray, List.set_cons_zero, List.set_cons_succ, i64_w, i32_w]
            rfl
          refine take_ (i := 13) (N := some 56) (v := ?_) (a' := ?_) #[true, true, true, true, true, true, true, true, true, true, true, true, true, true, false, false, false, false, false, false, false, false, false, false, false, false, false, false, false, false, false] rfl rfl (take_ofW HT_.out HW_.out (by kernel_rfl)) (fun _ _ _ h => h) (Or.inl ⟨by rfl, ?_⟩) hHeld ?_ ?_
          rotate_left
          · rintro w' ⟨s0, s1, s2, s3, s4, s5⟩
            go_simp
            with_reducible rfl
          rotate_left
          · simp only [Act.put, List.setIfInBounds_toArray, List.set_cons_zero, List.set_cons_succ, i64_w, i32_w]
            rfl
          refine pure_ (i := 14) (N := some 57) (v := ?_) (a' := ?_) #[true, true, true, true, true, true, true, true, true, true, true, true, true, true, true, false, false, false, false, false, false, false, false, false, false, false, false, false, false, false, false] rfl rfl (any_of HT_.out (by kernel_rfl)) (fun _ _ _ h => h) (Or.inl ⟨by rfl, ?_⟩) ?_ ?_
          rotate_left
          · intro w'
            go_simp
            with_reducible rfl
          rotate_left
          · simp only [Act.put, List.setIfInBounds_toArray, List.set_cons_zero, List.set_cons_succ, i64_w, i32_w]
            rfl
          refine take_ (i := 15) (N := some 58) (v := ?_) (a' := ?_) #[true, true, true, true, true, true, true, true, true, true, true, true, true, true, true, true, false, false, false, false, false, false, false, false, false, false, false, false, false, false, false] rfl rfl (take_ofW HT_.out HW_.out (by kernel_rfl)) (fun _ _ _ h => h) (Or.inl ⟨by rfl, ?_⟩) hHeld ?_ ?_
          rotate_left
          · rintro w' ⟨s0, s1, s2, s3, s4, s5⟩
            go_simp
            with_reducible rfl
          rotate_left
          · simp only [Act.put, List.setIfInBounds_toArray, List.set_cons_zero, List.set_cons_succ, i64_w, i32_w]
            rfl
          refine pure_ (i := 16) (N := some 59) (v := ?_) (a' := ?_) #[true, true, true, true, true, true, true, true, true, true, true, true, true, true, true, true, true, false, false, false, false, false, false, false, false, false, false, false, false, false, false] rfl rfl (any_of HT_.out (by kernel_rfl)) (fun _ _ _ h => h) (Or.inl ⟨by rfl, ?_⟩) ?_ ?_
          rotate_left
          · intro w'
            go_simp
            with_reducible rfl
          rotate_left
          · simp only [Act.put, List.setIfInBounds_toArray, List.set_cons_zero, List.set_cons_succ, i64_w, i32_w]
            rfl
          refine pure_ (i := 17) (N := some 60) (v := ?_) (a' := ?_) #[true, true, true, true, true, true, true, true, true, true, true, true, true, true, true, true, true, true, false, false, false, false, false, false, false, false, false, false, false, false, false] rfl rfl (any_of HT_.out (by kernel_rfl)) (fun _ _ _ h => h) (Or.inl ⟨by rfl, ?_⟩) ?_ ?_
          rotate_left
          · intro w'
            go_simp
            with_reducible rfl
          rotate_left
          · simp only [Act.put, List.setIfInBounds_toArray, List.set_cons_zero, List.set_cons_succ, i64_w, i32_w]
            rfl
          refine pure_ (i := 18) (N := some 61) (v := ?_) (a' := ?_) #[true, true, true, true, true, true, true, true, true, true, true, true, true, true, true, true, true, true, true, false, false, false, false, false, false, false, false, false, false, false, false] rfl rfl (any_of HT_.out (by kernel_rfl)) (fun _ _ _ h => h) (Or.inl ⟨by rfl, ?_⟩) ?_ ?_
          rotate_left
          · intro w'
            go_simp
            with_reducible rfl
          rotate_left
          · simp only [Act.put, List.setIfInBounds_toArray, List.set_cons_zero, List.set_cons_succ, i64_w, i32_w]
            rfl
          refine take_ (i := 19) (N := some 62) (v := ?_) (a' := ?_) #[true, true, true, true, true, true, true, true, true, true, true, true, true, true, true, true, true, true, true, true, false, false, false, false, false, false, false, false, false, false, false] rfl rfl (take_ofW HT_.out HW_.out (by kernel_rfl)) (fun _ _ _ h => h) (Or.inl ⟨by rfl, ?_⟩) hHeld ?_ ?_
          rotate_left
          · rintro w' ⟨s0, s1, s2, s3, s4, s5⟩
            go_simp
            with_reducible rfl
          rotate_left
          · simp only [Act.put, List.setIfInBounds_toArray, List.set_cons_zero, List.set_cons_succ, i64_w, i32_w]
            rfl
          refine pure_ (i := 20) (N := some 63) (v := ?_) (a' := ?_) #[true, true, true, true, true, true, true, true, true, true, true, true, true, true, true, true, true, true, true, true, true, false, false, false, false, false, false, false, false, false, false] rfl rfl (any_of HT_.out (by kernel_rfl)) (fun _ _ _ h => h) (Or.inl ⟨by rfl, ?_⟩) ?_ ?_
          rotate_left
          · intro w'
            go_simp
            with_reducible rfl
          rotate_left
          · simp only [Act.put, List.setIfInBounds_toArray, List.set_cons_zero, List.set_cons_succ, i64_w, i32_w]
            rfl
          refine pure_ (i := 21) (N := some 64) (v := ?_) (a' := ?_) #[true, true, true, true, true, true, true, true, true, true, true, true, true, true, true, true, true, true, true, true, true, true, false, false, false, false, false, false, false, false, false] rfl rfl (any_of HT_.out (by kernel_rfl)) (fun _ _ _ h => h) (Or.inl ⟨by rfl, ?_⟩) ?_ ?_
          rotate_left
          · intro w'
            go_simp
            with_reducible rfl
          rotate_left
          · simp only [Act.put, List.setIfInBounds_toArray, List.set_cons_zero, List.set_cons_succ, i64_w, i32_w]
            rfl
          refine pure_ (i := 22) (N := some 65) (v := ?_) (a' := ?_) #[true, true, true, true, true, true, true, true, true, true, true, true, true, true, true, true, true, true, true, true, true, true, true, false, false, false, false, false, false, false, false] rfl rfl (any_of HT_.out (by kernel_rfl)) (fun _ _ _ h => h) (Or.inl ⟨by rfl, ?_⟩) ?_ ?_
          rotate_left
          · intro w'
            go_simp
            with_reducible rfl
          rotate_left
          · simp only [Act.put, List.setIfInBounds_toArray, List.set_cons_zero, List.set_cons_succ, i64_w, i32_w]
            rfl
          refine pure_ (i := 23) (N := some 66) (v := ?_) (a' := ?_) #[true, true, true, true, true, true, true, true, true, true, true, true, true, true, true, true, true, true, true, true, true, true, true, true, false, false, false, false, false, false, false] rfl rfl (any_of HT_.out (by kernel_rfl)) (fun _ _ _ h => h) (Or.inl ⟨by rfl, ?_⟩) ?_ ?_
          rotate_left
          · intro w'
            go_simp
            with_reducible rfl
          rotate_left
          · simp only [Act.put, List.setIfInBounds_toArray, List.set_cons_zero, List.set_cons_succ, i64_w, i32_w]
            rfl
          refine pure_ (i := 24) (N := some 67) (v := ?_) (a' := ?_) #[true, true, true, true, true, true, true, true, true, true, true, true, true, true, true, true, true, true, true, true, true, true, true, true, true, false, false, false, false, false, false] rfl rfl (any_of HT_.out (by kernel_rfl)) (fun _ _ _ h => h) (Or.inl ⟨by rfl, ?_⟩) ?_ ?_
          rotate_left
          · intro w'
            go_simp
            with_reducible rfl
          rotate_left
          · simp only [Act.put, List.setIfInBounds_toArray, List.set_cons_zero, List.set_cons_succ, i64_w, i32_w]
            rfl
          rw [HNE.out]
          refine pure_ (i := 25) (N := some 68) (v := ?_) (a' := ?_) #[true, true, true, true, true, true, true, true, true, true, true, true, true, true, true, true, true, true, true, true, true, true, true, true, true, true, false, false, false, false, false] rfl rfl (any_of HT_.out (by kernel_rfl)) (fun _ _ _ h => h) (Or.inl ⟨by rfl, ?_⟩) ?_ ?_
          rotate_left
          · intro w'
            go_simp
            with_reducible rfl
          rotate_left
          · simp only [Act.put, List.setIfInBounds_toArray, List.set_cons_zero, List.set_cons_succ, i64_w, i32_w]
            rfl
          refine pure_ (i := 26) (N := some 69) (v := ?_) (a' := ?_) #[true, true, true, true, true, true, true, true, true, true, true, true, true, true, true, true, true, true, true, true, true, true, true, true, true, true, true, false, false, false, false] rfl rfl (any_of HT_.out (by kernel_rfl)) (fun _ _ _ h => h) (Or.inl ⟨by rfl, ?_⟩) ?_ ?_
          rotate_left
          · intro w'
            go_simp
            with_reducible rfl
          rotate_left
          · simp only [Act.put, List.setIfInBounds_toArray, List.set_cons_zero, List.set_cons_succ, i64_w, i32_w]
            rfl
          refine take_ (i := 27) (N := some 70) (v := ?_) (a' := ?_) #[true, true, true, true, true, true, true, true, true, true, true, true, true, true, true, true, true, true, true, true, true, true, true, true, true, true, true, true, false, false, false] rfl rfl (take_ofW HT_.out HW_.out (by kernel_rfl)) (fun _ _ _ h => h) (Or.inl ⟨by rfl, ?_⟩) hHeld ?_ ?_
          rotate_left
          · rintro w' ⟨s0, s1, s2, s3, s4, s5⟩
            go_simp
            with_reducible rfl
          rotate_left
          · simp only [Act.put, List.setIfInBounds_toArray, List.set_cons_zero, List.set_cons_succ, i64_w, i32_w]
            rfl
          refine one_ (i := 28) (N := some 71) #[true, true, true, true, true, true, true, true, true, true, true, true, true, true, true, true, true, true, true, true, true, true, true, true, true, true, true, true, true, false, false] rfl rfl (one_of HT_.out (by kernel_rfl)) (by decide) (fun K hK => ?_)
          refine goes_ Try.func32 (by kernel_rfl) rfl #[.agg #[.slice (some ad) l.length c', .int .i64 kp]] (by rfl) rfl rfl (by (try simp only [List.map_toArray, List.map_cons, List.map_nil]); first | done | rfl | (simp only [List.length_drop, List.length_take]; rfl)) ?_
          have HCT := assartref05_Right.calls 10000 (some ad) c' lj kp true _ (Kd.V_reads' HV'.out).2.2 (Kd.V_reads' HV'.out).2.1 (by rw [right05_val lj kp 10000 (.inl (by omega)), decide_eq_true hrt.out])
          rw [hlen] at HCT
          with_reducible refine (HCT).mono ?_
          rintro e wcr28 ⟨rfl, hb⟩
          refine ⟨_, rfl, ?_⟩
          replace Z0 : Aside0 (wcr28.cell? ⟨gb, 0, none⟩ = some (.slice (some ad) l.length c')) := ⟨(hb.cell (World.block_lt_of_cell? wdr12 _ Z0.out)).trans Z0.out⟩
          replace Z1 : Aside0 (wcr28.cell? ⟨gb, 1, none⟩ = some (.int .i64 kp)) := ⟨(hb.cell (World.block_lt_of_cell? wdr12 _ Z1.out)).trans Z1.out⟩
          replace Z2 : Aside0 (wcr28.cell? ⟨w.heap.size, 0, none⟩ = some (.slice (some ax) l.length c)) := ⟨(hb.cell (World.block_lt_of_cell? wdr12 _ Z2.out)).trans Z2.out⟩
          replace Z3 : Aside0 (wcr28.cell? ⟨w.heap.size, 1, none⟩ = some (.int .i64 kp)) := ⟨(hb.cell (World.block_lt_of_cell? wdr12 _ Z3.out)).trans Z3.out⟩
          replace Z4 : Aside0 (wcr28.cell? (ad.add (q * 4)) = some (.int .i64 (r0 + (j : Int)))) := ⟨(hb.cell (World.block_lt_of_cell? wdr12 _ Z4.out)).trans Z4.out⟩
          replace Z5 : Aside0 (wcr28.cell? (ax.add (q * 4)) = some (.int .i64 r0)) := ⟨(hb.cell (World.block_lt_of_cell? wdr12 _ Z5.out)).trans Z5.out⟩
          replace HBr := Aside0.mk (HBr.out.trans (hb.mono HBr.out.size))
          replace HXr := Aside0.mk (blk_below HXr.out hb)
          replace HGr := Aside0.mk (blk_below HGr.out hb)
          replace HVr := Aside0.mk (Kd.V_below HVr.out hb)
          replace HV' := Aside0.mk (Kd.V_below HV'.out hb)
          clear hb hHeld
          refine hK.out _ _ ⟨Z0.out, Z1.out, Z2.out, Z3.out, Z4.out, Z5.out⟩ (fun hHeld => ?_)
          clear hK K
          refine norm_ (a' := ?_) ?_ ?_
          rotate_left
          · show Act.put _ (some 71) _ = _
            simp only [Act.put, List.setIfInBounds_toArray, List.set_cons_zero, List.set_cons_succ, i64_w, i32_w]
            rfl
          refine pure_ (i := 29) (N := some 72) (v := ?_) (a' := ?_) #[true, true, true, true, true, true, true, true, true, true, true, true, true, true, true, true, true, true, true, true, true, true, true, true, true, true, true, true, true, true, false] rfl rfl (any_of HT_.out (by kernel_rfl)) (fun _ _ _ h => h) (Or.inl ⟨by rfl, ?_⟩) ?_ ?_
          rotate_left
          · intro w'
            go_simp
            with_reducible rfl
          rotate_left
          · simp only [Act.put, List.setIfInBounds_toArray, List.set_cons_zero, List.set_cons_succ, i64_w, i32_w]
            rfl
          refine pure_ (i := 30) (N := some 73) (v := ?_) (a' := ?_) #[true, true, true, true, true, true, true, true, true, true, true, true, true, true, true, true, true, true, true, true, true, true, true, true, true, true, true, true, true, true, true] rfl rfl (any_of HT_.out (by kernel_rfl)) (fun _ _ _ h => h) (Or.inl ⟨by rfl, ?_⟩) ?_ ?_
          rotate_left
          · intro w'
            go_simp
            with_reducible rfl
          rotate_left
          · simp only [Act.put, List.setIfInBounds_toArray, List.set_cons_zero, List.set_cons_succ, i64_w, i32_w]
            rfl
          refine done_ (done_of HT_.out (by kernel_rfl)) ?_
          clear hHeld HT_ HW_
          clear Z0 Z1 Z2 Z3 Z4 Z5
          go_wp2
          rw [hm]
          go_loopg [12] j (fun kx s wr => ∃ (i : Nat) (A' : Option Addr) (c' : Nat), s = .int .i64 i ∧ i ≤ j ∧ j - i ≤ kx ∧ Aside0 (Below w.heap.size w wr) ∧ Aside0 (wr.heap[w.heap.size]? = some (.cells #[.slice (some ax) l.length c, .int .i64 kp] 24 (0, 0))) ∧ Aside0 (wr.heap[gb]? = some (.cells #[.slice A' (heldN l q (j - i)).length c', .int .i64 kp] 24 (0, 0))) ∧ Aside0 (Kd.V k55 55 wr 0 (fun k => k ≠ gb) (.slice (some ax) l.length c) l) ∧ Aside0 (Kd.V k55 55 wr 0 (fun k => k ≠ gb) (.slice A' (heldN l q (j - i)).length c') (heldN l q (j - i))))
          case atStart => exact ⟨0, some ad, c', rfl, Nat.zero_le _, by omega, HBr, HXr, ⟨by rw [Nat.sub_zero, hlj]; exact HGr.out⟩, HVr, ⟨by rw [Nat.sub_zero, hlj]; exact HV'.out⟩⟩
          case round =>
            clear HBr HXr HGr HVr HV' hrt
            obtain ⟨i, A', c', rfl, hi, hgk, HBr, HXr, HGr, HVr, HV'⟩ := hrel
            by_cases hlt : i < j
            · have hf := Aside0.mk (loose_heldN l kp q (j - i - 1) hq (by omega) (by omega) (by omega) (by omega))
              rw [show j - i - 1 + 1 = j - i by omega] at hf
              obtain ⟨lk, hlk⟩ : ∃ lk, heldN l q (j - i) = lk := ⟨_, rfl⟩
              rw [hlk] at HGr HV' hf
              have g0 : wr.cell? ⟨gb, 0, none⟩ = some (.slice A' lk.length c') := (blk_cell HGr.out 0).trans rfl
              have g1 : wr.cell? ⟨gb, 1, none⟩ = some (.int .i64 kp) := (blk_cell HGr.out 1).trans rfl
              have hc2 : decide ((i : Int) < (j : Int)) = true := decide_eq_true (by omega)
              go_wp2_with fail
              clear g0 g1
              refine (heap_Loose.calls (fun k => k ≠ gb) A' c' lk kp q _ kp 0 wr (V_base HV'.out) hf.out).mono ?_
              rintro e w4 ⟨v4, rfl, hv, hb⟩
              obtain ⟨A4, c4, ev⟩ := Kd.V_slice hv
              subst ev
              have hgr : gb < wr.heap.size := blk_lt HGr.out
              have hg4 : gb < w4.heap.size := Nat.lt_of_lt_of_le hgr hb.size
              have HG4 := Aside0.mk (blk_below HGr.out hb)
              have HX4 := Aside0.mk (blk_below HXr.out hb)
              have HB4 := Aside0.mk (HBr.out.trans (hb.mono HBr.out.size))
              have HVh := Aside0.mk (Kd.V_below HVr.out hb)
              have HVg : Aside0 (Kd.V k55 55 w4 0 (fun k => k ≠ gb) (.slice A4 (heldN l q (j - i - 1)).length c4) (heldN l q (j - i - 1))) := ⟨V_base (Kd.V_mono hv (fun k hk => by omega))⟩
              have g0 : w4.cell? ⟨gb, 0, none⟩ = some (.slice A' lk.length c') := (blk_cell HG4.out 0).trans rfl
              have g1 : w4.cell? ⟨gb, 1, none⟩ = some (.int .i64 kp) := (blk_cell HG4.out 1).trans rfl
              have g2 := blk_frozen HG4.out 0
              have g3 := blk_frozen HG4.out 1
              clear hv hb hgr HBr HXr HGr HVr HV' hf
              go_wp2_with fail
              go_roundg (j - (i + 1))
              case measure => omega
              case rel =>
                refine ⟨i + 1, A4, c4, by simp, by omega, Nat.le_refl _, ⟨below_alloc (below_set (below_set HB4.out (Nat.le_of_lt hne)) (Nat.le_of_lt hne)) _⟩, ⟨blk_alloc (blk_far (blk_far HX4.out (Nat.ne_of_lt hne) _) (Nat.ne_of_lt hne) _) _⟩, ⟨?_⟩, ⟨Kd.V_alloc (Kd.V_far (Kd.V_far HVh.out (fun k hk => hk) _) (fun k hk => hk) _) _⟩, ⟨?_⟩⟩
                · rw [show j - (i + 1) = j - i - 1 by omega]
                  exact blk_alloc (blk_put (blk_put HG4.out 0 _ rfl) 1 _ rfl) _
                · rw [show j - (i + 1) = j - i - 1 by omega]
                  exact Kd.V_alloc (Kd.V_far (Kd.V_far HVg.out (fun k hk => hk) _) (fun k hk => hk) _) _
            · obtain rfl : i = j := by omega
              rw [Nat.sub_self, heldN_zero hq] at HGr HV'
              have hc2 : decide ((i : Int) < (i : Int)) = false := decide_eq_false (by omega)
              have g0 : wr.cell? ⟨gb, 0, none⟩ = some (.slice A' l.length c') := (blk_cell HGr.out 0).trans rfl
              have g1 : wr.cell? ⟨gb, 1, none⟩ = some (.int .i64 kp) := (blk_cell HGr.out 1).trans rfl
              have x0 : wr.cell? ⟨w.heap.size, 0, none⟩ = some (.slice (some ax) l.length c) := (blk_cell HXr.out 0).trans rfl
              have x1 : wr.cell? ⟨w.heap.size, 1, none⟩ = some (.int .i64 kp) := (blk_cell HXr.out 1).trans rfl
              go_wp2_with fail
              clear g0 g1 x0 x1
              have hi1 := fun x hx => (small_items h1.2.1 x hx).1
              refine (assartref05_Same.calls 10000 A' c' l kp (some ax) c l kp true wr (Kd.V_reads' HV'.out).2.2 (Kd.V_reads' HV'.out).2.1 (Kd.V_reads' HVr.out).2.2 (Kd.V_reads' HVr.out).2.1 (by rw [refSame_val l l kp kp (by omega) (fun x hx => by have := hi1 x hx; omega) (by omega)]; simp)).mono ?_
              rintro e w4 ⟨rfl, hb⟩
              have HB4 := Aside0.mk (HBr.out.trans (hb.mono HBr.out.size))
              clear hb
              go_wp2
              go_ret
              exact ⟨rfl, HB4.out⟩
    · rw [Bool.not_eq_true] at h2
      rw [h2]
      go_wp2
      go_ret
      exact ⟨rfl, HB3.out⟩
  · rw [decide_eq_false h1]
    go_wp2
    go_ret
    exact ⟨rfl, HB2.out⟩
end Go.Proofs.Yteiladccdenpbaa.P
end
section
namespace Go.Proofs.Yteiladccdenpbaa.P
open Go.RowKit Go.Proofs.YteiladccdenpbaaW.PrintWords Go.Proofs.YteiladccdenpbaaW.PrintLast Go.Proofs.YteiladccdenpbaaW.PrintMore
set_option linter.unusedVariables false
set_option linter.unusedSimpArgs false
structure Opens {α : Type} (P : Program) (t : TypeId) (d : Kd α) (ok : α → Prop) : Prop where
  sz : P.cellsOf t = d.sz
  op : ∀ {H : Type} {enc : TypeId × Value → H} {W : World} {base : Nat} {spare : Nat → Bool} {held : Bool} {fuel : Nat} {cs : List Value} {y : DataW H × List MemPlace}, DataW.trod enc P W base spare held fuel t cs = some y → (DataW.weights P t y.1).all (· ≤ reachBytes) = true → ∃ x, d.K W x cs ∧ ok x
theorem Opens.int {P : Program} {t : TypeId} {k : IntKind} (h : P.underlying t = some (.int k)) (hs : P.cellsOf t = 1) : Opens P t (Kd.int k) (fun n => (Lit.int k n).wf = true) :=
  ⟨hs, fun hy _ => by
    obtain ⟨n, rfl, _, hw⟩ := DataW.trod_int h hy
    exact ⟨n, rfl, hw⟩⟩
theorem Opens.bool {P : Program} {t : TypeId} (h : P.underlying t = some .bool) (hs : P.cellsOf t = 1) : Opens P t Kd.bool (fun _ => True) :=
  ⟨hs, fun hy _ => by
    obtain ⟨b, rfl, _⟩ := DataW.trod_bool h hy
    exact ⟨b, rfl, trivial⟩⟩
theorem choose_row {α : Type} {R : Nat → α → Prop} : ∀ n, (∀ i, i < n → ∃ x, R i x) → ∃ xs : List α, xs.length = n ∧ ∀ i x, xs[i]? = some x → R i x
  | 0, _ => ⟨[], rfl, fun i x h => by simp at h⟩
  | n + 1, h => by
    obtain ⟨xs, hl, hx⟩ := choose_row n (fun i hi => h i (by omega))
    obtain ⟨x, hr⟩ := h n (by omega)
    refine ⟨xs ++ [x], by simp [hl], fun i z hz => ?_⟩
    by_cases hi : i < n
    · rw [List.getElem?_append_left (by omega)] at hz
      exact hx i z hz
    · rw [List.getElem?_append_right (by omega)] at hz
      have : i - xs.length = 0 := by
        rcases Nat.eq_zero_or_pos (i - xs.length) with h0 | h0
        · exact h0
        · rw [List.getElem?_eq_none (by simp; omega)] at hz; cases hz
      rw [this] at hz
      simp at hz
      subst hz
      have : i = n := by omega
      rw [this]; exact hr
theorem weightsAll_mem {H : Type} {P : Program} {e : TypeId} : ∀ {ds : List (DataW H)}, (DataW.weightsAll P e ds).all (· ≤ reachBytes) = true → ∀ d ∈ ds, (DataW.weights P e d).all (· ≤ reachBytes) = true
  | [], _, d, hd => by cases hd
  | a :: ds, h, d, hd => by
    simp only [DataW.weightsAll, List.all_append, Bool.and_eq_true] at h
    rcases List.mem_cons.1 hd with rfl | hd
    · exact h.1
    · exact weightsAll_mem h.2 d hd
theorem Opens.slice {α : Type} {P : Program} {t e : TypeId} {d : Kd α} {ok : α → Prop} {B : Nat} (h : P.underlying t = some (.slice e)) (hs : P.cellsOf t = 1) (hB : P.bytesOf e = B) (he : Opens P e d ok) : Opens P t (Kd.slice e d) (fun xs => xs.length * B ≤ 140737488351232 ∧ ∀ x ∈ xs, ok x) :=
  ⟨hs, fun {H enc W base spare held fuel cs y} hy hw => by
    rcases DataW.trod_slice h hy with ⟨rfl, rfl⟩ | ⟨a, len, cap, elems, rest, n, rfl, rfl, rfl, hb, hl, hc, hel, hi, _, _⟩
    · exact ⟨[], ⟨none, 0, rfl, Nat.le_refl _, Kd.C_nil _ _⟩, by simp⟩
    · unfold DataW.weights at hw
      rw [h] at hw
      simp only [List.all_cons, List.all_append, Bool.and_eq_true, decide_eq_true_eq, hB, List.length_map] at hw
      obtain ⟨hw0, hw1, _⟩ := hw
      have hx : ∀ i, i < len → ∃ x, ok x ∧ ∃ c, c.length = d.sz ∧ d.K W x c ∧ W.cells? base (a.add (i * d.sz)) d.sz = some c := by
        intro i hlt
        have h1 := hi i hlt
        rw [List.getElem?_eq_getElem (by omega)] at h1
        obtain ⟨c, hc1, hc2⟩ := Option.bind_eq_some_iff.1 h1
        obtain ⟨x, hK, hok⟩ := he.op hc2 (weightsAll_mem hw1 _ (List.mem_map_of_mem (List.getElem_mem _)))
        rw [he.sz] at hc1
        exact ⟨x, hok, c, d.K_len hK, hK, hc1⟩
      obtain ⟨xs, hxl, hxs⟩ := choose_row len hx
      refine ⟨xs, ⟨some a, cap, by rw [hxl], by omega, rfl, ?_, fun hpos => ⟨a, rfl, fun j p hj => ?_⟩⟩, ?_, ?_⟩
      · simp only [maxLen] at hc; omega
      · obtain ⟨_, c, hcl, hK, hcc⟩ := hxs j p hj
        refine ⟨c, hcl, hK, fun i u hu => ?_⟩
        obtain ⟨_, _, hcell⟩ := World.cells?_some hcc
        have hi : i < d.sz := by rw [← hcl]; exact (List.getElem?_eq_some_iff.1 hu).1
        have := hcell i hi
        rw [Addr.add_add] at this
        rw [this, hu]
      · rw [hxl, ← hel]
        refine Nat.le_trans (Nat.mul_le_mul_right _ (Nat.le_add_right _ _)) hw0
      · intro x hx
        obtain ⟨i, hlt, rfl⟩ := List.getElem_of_mem hx
        exact (hxs i _ (List.getElem?_eq_getElem hlt)).1⟩
theorem weights_at {H : Type} {P : Program} : ∀ {ts : List TypeId} {ds : List (DataW H)} {j : Nat} {t : TypeId} {d : DataW H}, (DataW.weightsEach P ts ds).all (· ≤ reachBytes) = true → ts[j]? = some t → ds[j]? = some d → (DataW.weights P t d).all (· ≤ reachBytes) = true
  | [], _, _, _, _, _, ht, _ => by simp at ht
  | _ :: _, [], _, _, _, _, _, hd => by simp at hd
  | t0 :: ts, d0 :: ds, 0, _, _, h, ht, hd => by
    simp only [List.getElem?_cons_zero, Option.some.injEq] at ht hd
    subst ht; subst hd
    simp only [DataW.weightsEach, List.all_append, Bool.and_eq_true] at h
    exact h.1
  | t0 :: ts, d0 :: ds, j + 1, _, _, h, ht, hd => by
    simp only [List.getElem?_cons_succ] at ht hd
    simp only [DataW.weightsEach, List.all_append, Bool.and_eq_true] at h
    exact weights_at h.2 ht hd
structure OpensFs {α : Type} (P : Program) (fs : List Field) (off : Nat) (d : Kd α) (ok : α → Prop) : Prop where
  op : ∀ {H : Type} {enc : TypeId × Value → H} {W : World} {base : Nat} {spare : Nat → Bool} {held : Bool} {fuel : Nat} {cs : List Value} {ys : List (DataW H × List MemPlace)},
    (∀ (i : Nat) (f : Field), fs[i]? = some f → DataW.trod enc P W base spare held fuel f.type ((cs.drop f.offset).take (P.cellsOf f.type)) = ys[i]?) → ys.length = fs.length →
    (DataW.weightsEach P (fs.map (·.type)) (ys.map (·.1))).all (· ≤ reachBytes) = true → cs.length = off + d.sz → ∃ x, d.K W x (cs.drop off) ∧ ok x
theorem OpensFs.one {α : Type} {P : Program} {f : Field} {t : TypeId} {off : Nat} {d : Kd α} {ok : α → Prop} (ht : f.type = t) (hoff : f.offset = off) (h : Opens P t d ok) : OpensFs P [f] off d ok :=
  ⟨fun {H enc W base spare held fuel cs ys} hy hl hw hcs => by
    obtain ⟨y, rfl⟩ : ∃ y, ys = [y] := by
      cases ys with
      | nil => simp at hl
      | cons y ys => cases ys with
        | nil => exact ⟨y, rfl⟩
        | cons => simp at hl
    have h0 := hy 0 f rfl
    simp only [List.getElem?_cons_zero] at h0
    simp only [List.map_cons, List.map_nil, DataW.weightsEach, List.append_nil] at hw
    rw [ht] at h0 hw
    obtain ⟨x, hK, hok⟩ := h.op h0 hw
    rw [hoff, List.take_of_length_le (by rw [List.length_drop, h.sz]; omega)] at hK
    exact ⟨x, hK, hok⟩⟩
theorem OpensFs.cons {α β : Type} {P : Program} {f : Field} {fs : List Field} {t : TypeId} {off n : Nat} {d : Kd α} {d' : Kd β} {ok : α → Prop} {ok' : β → Prop} (ht : f.type = t) (hoff : f.offset = off) (h : Opens P t d ok) (hn : off + d.sz = n) (hr : OpensFs P fs n d' ok') :
    OpensFs P (f :: fs) off (Kd.pair d d') (fun x => ok x.1 ∧ ok' x.2) :=
  ⟨fun {H enc W base spare held fuel cs ys} hy hl hw hcs => by
    cases ys with
    | nil => simp at hl
    | cons y ys =>
      have h0 := hy 0 f rfl
      simp only [List.getElem?_cons_zero] at h0
      simp only [List.map_cons, DataW.weightsEach, List.all_append, Bool.and_eq_true] at hw
      have hw0 := hw.1
      rw [ht] at h0 hw0
      obtain ⟨x, hK, hok⟩ := h.op h0 hw0
      have hsz : (Kd.pair d d').sz = d.sz + d'.sz := rfl
      rw [hsz] at hcs
      obtain ⟨x', hK', hok'⟩ := hr.op (fun i g hg => hy (i + 1) g (by simpa using hg)) (by simpa using hl) hw.2 (by omega)
      refine ⟨(x, x'), ⟨_, _, ?_, hK, hK'⟩, hok, hok'⟩
      rw [hoff, h.sz, ← hn, ← List.drop_drop]
      exact (List.take_append_drop _ _).symm⟩
theorem Opens.struct {α β : Type} {P : Program} {t : TypeId} {fs : Array Field} {fl : List Field} {d : Kd α} {ok : α → Prop} (f : β → α) (g : α → β) (hfg : ∀ x, f (g x) = x) (h : P.underlying t = some (.struct fs)) (hfl : fs.toList = fl) (hs : P.cellsOf t = d.sz) (ho : OpensFs P fl 0 d ok) :
    Opens P t (Kd.iso d f) (fun x => ok (f x)) :=
  ⟨hs, fun {H enc W base spare held fuel cs y} hy hw => by
    obtain ⟨xs, n, rfl, rfl, hcl, hxl, hx⟩ := DataW.trod_struct h hy
    unfold DataW.weights at hw
    rw [h] at hw
    simp only [hfl] at hw
    subst hfl
    obtain ⟨x, hK, hok⟩ := ho.op (ys := xs) (fun i f hf => hx i f (by simpa using hf)) (by simpa using hxl) hw (by omega)
    rw [List.drop_zero] at hK
    refine ⟨g x, ?_, ?_⟩
    · show d.K W (f (g x)) cs
      rw [hfg]; exact hK
    · rw [hfg]; exact hok⟩
end Go.Proofs.Yteiladccdenpbaa.P
end
section
namespace Go.Proofs.Yteiladccdenpbaa.heapHolds
open Go.ChangeShapes Go.WideShapes Go.ChangeAt Go.RowKit Go.Proofs.Yteiladccdenpbaa.P Go.Proofs.YteiladccdenpbaaW.PrintWords Go.Proofs.YteiladccdenpbaaW.PrintLast Go.Proofs.YteiladccdenpbaaW.PrintMore
open Go.ChangeMaps (open_string shut_string)
set_option linter.unusedVariables false
set_option linter.unusedSimpArgs false
def ok49 (x : S49) : Prop := (fun x => (Lit.int .i64 x).wf = true) x.f0 ∧ (fun x => (Lit.int .i64 x).wf = true) x.f1
theorem opens49 : Opens Try.prog 49 k49 ok49 := Opens.struct (fs := _) (fun x : S49 => (x.f0, x.f1)) (fun p => ⟨p.1, p.2⟩) (fun _ => rfl) Try.underlying49 rfl (by kernel_rfl) (OpensFs.cons rfl rfl (Opens.int Try.underlying3 (by kernel_rfl)) rfl (OpensFs.one rfl rfl (Opens.int Try.underlying3 (by kernel_rfl))))
def ok53 (x : S53) : Prop := (fun x => True) x.f0 ∧ (fun x => x.length * 16 ≤ 140737488351232 ∧ ∀ y ∈ x, (ok49) y) x.f1
theorem opens53 : Opens Try.prog 53 k53 ok53 := Opens.struct (fs := _) (fun x : S53 => (x.f0, x.f1)) (fun p => ⟨p.1, p.2⟩) (fun _ => rfl) Try.underlying53 rfl (by kernel_rfl) (OpensFs.cons rfl rfl (Opens.bool Try.underlying4 (by kernel_rfl)) rfl (OpensFs.one rfl rfl (Opens.slice (B := 16) Try.underlying43 (by kernel_rfl) (by kernel_rfl) opens49)))
def ok55 (x : S55) : Prop := (fun x => (Lit.int .i64 x).wf = true) x.f0 ∧ (fun x => True) x.f1 ∧ (ok53) x.f2
theorem opens55 : Opens Try.prog 55 k55 ok55 := Opens.struct (fs := _) (fun x : S55 => (x.f0, x.f1, x.f2)) (fun p => ⟨p.1, p.2.1, p.2.2⟩) (fun _ => rfl) Try.underlying55 rfl (by kernel_rfl) (OpensFs.cons rfl rfl (Opens.int Try.underlying3 (by kernel_rfl)) rfl (OpensFs.cons rfl rfl (Opens.bool Try.underlying4 (by kernel_rfl)) rfl (OpensFs.one rfl rfl opens53)))
theorem own : ownKnob Try.prog.godebug = none := by kernel_rfl
theorem laidOut : laidOutB Try.prog = true := by kernel_rfl
set_option maxHeartbeats 1000000 in
set_option maxRecDepth 100000 in
theorem lifted (os : Os) (started : os.Started) (H : Type) (enc : TypeId × Value → H) :
  ReturnsInHanded {} Try.checked os 13 .any (Rows.heapHoldsSpec.pre6 enc Try.prog Try.f13 Rows.heapHoldsRow.domain false) (Rows.heapHoldsSpec.post enc Try.prog Try.f13 false true false false) := by
 refine returnsInHanded_of_change_sized (C := Try.checked) own started (by kernel_rfl) Try.func13
  (ChangeSpec.witness6 (enc := enc) (C := Try.checked) false ⟨#[], #[.agg #[.slice none 0 0, .int .i64 0], .int .i64 0, .int .u8 0], []⟩ 8 (by kernel_rfl) (by kernel_rfl) (by kernel_rfl) (by kernel_rfl)) ?_
 intro W base args ds gs before hval0 hW hcnd hsz0 _
 have hsz : (DataW.weightsEach Try.prog (Try.f13.params.toList ++ Rows.heapHoldsSpec.plain.varTypes Try.prog) (ds ++ gs)).all (· ≤ reachBytes) = true := hsz0
 have hval : ∀ (j : Nat) t v, Try.f13.params[j]? = some t → args[j]? = some v → Value.okWide Try.prog W .any base t v := hval0
 have hW' := hW
 obtain ⟨p, q, hA0, hV, rfl, hfz, hnd⟩ := hW
 have hA : DataW.TrodAll enc Try.prog W 0 (fun _ => true) true Try.f13.params.toList args.toList ds p := hA0
 rw [Try.params13] at hA hval hsz
 obtain ⟨v0, vs0, d0, ds0, p0, q0, hargs, rfl, rfl, h0, r0⟩ := trodAll_cons hA
 obtain ⟨v1, vs1, d1, ds1, p1, q1, rfl, rfl, rfl, h1, r1⟩ := trodAll_cons r0
 obtain ⟨v2, vs2, d2, ds2, p2, q2, rfl, rfl, rfl, h2, r2⟩ := trodAll_cons r1
 obtain ⟨rfl, rfl, rfl⟩ := trodAll_nil r2
 obtain rfl : args = #[v0, v1, v2] := by cases args; simp_all
 obtain ⟨rfl, rfl⟩ := trodVars_none hV
 have k0 := h0
 have lt0 : ∀ x ∈ p0, x.block < W.heap.size := by obtain ⟨m, hm⟩ := k0; exact DataW.trod_lt m _ _ _ hm
 have wt0 := weights_at hsz (j := 0) (t := 24) (d := d0) rfl rfl
 obtain ⟨fuel0, hf0⟩ := h0
 obtain ⟨x0, hK0, hok0⟩ := (Opens.struct (f := id) (g := id) (fun _ => rfl) Try.underlying24 rfl (by kernel_rfl) (OpensFs.cons rfl rfl (Opens.slice (B := 48) Try.underlying22 (by kernel_rfl) (by kernel_rfl) opens55) rfl (OpensFs.one rfl rfl (Opens.int Try.underlying3 (by kernel_rfl))))).op hf0 wt0
 obtain ⟨cs0, rfl, hsz0⟩ := okWide_struct Try.underlying24 (hval 0 24 v0 rfl rfl)
 obtain ⟨l0_0, a0_1⟩ := x0
 obtain ⟨L0, hL0⟩ : ∃ L, (Value.agg cs0).cells.toList = L := ⟨_, rfl⟩
 rw [hL0] at hK0
 obtain ⟨_, _, rfl, ⟨A0_0, c0_0, rfl, hc0_0, hr0_0⟩, rfl⟩ := hK0
 obtain rfl : cs0 = #[.slice A0_0 l0_0.length c0_0, .int .i64 a0_1] := by have h := hL0; simp [Value.cells] at h; cases cs0; simp_all
 obtain ⟨o0_0, o0_1⟩ := hok0
 have k1 := h1
 have lt1 : ∀ x ∈ p1, x.block < W.heap.size := by obtain ⟨m, hm⟩ := k1; exact DataW.trod_lt m _ _ _ hm
 have wt1 := weights_at hsz (j := 1) (t := 3) (d := d1) rfl rfl
 obtain ⟨a1, rfl, _, _, o1⟩ := open_int Try.underlying3 (hval 1 3 v1 rfl rfl) h1
 have k2 := h2
 have lt2 : ∀ x ∈ p2, x.block < W.heap.size := by obtain ⟨m, hm⟩ := k2; exact DataW.trod_lt m _ _ _ hm
 have wt2 := weights_at hsz (j := 2) (t := 5) (d := d2) rfl rfl
 obtain ⟨a2, rfl, _, _, o2⟩ := open_int Try.underlying5 (hval 2 5 v2 rfl rfl) h2
 clear hA0 hval0 hsz0 hsz
 refine (assartlaw05_HeapHolds.walk A0_0 c0_0 l0_0 a0_1 a1 a2 W hr0_0 hc0_0 (by have := (of_decide_eq_true ((Bool.and_eq_true _ _ ▸ o2 : _ ∧ _).1) : (0 : Int) ≤ a2); exact this) (by have := (of_decide_eq_true ((Bool.and_eq_true _ _ ▸ o2 : _ ∧ _).2) : a2 ≤ (255 : Int)); exact this)).mono fun e W' ⟨he, bel0⟩ => ?_
 have bel := bel0
 subst he
 exact ⟨_, rfl, _, _, _, [], _, [], hW', trodAll_mk1 (shut_bool Try.underlying4 _), (trodAll_cons_mk (Below.trod laidOut (by kernel_rfl) (of_decide_eq_true (by kernel_rfl)) k0 bel lt0) (trodAll_cons_mk (Below.trod laidOut (by kernel_rfl) (of_decide_eq_true (by kernel_rfl)) k1 bel lt1) (trodAll_cons_mk (Below.trod laidOut (by kernel_rfl) (of_decide_eq_true (by kernel_rfl)) k2 bel lt2) trodAll_mk0))), rfl, bel.frame _, fun h => by cases h⟩
theorem over : Rows.heapHoldsRow.holds Try.pinned (OpenSpec.ofChange Rows.heapHoldsSpec) :=
 OpenClaim.holds_of_wide 13 Try.f13 rfl rfl rfl rfl rfl rfl rfl ⟨rfl, rfl, rfl, rfl, rfl⟩ rfl rfl rfl rfl rfl (by kernel_rfl) Try.func13 (by kernel_rfl)
  (of_decide_eq_true (by kernel_rfl)) (by unfold Func.isWrapper; first | (rw [if_pos (by decide +kernel)]; kernel_rfl) | (rw [if_neg (by decide +kernel)]; exact ⟨rfl, rfl⟩))
  (fun os started H enc _ => lifted os started H enc)
theorem proved : Rows.HeapHoldsSaid := over
#print axioms proved
end Go.Proofs.Yteiladccdenpbaa.heapHolds
namespace Go.Proofs.Yteiladccdenpbaa
theorem heapHolds_holds : Rows.HeapHoldsSaid := heapHolds.proved
end Go.Proofs.Yteiladccdenpbaa
end
