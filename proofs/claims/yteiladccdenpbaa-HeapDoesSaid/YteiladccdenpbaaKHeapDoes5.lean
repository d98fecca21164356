/- Texts of this claim's proof put together: HRef5A, HHeapDoes, HRow, LawHeapDoes. -/
import Derived.Below
import Derived.Deep.Draws
import Derived.Deep.AppendLies
import Derived.Maps.AppendAt
import Derived.OwnWalk
import Derived.Laws.BytesArg
import Derived.Laws.MakeOwn
import Derived.Laws.OwnMore
import Derived.Deep.OwnRows
import Derived.Tactics
import Derived.Lib.ConvBytes
import Derived.Laws.Slices
import Derived.WalkKit
import Derived.KernelRfl
import Derived.RowKit3
import Derived.Deep.LoopGhost
import Derived.Deep.QuietTactic
import Derived.BigQuiet
import Derived.WideLaws
import Derived.Deep.DeepCutAuto
import Derived.Deep.CutBlock
import Derived.Deep.RegionHeld3
import Derived.Laws.Rows
import Derived.Lib.AppendStr
import Derived.ArgAppend
import Derived.Laws.IdiomCopy
import Derived.RowKit
import Derived.OrdersHeld
import Derived.Laws.BitsLemmas
import Derived.Laws.StructEq
import Derived.Test.YteiladccdenpbaaProg
import Derived.Shelf.RegionOpenPlain
import Derived.Shelf.Abstract
import Derived.Laws.CopyOwn
import Derived.Lib.SlBuf
import Derived.ChangeArms
import Derived.DataReads
import Derived.DataElems
import Derived.SizedLaws
import Derived.Test.YteiladccdenpbaaRows
import Derived.ProofKit
import Derived.OpenShut
import Derived.ShutString
import Derived.ChangeOld
import Derived.Test.YteiladccdenpbaaKHeapDoes0
import Derived.Test.YteiladccdenpbaaKHeapDoes1
import Derived.Test.YteiladccdenpbaaKHeapDoes2
import Derived.Test.YteiladccdenpbaaKHeapDoes3
import Derived.Test.YteiladccdenpbaaKHeapDoes4
namespace Foot
end Foot
namespace Go.Proofs.Yteiladccdenpbaa
end Go.Proofs.Yteiladccdenpbaa
namespace Go.Proofs.Yteiladccdenpbaa.P
end Go.Proofs.Yteiladccdenpbaa.P
namespace Go.Proofs.Yteiladccdenpbaa.heapDoes
end Go.Proofs.Yteiladccdenpbaa.heapDoes
namespace Go.Proofs.YteiladccdenpbaaW.PrintLast
end Go.Proofs.YteiladccdenpbaaW.PrintLast
namespace Go.Proofs.YteiladccdenpbaaW.PrintMore
end Go.Proofs.YteiladccdenpbaaW.PrintMore
namespace Go.Proofs.YteiladccdenpbaaW.PrintWords
end Go.Proofs.YteiladccdenpbaaW.PrintWords
namespace Kd
end Kd
section
namespace Go.Proofs.Yteiladccdenpbaa.P
open Go.RowKit Go.Proofs.YteiladccdenpbaaW.PrintWords Go.Proofs.YteiladccdenpbaaW.PrintLast Go.Proofs.YteiladccdenpbaaW.PrintMore
set_option linter.unusedVariables false
set_option linter.unusedSimpArgs false
def hAl.T15 : Bool × List (List Nat × List Nat) := (true, [([], []), ([], []), ([1], [1]), ([], []), ([2, 3], [2, 3]), ([4], [4]), ([5], [5]), ([0, 6], [0, 6]), ([7, 7, 0, 1, 2, 3, 4, 5, 6, 7], [7])])
def hAl.B15 : List Nat := [0, 0, 2, 0, 14, 30, 62, 127, 255]
theorem hAl.tab15 : rtab .any (opsOf Try.f45 15) = hAl.T15 := by kernel_rfl
theorem hAl.bits15 : waitsOk hAl.T15.2 hAl.B15 = true := by kernel_rfl
theorem refInB_l0 (l : List Int) (a : Int) (hl : l.length ≤ 1000000) : ∀ (d k j : Nat), j + d = l.length → d < k → assartref05_In.l0 k l a (j : Int) = some (decide (a ∈ l.drop j)) := by
  intro d
  induction d with
  | zero =>
    intro k j hj hk
    obtain ⟨k, rfl⟩ : ∃ m, k = m + 1 := ⟨k - 1, by omega⟩
    simp only [assartref05_In.l0]
    rw [if_neg (by omega), List.drop_eq_nil_of_le (by omega), decide_eq_false (by intro h; cases h)]
  | succ d ih =>
    intro k j hj hk
    obtain ⟨k, rfl⟩ : ∃ m, k = m + 1 := ⟨k - 1, by omega⟩
    have hlt : j < l.length := by omega
    have hrd : rd l (j : Nat) = l[j] := by simp only [rd, Int.toNat_natCast, List.getD_eq_getElem?_getD, List.getElem?_eq_getElem hlt, Option.getD_some]
    simp only [assartref05_In.l0]
    rw [if_pos (by omega), if_pos (by omega), hrd, wsucc j (by omega), List.drop_eq_getElem_cons hlt, ih k (j + 1) (by omega) (by omega)]
    by_cases h : l[j] = a
    · rw [if_pos h, decide_eq_true (by rw [h]; exact List.mem_cons_self ..)]
    · rw [if_neg h]
      congr 1
      rw [decide_eq_decide]
      exact ⟨fun hm => List.mem_cons_of_mem _ hm, fun hm => (List.mem_cons.1 hm).resolve_left (fun e => h e.symm)⟩
theorem refInB_val (l : List Int) (a : Int) (hl : l.length ≤ 1000000) (k : Nat) (hk : l.length < k) : assartref05_In.f k l a = some (decide (a ∈ l)) := by
  unfold assartref05_In.f
  have := refInB_l0 l a hl l.length k 0 (by omega) hk
  rw [show ((0 : Nat) : Int) = 0 from rfl, List.drop_zero] at this
  exact this
theorem idxN_at {p : S55 → Bool} {l : List S55} {j : Nat} (h : ∀ k : Nat, k < j → p (rd_T55 l (k : Nat)) = false) (hj : p (rd_T55 l (j : Nat)) = true) (hlt : j < l.length) : idxN p l 0 = (j : Int) := by
  have ha := idxN_any p l 0
  have h2 : l.any p = true := by
    rw [List.any_eq_true]
    exact ⟨l[j], List.getElem_mem _, by rw [← rd55_at hlt]; exact hj⟩
  rw [h2] at ha
  have h0 := of_decide_eq_true ha
  obtain ⟨a, hq⟩ : ∃ a : Nat, idxN p l 0 = a := ⟨(idxN p l 0).toNat, by omega⟩
  obtain ⟨q, e1, e2, e3, e4⟩ := idxN_first l 0 a hq
  obtain rfl : a = q := by omega
  rw [hq]
  rcases Nat.lt_trichotomy a j with h5 | h5 | h5
  · have := h a h5; rw [this] at e3; cases e3
  · rw [h5]
  · have := e4 j h5; rw [this] at hj; cases hj
theorem holdP_heldN {l l' : List S55} {p : Int} (h : holdP l p = some l') (h0 : ∀ i : Nat, i < l.length → 0 ≤ (rd_T55 l (i : Nat)).f0) : ∃ q : Nat, p = q ∧ q < l.length ∧ heldN l q 1 = l' ∧ (rd_T55 l (q : Nat)).f0 ≤ 1000000000 ∧ l'.length = l.length ∧ ∀ i : Nat, i < l'.length → 0 ≤ (rd_T55 l' (i : Nat)).f0 := by
  unfold holdP at h
  by_cases hc : 0 ≤ p ∧ p < (l.length : Int) ∧ l.length < 1000000 ∧ -1000000000 < (rd_T55 l p).f0 ∧ (rd_T55 l p).f0 < 1000000000
  · rw [if_pos hc] at h
    obtain ⟨q, rfl⟩ : ∃ q : Nat, p = q := ⟨p.toNat, by omega⟩
    obtain ⟨a, b, c, d, e⟩ := hc
    rw [Int.toNat_natCast] at h
    have hq : q < l.length := by omega
    have hl : l' = heldN l q 1 := by unfold heldN; exact (Option.some.inj h).symm
    refine ⟨q, rfl, hq, hl.symm, by omega, by rw [hl, heldN_len], fun i hi => ?_⟩
    rw [hl, heldN_len] at hi
    rw [hl]
    unfold heldN
    rw [rd55_same _ hq]
    by_cases ei : q = i
    · rw [if_pos ei]; have := h0 q hq; simp only []; omega
    · rw [if_neg ei]; exact h0 i hi
  · rw [if_neg hc] at h; cases h
set_option maxHeartbeats 8000000 in
set_option maxRecDepth 100000 in
theorem refAlloc_walk (P : Nat → Prop) (A : Option Addr) (c : Nat) (l : List S55) (kp : Int) (leaf : Bool) (A1 : Option Addr) (c1 : Nat) (it : List S49) (A2 : Option Addr) (c2 : Nat) (held : List Int) (r1 : List S55) (r3 r4 : Int) (w : World) (hs : Kd.V k55 55 w w.heap.size P (.slice A l.length c) l) (hs1 : Kd.V k49 49 w w.heap.size P (.slice A1 it.length c1) it) (hh : Kd.C (Kd.int .i64) w A2 held.length held) (hhc : held.length ≤ c2) (hhl : held.length ≤ 1000)
    (hl : l.length < 1000000) (hil : it.length ≤ 1000) (hp : ∀ i : Nat, i < l.length → 0 ≤ (rd_T55 l (i : Nat)).f0 ∧ (rd_T55 l (i : Nat)).f0 ≤ 1000000) (h : heap_Alloc.f l kp leaf it held = some (r1, kp, r3, r4)) :
    Calls Try.prog 45 #[.agg #[.slice A l.length c, .int .i64 kp], .agg #[.bool leaf, .slice A1 it.length c1], .slice A2 held.length c2] w fun e w' => ∃ (A' : Option Addr) (c' : Nat), e = .returned (.tuple #[.agg #[.slice A' r1.length c', .int .i64 kp], .int .i64 r3, .int .i64 r4]) ∧ Kd.V k55 55 w' w.heap.size (fun k => P k ∨ w.heap.size ≤ k) (.slice A' r1.length c') r1 ∧ Below w.heap.size w w' := by
  obtain ⟨-, hc, hr⟩ := Kd.V_at hs
  obtain ⟨-, hc1, hr1⟩ := Kd.V_at hs1
  obtain ⟨P', hP, hr', hr1'⟩ : ∃ P' : Nat → Prop, (∀ k, P' k → P k ∧ k < w.heap.size) ∧ Kd.F k55 w P' A l.length l ∧ Kd.F k49 w P' A1 it.length it := ⟨_, fun _ h => h, Kd.F_bound hr, Kd.F_bound hr1⟩
  obtain ⟨wA, hwA⟩ : ∃ wA, ((w.alloc (.cells #[.slice A l.length c, .int .i64 kp] 24)).alloc (.cells #[.bool leaf, .slice A1 it.length c1] 53)).alloc (.cells #[.slice none 0 0, .int .i64 0] 24) = wA := ⟨_, rfl⟩
  have HB : Aside0 (Below w.heap.size w wA) := ⟨by rw [← hwA]; exact (((Below.refl _ w).alloc (Nat.le_refl _) _).alloc (by simp) _).alloc (by simp; omega) _⟩
  have KXh : Aside0 (wA.heap[w.heap.size]? = some (.cells #[.slice A l.length c, .int .i64 kp] 24 (0, 0))) := ⟨by rw [← hwA]; exact blk_alloc (blk_alloc (alloc_new w _) _) _⟩
  have KXn : Aside0 (wA.heap[w.heap.size + 1]? = some (.cells #[.bool leaf, .slice A1 it.length c1] 53 (0, 0))) := ⟨by
    rw [← hwA]
    have := alloc_new (w.alloc (.cells #[.slice A l.length c, .int .i64 kp] 24)) (.cells #[.bool leaf, .slice A1 it.length c1] 53)
    rw [World.size_alloc] at this
    exact blk_alloc this _⟩
  have KXr : Aside0 (wA.heap[w.heap.size + 1 + 1]? = some (.cells #[.slice none 0 0, .int .i64 0] 24 (0, 0))) := ⟨by
    rw [← hwA]
    have := alloc_new ((w.alloc (.cells #[.slice A l.length c, .int .i64 kp] 24)).alloc (.cells #[.bool leaf, .slice A1 it.length c1] 53)) (.cells #[.slice none 0 0, .int .i64 0] 24)
    rwa [World.size_alloc, World.size_alloc] at this⟩
  have HVl : Aside0 (Kd.V k55 55 wA 0 P' (.slice A l.length c) l) := ⟨Kd.V_mk hc (Kd.F_below hr' HB.out)⟩
  have HVn : Aside0 (Kd.V k49 49 wA 0 P' (.slice A1 it.length c1) it) := ⟨Kd.V_mk hc1 (Kd.F_below hr1' HB.out)⟩
  have HH : Aside0 (Kd.C (Kd.int .i64) wA A2 held.length held) := ⟨Kd.C_below hh HB.out⟩
  have HHW := Aside0.mk hh
  have HP := Aside0.mk hP
  have HPF := Aside0.mk hp
  have HF := Aside0.mk h
  have hu24 := Try.underlying24
  have hu53 := Try.underlying53
  have hu55 := Try.underlying55
  have hu49 := Try.underlying49
  have b0 : wA.cell? ⟨w.heap.size, 0, none⟩ = some (.slice A l.length c) := (blk_cell KXh.out 0).trans rfl
  have b1 : wA.cell? ⟨w.heap.size, 1, none⟩ = some (.int .i64 kp) := (blk_cell KXh.out 1).trans rfl
  have n0 : wA.cell? ⟨w.heap.size + 1, 0, none⟩ = some (.bool leaf) := (blk_cell KXn.out 0).trans rfl
  have n1 : wA.cell? ⟨w.heap.size + 1, 1, none⟩ = some (.slice A1 it.length c1) := (blk_cell KXn.out 1).trans rfl
  clear hs hs1 hr hr1 hr' hr1' hh hP hp h hc hc1
  go_enter Try.func45, Try.ntmps45
  go_wp2_with fail
  clear hwA b0 b1 n0 n1
  refine (assartref04_Right.calls 2000 leaf A1 c1 it (decide (RtN it)) wA (Kd.V_reads' HVn.out).2.2 (Kd.V_reads' HVn.out).2.1 (refRight04_val leaf it 2000 (.inr (by omega)))).mono ?_
  rintro e w1 ⟨rfl, hb⟩
  replace KXh := Aside0.mk (blk_below KXh.out hb)
  replace KXn := Aside0.mk (blk_below KXn.out hb)
  replace KXr := Aside0.mk (blk_below KXr.out hb)
  replace HVl := Aside0.mk (Kd.V_below HVl.out hb)
  replace HVn := Aside0.mk (Kd.V_below HVn.out hb)
  replace HH := Aside0.mk (Kd.C_below HH.out hb)
  replace HB := Aside0.mk (HB.out.trans (hb.mono HB.out.size))
  clear hb
  have b0 : w1.cell? ⟨w.heap.size, 0, none⟩ = some (.slice A l.length c) := (blk_cell KXh.out 0).trans rfl
  have b1 : w1.cell? ⟨w.heap.size, 1, none⟩ = some (.int .i64 kp) := (blk_cell KXh.out 1).trans rfl
  have n0 : w1.cell? ⟨w.heap.size + 1, 0, none⟩ = some (.bool leaf) := (blk_cell KXn.out 0).trans rfl
  have n1 : w1.cell? ⟨w.heap.size + 1, 1, none⟩ = some (.slice A1 it.length c1) := (blk_cell KXn.out 1).trans rfl
  have y0 : w1.cell? ⟨w.heap.size + 1 + 1, 0, none⟩ = some (.slice none 0 0) := (blk_cell KXr.out 0).trans rfl
  have y1 : w1.cell? ⟨w.heap.size + 1 + 1, 1, none⟩ = some (.int .i64 0) := (blk_cell KXr.out 1).trans rfl
  have f0 := blk_frozen KXr.out 0
  have f1 := blk_frozen KXr.out 1
  by_cases h1 : RtN it
  · rw [decide_eq_true h1]
    go_wp2_with fail
    clear b0 b1 n0 n1 y0 y1 f0 f1
    refine (assartref05_leads.calls 5000 A c l kp leaf A1 c1 it (leadsB l leaf it) w1 (Kd.V_reads' HVl.out).2.2 (Kd.V_reads' HVl.out).2.1 (Kd.V_reads' HVn.out).2.2 (Kd.V_reads' HVn.out).2.1 (refLeads_val l kp leaf it hil (by omega))).mono ?_
    rintro e w2 ⟨rfl, hb⟩
    replace KXh := Aside0.mk (blk_below KXh.out hb)
    replace KXn := Aside0.mk (blk_below KXn.out hb)
    replace KXr := Aside0.mk (blk_below KXr.out hb)
    replace HVl := Aside0.mk (Kd.V_below HVl.out hb)
    replace HVn := Aside0.mk (Kd.V_below HVn.out hb)
    replace HH := Aside0.mk (Kd.C_below HH.out hb)
    replace HB := Aside0.mk (HB.out.trans (hb.mono HB.out.size))
    clear hb
    have b0 : w2.cell? ⟨w.heap.size, 0, none⟩ = some (.slice A l.length c) := (blk_cell KXh.out 0).trans rfl
    have b1 : w2.cell? ⟨w.heap.size, 1, none⟩ = some (.int .i64 kp) := (blk_cell KXh.out 1).trans rfl
    have y0 : w2.cell? ⟨w.heap.size + 1 + 1, 0, none⟩ = some (.slice none 0 0) := (blk_cell KXr.out 0).trans rfl
    have y1 : w2.cell? ⟨w.heap.size + 1 + 1, 1, none⟩ = some (.int .i64 0) := (blk_cell KXr.out 1).trans rfl
    have f0 := blk_frozen KXr.out 0
    have f1 := blk_frozen KXr.out 1
    by_cases h2 : leadsB l leaf it = true
    · rw [h2]
      go_wp2
      clear b0 b1 y0 y1 f0 f1
      go_loopg [10] l.length (fun kx s wr => ∃ (j : Nat), s = .int .i64 j ∧ j ≤ l.length ∧ l.length - j ≤ kx ∧ Aside0 (w2 = wr) ∧ Aside0 (∀ k : Nat, k < j → isFreeB (rd_T55 l (k : Nat)) = false))
      case atStart => exact ⟨0, rfl, Nat.zero_le _, by omega, ⟨rfl⟩, ⟨fun k hk => absurd hk (by omega)⟩⟩
      case round =>
        obtain ⟨j, rfl, hj, hgk, HW_, HFB⟩ := hrel
        obtain rfl := HW_.out
        clear HW_
        have b0 : w2.cell? ⟨w.heap.size, 0, none⟩ = some (.slice A l.length c) := (blk_cell KXh.out 0).trans rfl
        have b1 : w2.cell? ⟨w.heap.size, 1, none⟩ = some (.int .i64 kp) := (blk_cell KXh.out 1).trans rfl
        by_cases hlt : j < l.length
        · obtain ⟨ax, A_, c_, e4, z0, z1, -⟩ := at_T55 (Kd.V_reads' HVl.out).2.2 (j : Int) (by omega) (by omega)
          cases e4
          rw [Int.toNat_natCast] at z0 z1
          have p1 : (j : Int) < (l.length : Int) := by omega
          replace p1 := eq_true p1
          have hge := (HPF.out j hlt).1
          by_cases hfr : isFreeB (rd_T55 l (j : Nat)) = true
          · have hf := hfr
            unfold isFreeB at hf
            rw [Bool.and_eq_true, beq_iff_eq, Bool.not_eq_true'] at hf
            rw [hf.1] at z0
            rw [hf.2] at z1
            have q1 : ((j : Int) = (l.length : Int)) = False := eq_false (by omega)
            have q2 : (j = l.length) = False := eq_false (by omega)
            go_wp2
            have HSZ := Aside0.mk (show w.heap.size + 1 + 1 < w2.heap.size from blk_lt KXr.out)
            obtain ⟨l1, hE, hR⟩ : ∃ l1, eachP (allocF held) leaf it l = some l1 ∧ (l1.length = l.length → r1 = l1.set j ⟨1, false, ⟨leaf, it⟩⟩ ∧ r3 = j ∧ r4 = 0) := by
              have hI : idxN isFreeB l 0 = (j : Int) := idxN_at HFB.out hfr hlt
              have := HF.out
              unfold heap_Alloc.f at this
              rw [if_pos ⟨hl, by omega, by omega⟩, if_pos ⟨h1, h2⟩, hI, if_neg (by omega), Int.toNat_natCast] at this
              obtain ⟨l1, e1, e2⟩ := Option.bind_eq_some_iff.1 this
              refine ⟨l1, e1, fun hh => ?_⟩
              rw [if_pos hh] at e2
              simpa [eq_comm] using e2
            have HE := Aside0.mk hE
            have HR := Aside0.mk hR
            clear hE hR
            have HQ : ∃ Q : Nat → Prop, (∀ k, P' k → Q k) ∧ (∀ k, w2.heap.size < k → Q k) ∧ (∀ k, Q k → k ≠ w2.heap.size ∧ k ≠ w.heap.size + 1 + 1) ∧ (∀ k, Q k → P k ∨ w.heap.size ≤ k) := by
              refine ⟨fun k => (P' k ∨ w.heap.size ≤ k) ∧ k ≠ w2.heap.size ∧ k ≠ w.heap.size + 1 + 1, fun k hk => ?_, fun k hk => ?_, fun k hk => hk.2, fun k hk => hk.1.elim (fun h => .inl (HP.out k h).1) .inr⟩
              · have := (HP.out k hk).2; have := HSZ.out; exact ⟨.inl hk, by omega, by omega⟩
              · have := HSZ.out; exact ⟨.inr (by omega), by omega, by omega⟩
            obtain ⟨Q, hQ1, hQ2, hQ3, hQ4⟩ := HQ
            have HQ2 := Aside0.mk hQ2
            have HQ3 := Aside0.mk hQ3
            have HQ4 := Aside0.mk hQ4
            replace HVl := Aside0.mk (Kd.V_mono HVl.out hQ1)
            replace HVn := Aside0.mk (Kd.V_mono HVn.out hQ1)
            clear hQ1 hQ2 hQ3 hQ4
            clear HH
            have hpre : Below w2.heap.size w2 (w2.alloc (.cells #[.slice (some ax) l.length c, .int .i64 kp] 24)) := (Below.refl w2.heap.size w2).alloc (Nat.le_refl _) _
            replace KXh := Aside0.mk (blk_below KXh.out hpre)
            replace KXn := Aside0.mk (blk_below KXn.out hpre)
            replace KXr := Aside0.mk (blk_below KXr.out hpre)
            replace HVl := Aside0.mk (Kd.V_below HVl.out hpre)
            replace HVn := Aside0.mk (Kd.V_below HVn.out hpre)
            replace HB := Aside0.mk (HB.out.trans (hpre.mono HB.out.size))
            have KXo : Aside0 ((w2.alloc (.cells #[.slice (some ax) l.length c, .int .i64 kp] 24)).heap[w2.heap.size]? = some (.cells #[.slice (some ax) l.length c, .int .i64 kp] 24 (0, 0))) := ⟨alloc_new w2 _⟩
            clear hpre b0 b1 z0 z1 p1 q1 q2 hf hge
            obtain ⟨wB, hwB⟩ : ∃ wB, w2.alloc (.cells #[.slice (some ax) l.length c, .int .i64 kp] 24) = wB := ⟨_, rfl⟩
            rw [hwB]
            rw [hwB] at KXh KXn KXr KXo HVl HVn HB
            clear hwB
            have HN0 : Aside0 (∀ i : Nat, i < l.length → 0 ≤ (rd_T55 l (i : Nat)).f0) := ⟨fun i hi => (HPF.out i hi).1⟩
            have hjl : ((j : Int) == (l.length : Int)) = false := beq_eq_false_iff_ne.2 (by omega)
            rw [hjl]
            clear hjl
            go_loopg [12, 13] it.length (fun kx s s13 wr => ∃ (i : Nat) (lj : List S55) (Aj : Option Addr) (cj : Nat), s = .int .i64 i ∧ i ≤ it.length ∧ it.length - i ≤ kx ∧ Aside0 (lj.length = l.length) ∧ Aside0 (eachP (allocF held) leaf (it.drop i) lj = some l1) ∧ Aside0 (∀ i : Nat, i < lj.length → 0 ≤ (rd_T55 lj (i : Nat)).f0) ∧ Aside0 (Below w.heap.size w wr) ∧ Aside0 (wr.heap[w.heap.size + 1]? = some (.cells #[.bool leaf, .slice A1 it.length c1] 53 (0, 0))) ∧ Aside0 (wr.heap[w.heap.size + 1 + 1]? = some (.cells #[.slice none 0 0, .int .i64 0] 24 (0, 0))) ∧ Aside0 (wr.heap[w2.heap.size]? = some (.cells #[.slice Aj lj.length cj, .int .i64 kp] 24 (0, 0))) ∧ Aside0 (Kd.V k55 55 wr 0 Q (.slice Aj lj.length cj) lj) ∧ Aside0 (Kd.V k49 49 wr 0 Q (.slice A1 it.length c1) it))
            case atStart => exact ⟨0, l, some ax, c, rfl, Nat.zero_le _, by omega, ⟨rfl⟩, ⟨by rw [List.drop_zero]; exact HE.out⟩, HN0, HB, KXn, KXr, KXo, HVl, HVn⟩
            case round =>
              clear HN0 HB KXh KXn KXr KXo HVl HVn HE HF HPF HFB h1 h2
              obtain ⟨i, lj, Aj, cj, rfl, hi, hgi, HLJ, HE, HN0, HB, KXn, KXr, KXo, HVj, HVn⟩ := hrel
              have n0 : wr.cell? ⟨w.heap.size + 1, 0, none⟩ = some (.bool leaf) := (blk_cell KXn.out 0).trans rfl
              have n1 : wr.cell? ⟨w.heap.size + 1, 1, none⟩ = some (.slice A1 it.length c1) := (blk_cell KXn.out 1).trans rfl
              cases leaf with
              | true =>
                have hl1 : lj = l1 := by have := HE.out; unfold eachP at this; rw [if_pos rfl] at this; exact Option.some.inj this
                have HL1 := Aside0.mk hl1
                clear hl1
                by_cases hz : i < it.length
                · have p1 : (i : Int) < (it.length : Int) := by omega
                  replace p1 := eq_true p1
                  have p2 : (i < it.length) = True := eq_true hz
                  have o0 : wr.cell? ⟨w2.heap.size, 0, none⟩ = some (.slice Aj lj.length cj) := (blk_cell KXo.out 0).trans rfl
                  have o1 : wr.cell? ⟨w2.heap.size, 1, none⟩ = some (.int .i64 kp) := (blk_cell KXo.out 1).trans rfl
                  have lo : w2.heap.size < wr.heap.size := blk_lt KXo.out
                  obtain ⟨er1, er3, er4⟩ := HR.out (by rw [← HL1.out]; exact HLJ.out)
                  have HER := Aside0.mk er1
                  obtain rfl := er3.symm
                  obtain rfl := er4.symm
                  clear er1 er3 er4
                  go_wp2_with fail
                  clear n0 n1 o0 o1 lo
                  refine (set_row Q Aj cj lj kp j ⟨1, false, ⟨true, it⟩⟩ A1 c1 wr (V_base HVj.out) (V_base HVn.out) (by rw [HLJ.out]; exact hlt) (by rw [HLJ.out]; exact hl)).mono ?_
                  rintro e w5 ⟨A5, c5, rfl, hv, hb⟩
                  rw [HL1.out, ← HER.out] at hv ⊢
                  have HLO := Aside0.mk (blk_lt KXo.out)
                  replace KXr := Aside0.mk (blk_below KXr.out hb)
                  replace HB := Aside0.mk (HB.out.trans (hb.mono HB.out.size))
                  have HV5 : Aside0 (Kd.V k55 55 w5 0 Q (.slice A5 r1.length c5) r1) := ⟨V_base (Kd.V_mono hv (fun k hk => hk.elim id (fun h => HQ2.out k (Nat.lt_of_lt_of_le HLO.out h))))⟩
                  clear hb hv
                  have y0 : w5.cell? ⟨w.heap.size + 1 + 1, 0, none⟩ = some (.slice none 0 0) := (blk_cell KXr.out 0).trans rfl
                  have y1 : w5.cell? ⟨w.heap.size + 1 + 1, 1, none⟩ = some (.int .i64 0) := (blk_cell KXr.out 1).trans rfl
                  have f0 := blk_frozen KXr.out 0
                  have f1 := blk_frozen KXr.out 1
                  go_wp2
                  refine bodyPost_ret (results_ctt rfl _ _ (w.heap.size + 1 + 1) 24 #[.slice A5 r1.length c5, .int .i64 kp] (0, 0) _ rfl (blk_put (cs := #[.slice A5 r1.length c5, .int .i64 0]) (blk_put (cs := #[.slice none 0 0, .int .i64 0]) KXr.out 0 _ rfl) 1 _ rfl) Try.underlying24 rfl (by kernel_rfl)) rfl ?_
                  refine ⟨A5, c5, rfl, ?_, below_set (below_set HB.out (by omega)) (by omega)⟩
                  exact V_base (Kd.V_mono (Kd.V_far (p := ⟨w.heap.size + 1 + 1, 1, none⟩) (Kd.V_far (p := ⟨w.heap.size + 1 + 1, 0, none⟩) HV5.out (fun k hk => (HQ3.out k hk).2) _) (fun k hk => (HQ3.out k hk).2) _) (fun k hk => HQ4.out k hk))
                · have p1 : (i : Int) < (it.length : Int) ↔ False := ⟨fun h => by omega, fun h => h.elim⟩
                  replace p1 := propext p1
                  have p2 : (i < it.length) = False := eq_false hz
                  have o0 : wr.cell? ⟨w2.heap.size, 0, none⟩ = some (.slice Aj lj.length cj) := (blk_cell KXo.out 0).trans rfl
                  have o1 : wr.cell? ⟨w2.heap.size, 1, none⟩ = some (.int .i64 kp) := (blk_cell KXo.out 1).trans rfl
                  have lo : w2.heap.size < wr.heap.size := blk_lt KXo.out
                  obtain ⟨er1, er3, er4⟩ := HR.out (by rw [← HL1.out]; exact HLJ.out)
                  have HER := Aside0.mk er1
                  obtain rfl := er3.symm
                  obtain rfl := er4.symm
                  clear er1 er3 er4
                  go_wp2_with fail
                  clear n0 n1 o0 o1 lo
                  refine (set_row Q Aj cj lj kp j ⟨1, false, ⟨true, it⟩⟩ A1 c1 wr (V_base HVj.out) (V_base HVn.out) (by rw [HLJ.out]; exact hlt) (by rw [HLJ.out]; exact hl)).mono ?_
                  rintro e w5 ⟨A5, c5, rfl, hv, hb⟩
                  rw [HL1.out, ← HER.out] at hv ⊢
                  have HLO := Aside0.mk (blk_lt KXo.out)
                  replace KXr := Aside0.mk (blk_below KXr.out hb)
                  replace HB := Aside0.mk (HB.out.trans (hb.mono HB.out.size))
                  have HV5 : Aside0 (Kd.V k55 55 w5 0 Q (.slice A5 r1.length c5) r1) := ⟨V_base (Kd.V_mono hv (fun k hk => hk.elim id (fun h => HQ2.out k (Nat.lt_of_lt_of_le HLO.out h))))⟩
                  clear hb hv
                  have y0 : w5.cell? ⟨w.heap.size + 1 + 1, 0, none⟩ = some (.slice none 0 0) := (blk_cell KXr.out 0).trans rfl
                  have y1 : w5.cell? ⟨w.heap.size + 1 + 1, 1, none⟩ = some (.int .i64 0) := (blk_cell KXr.out 1).trans rfl
                  have f0 := blk_frozen KXr.out 0
                  have f1 := blk_frozen KXr.out 1
                  go_wp2
                  refine bodyPost_ret (results_ctt rfl _ _ (w.heap.size + 1 + 1) 24 #[.slice A5 r1.length c5, .int .i64 kp] (0, 0) _ rfl (blk_put (cs := #[.slice A5 r1.length c5, .int .i64 0]) (blk_put (cs := #[.slice none 0 0, .int .i64 0]) KXr.out 0 _ rfl) 1 _ rfl) Try.underlying24 rfl (by kernel_rfl)) rfl ?_
                  refine ⟨A5, c5, rfl, ?_, below_set (below_set HB.out (by omega)) (by omega)⟩
                  exact V_base (Kd.V_mono (Kd.V_far (p := ⟨w.heap.size + 1 + 1, 1, none⟩) (Kd.V_far (p := ⟨w.heap.size + 1 + 1, 0, none⟩) HV5.out (fun k hk => (HQ3.out k hk).2) _) (fun k hk => (HQ3.out k hk).2) _) (fun k hk => HQ4.out k hk))
              | false =>
                have HG : Aside0 (foldO (allocF held) (it.drop i) lj = some l1) := ⟨by have := HE.out; unfold eachP at this; rwa [if_neg (by simp), if_pos (by rw [List.length_drop]; omega)] at this⟩
                clear HE
                by_cases hlt2 : i < it.length
                · have p1 : (i : Int) < (it.length : Int) := by omega
                  replace p1 := eq_true p1
                  have p2 : (i < it.length) = True := eq_true hlt2
                  obtain ⟨ad, rfl, x0, x1⟩ := at_T49 (Kd.V_reads' HVn.out).2.2 (i : Int) (by omega) (by omega)
                  obtain ⟨-, hd⟩ := rd49_mem hlt2
                  rw [Int.toNat_natCast] at x0 x1
                  have hfd := HG.out
                  rw [hd] at hfd
                  obtain ⟨v, hv⟩ : ∃ v, (rd_T49 it (i : Nat)).f1 = v := ⟨_, rfl⟩
                  obtain ⟨u, hu⟩ : ∃ u, (rd_T49 it (i : Nat)).f0 = u := ⟨_, rfl⟩
                  simp only [foldO] at hfd
                  rw [hv] at hfd x1
                  rw [hu] at x0
                  obtain ⟨l2, h2, h3⟩ := Option.bind_eq_some_iff.1 hfd
                  have H2 := Aside0.mk h2
                  have H3 : Aside0 (eachP (allocF held) false (it.drop (i + 1)) l2 = some l1) := ⟨by unfold eachP; rw [if_neg (by simp), if_pos (by rw [List.length_drop]; omega)]; exact h3⟩
                  clear hfd hd hv hu h2 h3 HG
                  go_wp2_with fail
                  clear n0 n1 x0
                  refine (assartref05_In.calls (held.length + 1) A2 c2 held v (decide (v ∈ held)) wr (Kd.C_below HHW.out HB.out) hhc (refInB_val held v (by omega) _ (by omega))).mono ?_
                  rintro e w3 ⟨rfl, hd⟩
                  have hb := hd.below
                  replace KXn := Aside0.mk (blk_below KXn.out hb)
                  replace KXr := Aside0.mk (blk_below KXr.out hb)
                  replace KXo := Aside0.mk (blk_below KXo.out hb)
                  replace HVj := Aside0.mk (Kd.V_below HVj.out hb)
                  replace HVn := Aside0.mk (Kd.V_below HVn.out hb)
                  replace HB := Aside0.mk (HB.out.trans (hb.mono HB.out.size))
                  replace x1 := (hb.cell (World.block_lt_of_cell? wr _ x1)).trans x1
                  clear hb hd
                  by_cases hm : v ∈ held
                  · have hl2 : lj = l2 := by have := H2.out; unfold allocF at this; rw [if_pos hm] at this; exact Option.some.inj this
                    rw [decide_eq_true hm]
                    subst hl2
                    go_wp2
                    go_roundg (it.length - (i + 1))
                    case measure => omega
                    case rel => exact ⟨i + 1, lj, Aj, cj, by simp, by omega, Nat.le_refl _, HLJ, H3, HN0, HB, KXn, KXr, KXo, HVj, HVn⟩
                  · have hhp : holdP lj v = some l2 := by have := H2.out; unfold allocF at this; rwa [if_neg hm] at this
                    obtain ⟨q, rfl, hq, hq2, hq3, hll, hn2⟩ := holdP_heldN hhp HN0.out
                    rw [decide_eq_false hm]
                    have hq0 := HN0.out q hq
                    have HN2 := Aside0.mk hn2
                    have HLL := Aside0.mk hll
                    have Hq2 := Aside0.mk hq2
                    have hq1 : lj.length < 1000000 := by rw [HLJ.out]; exact hl
                    have HQ := Aside0.mk hq
                    have HQ1 := Aside0.mk hq1
                    have HQ0 := Aside0.mk hq0
                    have HQ3' := Aside0.mk hq3
                    clear hhp hn2 hll hq2 hq hq0 hq1 hq3 H2
                    go_wp2_with fail
                    have Z0 : Aside0 (w3.cell? ⟨w2.heap.size, 0, none⟩ = some (.slice Aj lj.length cj)) := ⟨(blk_cell KXo.out 0).trans rfl⟩
                    have Z1 : Aside0 (w3.cell? ⟨w2.heap.size, 1, none⟩ = some (.int .i64 kp)) := ⟨(blk_cell KXo.out 1).trans rfl⟩
                    have Z2 : Aside0 (w3.cell? ⟨w.heap.size + 1, 0, none⟩ = some (.bool false)) := ⟨(blk_cell KXn.out 0).trans rfl⟩
                    have Z3 : Aside0 (w3.cell? ⟨w.heap.size + 1, 1, none⟩ = some (.slice (some ad) it.length c1)) := ⟨(blk_cell KXn.out 1).trans rfl⟩
                    have Z4 : Aside0 (w3.cell? ⟨(ad.add (i * 2)).block, (ad.add (i * 2)).off + 1, none⟩ = some (.int .i64 q)) := ⟨x1⟩
                    clear x1
                    replace Z0 : Aside0 (w3.drew.cell? ⟨w2.heap.size, 0, none⟩ = some (.slice Aj lj.length cj)) := ⟨Z0.out⟩
                    replace Z1 : Aside0 (w3.drew.cell? ⟨w2.heap.size, 1, none⟩ = some (.int .i64 kp)) := ⟨Z1.out⟩
                    replace Z2 : Aside0 (w3.drew.cell? ⟨w.heap.size + 1, 0, none⟩ = some (.bool false)) := ⟨Z2.out⟩
                    replace Z3 : Aside0 (w3.drew.cell? ⟨w.heap.size + 1, 1, none⟩ = some (.slice (some ad) it.length c1)) := ⟨Z3.out⟩
                    replace Z4 : Aside0 (w3.drew.cell? ⟨(ad.add (i * 2)).block, (ad.add (i * 2)).off + 1, none⟩ = some (.int .i64 q)) := ⟨Z4.out⟩
                    replace KXn := Aside0.mk (blk_drew KXn.out)
                    replace KXr := Aside0.mk (blk_drew KXr.out)
                    replace KXo := Aside0.mk (blk_drew KXo.out)
                    replace HVj := Aside0.mk (Kd.V_drew HVj.out)
                    replace HVn := Aside0.mk (Kd.V_drew HVn.out)
                    replace HB := Aside0.mk (below_drew HB.out)
                    refine start_ (n := 9) (S := fun w' => w'.cell? ⟨w2.heap.size, 0, none⟩ = some (.slice Aj lj.length cj) ∧ w'.cell? ⟨w2.heap.size, 1, none⟩ = some (.int .i64 kp) ∧ w'.cell? ⟨w.heap.size + 1, 0, none⟩ = some (.bool false) ∧ w'.cell? ⟨w.heap.size + 1, 1, none⟩ = some (.slice (some ad) it.length c1) ∧ w'.cell? ⟨(ad.add (i * 2)).block, (ad.add (i * 2)).off + 1, none⟩ = some (.int .i64 q)) (ds := [8]) #[false, false, false, false, false, false, false, false, false] (by kernel_rfl) rfl rfl ⟨Z0.out, Z1.out, Z2.out, Z3.out, Z4.out⟩ (fun hHeld => ?_)
                    refine with_tabW hAl.tab15 hAl.bits15 (fun HT_ HW_ => ?_)
                    generalize w3.drew = wdr15 at Z0 Z1 Z2 Z3 Z4 KXn KXr KXo HVj HVn HB hHeld ⊢
                    refine take_ (i := 0) (N := some 78) (v := ?_) (a' := ?_) #[true, false, false, false, false, false, false, false, false] rfl rfl (take_ofW HT_.out HW_.out (by kernel_rfl)) (fun _ _ _ h => h) (Or.inl ⟨by rfl, ?_⟩) hHeld ?_ ?_
                    rotate_left
                    · rintro w' ⟨s0, s1, s2, s3, s4⟩
                      go_simp
                      with_reducible rfl
                    rotate_left
                    · simp only [Act.put, List.setIfInBounds_toArray, List.set_cons_zero, List.set_cons_succ, i64_w, i32_w]
                      rfl
                    refine pure_ (i := 1) (N := some 79) (v := ?_) (a' := ?_) #[true, true, false, false, false, false, false, false, false] rfl rfl (any_of HT_.out (by kernel_rfl)) (fun _ _ _ h => h) (Or.inl ⟨by rfl, ?_⟩) ?_ ?_
                    rotate_left
                    · intro w'
                      go_simp
                      with_reducible rfl
                    rotate_left
                    · simp only [Act.put, List.setIfInBounds_toArray, List.set_cons_zero, List.set_cons_succ, i64_w, i32_w]
                      rfl
                    refine take_ (i := 2) (N := some 80) (v := ?_) (a' := ?_) #[true, true, true, false, false, false, false, false, false] rfl rfl (take_ofW HT_.out HW_.out (by kernel_rfl)) (fun _ _ _ h => h) (Or.inl ⟨by rfl, ?_⟩) hHeld ?_ ?_
                    rotate_left
                    · rintro w' ⟨s0, s1, s2, s3, s4⟩
                      go_simp
                      with_reducible rfl
                    rotate_left
                    · simp only [Act.put, List.setIfInBounds_toArray, List.set_cons_zero, List.set_cons_succ, i64_w, i32_w]
                      rfl
                    refine pure_ (i := 3) (N := some 81) (v := ?_) (a' := ?_) #[true, true, true, true, false, false, false, false, false] rfl rfl (any_of HT_.out (by kernel_rfl)) (fun _ _ _ h => h) (Or.inl ⟨by rfl, ?_⟩) ?_ ?_
                    rotate_left
                    · intro w'
                      go_simp
                      with_reducible rfl
                    rotate_left
                    · simp only [Act.put, List.setIfInBounds_toArray, List.set_cons_zero, List.set_cons_succ, i64_w, i32_w]
                      rfl
                    refine pure_ (i := 4) (N := some 82) (v := ?_) (a' := ?_) #[true, true, true, true, true, false, false, false, false] rfl rfl (any_of HT_.out (by kernel_rfl)) (fun _ _ _ h => h) (Or.inl ⟨by rfl, ?_⟩) ?_ ?_
                    rotate_left
                    · intro w'
                      go_simp
                      with_reducible rfl
                    rotate_left
                    · simp only [Act.put, List.setIfInBounds_toArray, List.set_cons_zero, List.set_cons_succ, i64_w, i32_w]
                      rfl
                    refine pure_ (i := 5) (N := some 83) (v := ?_) (a' := ?_) #[true, true, true, true, true, true, false, false, false] rfl rfl (any_of HT_.out (by kernel_rfl)) (fun _ _ _ h => h) (Or.inl ⟨by rfl, ?_⟩) ?_ ?_
                    rotate_left
                    · intro w'
                      go_simp
                      with_reducible rfl
                    rotate_left
                    · simp only [Act.put, List.setIfInBounds_toArray, List.set_cons_zero, List.set_cons_succ, i64_w, i32_w]
                      rfl
                    refine take_ (i := 6) (N := some 84) (v := ?_) (a' := ?_) #[true, true, true, true, true, true, true, false, false] rfl rfl (take_ofW HT_.out HW_.out (by kernel_rfl)) (fun _ _ _ h => h) (Or.inl ⟨by rfl, ?_⟩) hHeld ?_ ?_
                    rotate_left
                    · rintro w' ⟨s0, s1, s2, s3, s4⟩
                      go_simp
                      with_reducible rfl
                    rotate_left
                    · simp only [Act.put, List.setIfInBounds_toArray, List.set_cons_zero, List.set_cons_succ, i64_w, i32_w]
                      rfl
                    refine one_ (i := 7) (N := some 85) #[true, true, true, true, true, true, true, true, false] rfl rfl (one_of HT_.out (by kernel_rfl)) (by decide) (fun K hK => ?_)
                    refine goes_ Try.func79 (by kernel_rfl) rfl #[.agg #[.slice Aj lj.length cj, .int .i64 kp], .int .i64 q] (by rfl) rfl rfl (by (try simp only [List.map_toArray, List.map_cons, List.map_nil]); first | done | rfl | (simp only [List.length_drop, List.length_take]; rfl)) ?_
                    with_reducible refine (more_walk Q Aj cj lj kp q _ (V_base HVj.out) HQ.out HQ1.out HQ0.out HQ3'.out).mono ?_
                    rintro e wcr7 ⟨A3, c3, rfl, hv, hb⟩
                    have HLO := Aside0.mk (blk_lt KXo.out)
                    have HV3 := Aside0.mk hv
                    clear hv
                    rw [Hq2.out] at HV3 ⊢
                    refine ⟨_, rfl, ?_⟩
                    replace Z0 : Aside0 (wcr7.cell? ⟨w2.heap.size, 0, none⟩ = some (.slice Aj lj.length cj)) := ⟨(hb.cell (World.block_lt_of_cell? wdr15 _ Z0.out)).trans Z0.out⟩
                    replace Z1 : Aside0 (wcr7.cell? ⟨w2.heap.size, 1, none⟩ = some (.int .i64 kp)) := ⟨(hb.cell (World.block_lt_of_cell? wdr15 _ Z1.out)).trans Z1.out⟩
                    replace Z2 : Aside0 (wcr7.cell? ⟨w.heap.size + 1, 0, none⟩ = some (.bool false)) := ⟨(hb.cell (World.block_lt_of_cell? wdr15 _ Z2.out)).trans Z2.out⟩
                    replace Z3 : Aside0 (wcr7.cell? ⟨w.heap.size + 1, 1, none⟩ = some (.slice (some ad) it.length c1)) := ⟨(hb.cell (World.block_lt_of_cell? wdr15 _ Z3.out)).trans Z3.out⟩
                    replace Z4 : Aside0 (wcr7.cell? ⟨(ad.add (i * 2)).block, (ad.add (i * 2)).off + 1, none⟩ = some (.int .i64 q)) := ⟨(hb.cell (World.block_lt_of_cell? wdr15 _ Z4.out)).trans Z4.out⟩
                    replace KXn := Aside0.mk (blk_below KXn.out hb)
                    replace KXr := Aside0.mk (blk_below KXr.out hb)
                    replace KXo := Aside0.mk (blk_below KXo.out hb)
                    replace HVj := Aside0.mk (Kd.V_below HVj.out hb)
                    replace HVn := Aside0.mk (Kd.V_below HVn.out hb)
                    replace HB := Aside0.mk (HB.out.trans (hb.mono HB.out.size))
                    clear hb hHeld
                    refine hK.out _ _ ⟨Z0.out, Z1.out, Z2.out, Z3.out, Z4.out⟩ (fun hHeld => ?_)
                    clear hK K
                    refine norm_ (a' := ?_) ?_ ?_
                    rotate_left
                    · show Act.put _ (some 85) _ = _
                      simp only [Act.put, List.setIfInBounds_toArray, List.set_cons_zero, List.set_cons_succ, i64_w, i32_w]
                      rfl
                    refine last_ (i := 8) (N := none) #[true, true, true, true, true, true, true, true, true] rfl rfl (one_of HT_.out (by kernel_rfl)) (by decide) (fun K hK => ?_)
                    have o0 : wcr7.cell? ⟨w2.heap.size, 0, none⟩ = some (.slice Aj lj.length cj) := (blk_cell KXo.out 0).trans rfl
                    have o1 : wcr7.cell? ⟨w2.heap.size, 1, none⟩ = some (.int .i64 kp) := (blk_cell KXo.out 1).trans rfl
                    have f0 := blk_frozen KXo.out 0
                    have f1 := blk_frozen KXo.out 1
                    refine skip_ (w1 := ?_) (by rfl) rfl ?_ ?_
                    rotate_left
                    · go_simp
                      rfl
                    refine hK.out _ _ ?_
                    clear hK K
                    refine done_ (done_of HT_.out (by kernel_rfl)) ?_
                    clear hHeld HT_ HW_
                    clear o0 o1 f0 f1 Z0 Z1 Z2 Z3 Z4
                    go_wp2
                    go_roundg (it.length - (i + 1))
                    case measure => omega
                    case rel =>
                      have hs := HSZ.out
                      refine ⟨i + 1, l2, A3, c3, by simp, by omega, Nat.le_refl _, ⟨by rw [HLL.out]; exact HLJ.out⟩, H3, HN2, ⟨below_set (below_set HB.out (by omega)) (by omega)⟩, ⟨blk_far (blk_far KXn.out (p := ⟨w2.heap.size, 0, none⟩) (by show w.heap.size + 1 ≠ w2.heap.size; omega) _) (p := ⟨w2.heap.size, 1, none⟩) (by show w.heap.size + 1 ≠ w2.heap.size; omega) _⟩, ⟨blk_far (blk_far KXr.out (p := ⟨w2.heap.size, 0, none⟩) (by show w.heap.size + 1 + 1 ≠ w2.heap.size; omega) _) (p := ⟨w2.heap.size, 1, none⟩) (by show w.heap.size + 1 + 1 ≠ w2.heap.size; omega) _⟩, ⟨blk_put (blk_put KXo.out 0 _ rfl) 1 _ rfl⟩, ⟨?_⟩, ⟨?_⟩⟩
                      · exact Kd.V_far (p := ⟨w2.heap.size, 1, none⟩) (Kd.V_far (p := ⟨w2.heap.size, 0, none⟩) (V_base (Kd.V_mono HV3.out (fun k hk => hk.elim id (fun h => HQ2.out k (Nat.lt_of_lt_of_le HLO.out h))))) (fun k hk => (HQ3.out k hk).1) _) (fun k hk => (HQ3.out k hk).1) _
                      · exact Kd.V_far (p := ⟨w2.heap.size, 1, none⟩) (Kd.V_far (p := ⟨w2.heap.size, 0, none⟩) HVn.out (fun k hk => (HQ3.out k hk).1) _) (fun k hk => (HQ3.out k hk).1) _
                · obtain rfl : i = it.length := by omega
                  have hl1 : lj = l1 := by have := HG.out; rw [List.drop_length] at this; exact Option.some.inj this
                  have HL1 := Aside0.mk hl1
                  clear hl1
                  have o0 : wr.cell? ⟨w2.heap.size, 0, none⟩ = some (.slice Aj lj.length cj) := (blk_cell KXo.out 0).trans rfl
                  have o1 : wr.cell? ⟨w2.heap.size, 1, none⟩ = some (.int .i64 kp) := (blk_cell KXo.out 1).trans rfl
                  have lo : w2.heap.size < wr.heap.size := blk_lt KXo.out
                  obtain ⟨er1, er3, er4⟩ := HR.out (by rw [← HL1.out]; exact HLJ.out)
                  have HER := Aside0.mk er1
                  obtain rfl := er3.symm
                  obtain rfl := er4.symm
                  clear er1 er3 er4
                  go_wp2_with fail
                  clear n0 n1 o0 o1 lo
                  refine (set_row Q Aj cj lj kp j ⟨1, false, ⟨false, it⟩⟩ A1 c1 wr (V_base HVj.out) (V_base HVn.out) (by rw [HLJ.out]; exact hlt) (by rw [HLJ.out]; exact hl)).mono ?_
                  rintro e w5 ⟨A5, c5, rfl, hv, hb⟩
                  rw [HL1.out, ← HER.out] at hv ⊢
                  have HLO := Aside0.mk (blk_lt KXo.out)
                  replace KXr := Aside0.mk (blk_below KXr.out hb)
                  replace HB := Aside0.mk (HB.out.trans (hb.mono HB.out.size))
                  have HV5 : Aside0 (Kd.V k55 55 w5 0 Q (.slice A5 r1.length c5) r1) := ⟨V_base (Kd.V_mono hv (fun k hk => hk.elim id (fun h => HQ2.out k (Nat.lt_of_lt_of_le HLO.out h))))⟩
                  clear hb hv
                  have y0 : w5.cell? ⟨w.heap.size + 1 + 1, 0, none⟩ = some (.slice none 0 0) := (blk_cell KXr.out 0).trans rfl
                  have y1 : w5.cell? ⟨w.heap.size + 1 + 1, 1, none⟩ = some (.int .i64 0) := (blk_cell KXr.out 1).trans rfl
                  have f0 := blk_frozen KXr.out 0
                  have f1 := blk_frozen KXr.out 1
                  go_wp2
                  refine bodyPost_ret (results_ctt rfl _ _ (w.heap.size + 1 + 1) 24 #[.slice A5 r1.length c5, .int .i64 kp] (0, 0) _ rfl (blk_put (cs := #[.slice A5 r1.length c5, .int .i64 0]) (blk_put (cs := #[.slice none 0 0, .int .i64 0]) KXr.out 0 _ rfl) 1 _ rfl) Try.underlying24 rfl (by kernel_rfl)) rfl ?_
                  refine ⟨A5, c5, rfl, ?_, below_set (below_set HB.out (by omega)) (by omega)⟩
                  exact V_base (Kd.V_mono (Kd.V_far (p := ⟨w.heap.size + 1 + 1, 1, none⟩) (Kd.V_far (p := ⟨w.heap.size + 1 + 1, 0, none⟩) HV5.out (fun k hk => (HQ3.out k hk).2) _) (fun k hk => (HQ3.out k hk).2) _) (fun k hk => HQ4.out k hk))
          · rw [Bool.not_eq_true] at hfr
            have HF2 : Aside0 (∀ k : Nat, k < j + 1 → isFreeB (rd_T55 l (k : Nat)) = false) := ⟨fun k hk => by
              by_cases e : k = j
              · rw [e]; exact hfr
              · exact HFB.out k (by omega)⟩
            have hbz := busy_free _ hge
            rw [hfr] at hbz
            generalize (rd_T55 l (j : Nat)).f0 = rf at z0 hbz hge
            generalize (rd_T55 l (j : Nat)).f1 = pn at z1 hbz
            by_cases hz : rf > 0
            · have hz1 : decide (rf > 0) = true := decide_eq_true hz
              have hz2 : (0 < rf) = True := eq_true hz
              clear hbz
              go_wp2
              go_roundg (l.length - (j + 1))
              case measure => omega
              case rel => exact ⟨j + 1, by simp, by omega, Nat.le_refl _, ⟨rfl⟩, HF2⟩
            · have hz1 : decide (rf > 0) = false := decide_eq_false hz
              have hz2 : (0 < rf) = False := eq_false hz
              rw [hz1] at hbz
              obtain rfl : pn = true := by simpa using hbz
              clear hbz
              go_wp2
              go_roundg (l.length - (j + 1))
              case measure => omega
              case rel => exact ⟨j + 1, by simp, by omega, Nat.le_refl _, ⟨rfl⟩, HF2⟩
        · obtain rfl : j = l.length := by omega
          have hidx : idxN isFreeB l 0 < 0 := by
            have := idxN_any isFreeB l 0
            have h2 : l.any isFreeB = false := by
              rw [List.any_eq_false]
              intro x hx
              obtain ⟨i, hi, rfl⟩ := List.mem_iff_getElem.1 hx
              have := HFB.out i hi
              rw [rd55_at hi] at this
              rw [this]
              simp
            rw [h2] at this
            have := of_decide_eq_false this
            omega
          have HE : Aside0 (r1 = l ∧ r3 = 0 ∧ r4 = 3) := ⟨by
            have := HF.out
            unfold heap_Alloc.f at this
            rw [if_pos ⟨hl, by omega, by omega⟩, if_pos ⟨h1, h2⟩, if_pos hidx] at this
            simpa [eq_comm] using this⟩
          clear hidx
          have y0 : w2.cell? ⟨w.heap.size + 1 + 1, 0, none⟩ = some (.slice none 0 0) := (blk_cell KXr.out 0).trans rfl
          have y1 : w2.cell? ⟨w.heap.size + 1 + 1, 1, none⟩ = some (.int .i64 0) := (blk_cell KXr.out 1).trans rfl
          have f0 := blk_frozen KXr.out 0
          have f1 := blk_frozen KXr.out 1
          go_wp2
          refine bodyPost_ret (results_ctt rfl _ _ (w.heap.size + 1 + 1) 24 #[.slice A l.length c, .int .i64 kp] (0, 0) _ rfl (blk_put (cs := #[.slice A l.length c, .int .i64 0]) (blk_put (cs := #[.slice none 0 0, .int .i64 0]) KXr.out 0 _ rfl) 1 _ rfl) Try.underlying24 rfl (by kernel_rfl)) rfl ?_
          obtain ⟨e1, e2, e3⟩ := HE.out
          rw [e1, e2, e3]
          have hne : ∀ k, P' k → k ≠ w.heap.size + 1 + 1 := fun k hk => by have := (HP.out k hk).2; omega
          refine ⟨A, c, rfl, ?_, below_set (below_set HB.out (by omega)) (by omega)⟩
          exact V_base (Kd.V_mono (Kd.V_far (p := ⟨w.heap.size + 1 + 1, 1, none⟩) (Kd.V_far (p := ⟨w.heap.size + 1 + 1, 0, none⟩) HVl.out hne _) hne _) fun k hk => .inl (HP.out k hk).1)
    · have HE : Aside0 (r1 = l ∧ r3 = 0 ∧ r4 = 1) := ⟨by
        have := HF.out
        unfold heap_Alloc.f at this
        rw [if_pos ⟨hl, by omega, by omega⟩, if_neg (fun h => h2 h.2)] at this
        simpa [eq_comm] using this⟩
      rw [Bool.not_eq_true] at h2
      rw [h2]
      go_wp2
      refine bodyPost_ret (results_ctt rfl _ _ (w.heap.size + 1 + 1) 24 #[.slice A l.length c, .int .i64 kp] (0, 0) _ rfl (blk_put (cs := #[.slice A l.length c, .int .i64 0]) (blk_put (cs := #[.slice none 0 0, .int .i64 0]) KXr.out 0 _ rfl) 1 _ rfl) Try.underlying24 rfl (by kernel_rfl)) rfl ?_
      obtain ⟨e1, e2, e3⟩ := HE.out
      rw [e1, e2, e3]
      have hne : ∀ k, P' k → k ≠ w.heap.size + 1 + 1 := fun k hk => by have := (HP.out k hk).2; omega
      refine ⟨A, c, rfl, ?_, below_set (below_set HB.out (by omega)) (by omega)⟩
      exact V_base (Kd.V_mono (Kd.V_far (p := ⟨w.heap.size + 1 + 1, 1, none⟩) (Kd.V_far (p := ⟨w.heap.size + 1 + 1, 0, none⟩) HVl.out hne _) hne _) fun k hk => .inl (HP.out k hk).1)
  · rw [decide_eq_false h1]
    have HE : Aside0 (r1 = l ∧ r3 = 0 ∧ r4 = 1) := ⟨by
      have := HF.out
      unfold heap_Alloc.f at this
      rw [if_pos ⟨hl, by omega, by omega⟩, if_neg (fun h => h1 h.1)] at this
      simpa [eq_comm] using this⟩
    go_wp2
    refine bodyPost_ret (results_ctt rfl _ _ (w.heap.size + 1 + 1) 24 #[.slice A l.length c, .int .i64 kp] (0, 0) _ rfl (blk_put (cs := #[.slice A l.length c, .int .i64 0]) (blk_put (cs := #[.slice none 0 0, .int .i64 0]) KXr.out 0 _ rfl) 1 _ rfl) Try.underlying24 rfl (by kernel_rfl)) rfl ?_
    obtain ⟨e1, e2, e3⟩ := HE.out
    rw [e1, e2, e3]
    have hne : ∀ k, P' k → k ≠ w.heap.size + 1 + 1 := fun k hk => by have := (HP.out k hk).2; omega
    refine ⟨A, c, rfl, ?_, below_set (below_set HB.out (by omega)) (by omega)⟩
    exact V_base (Kd.V_mono (Kd.V_far (p := ⟨w.heap.size + 1 + 1, 1, none⟩) (Kd.V_far (p := ⟨w.heap.size + 1 + 1, 0, none⟩) HVl.out hne _) hne _) fun k hk => .inl (HP.out k hk).1)
end Go.Proofs.Yteiladccdenpbaa.P
end
section
namespace Go.Proofs.Yteiladccdenpbaa.P
open Go.RowKit Go.Proofs.YteiladccdenpbaaW.PrintWords Go.Proofs.YteiladccdenpbaaW.PrintLast Go.Proofs.YteiladccdenpbaaW.PrintMore
set_option linter.unusedVariables false
set_option linter.unusedSimpArgs false
def hDo.T14 : Bool × List (List Nat × List Nat) := (true, [([], []), ([0], [0]), ([1], [1]), ([1], [1]), ([2, 3, 1, 1], [1, 2, 3]), ([1, 4], [1, 4]), ([5, 4], [5]), ([6], [6]), ([6], [6]), ([7, 8, 6], [6, 7, 8]), ([6, 9], [6, 9]), ([10, 6], [10]), ([11], [11]), ([11], [11]), ([12, 13, 11], [11, 12, 13]), ([11, 14], [11, 14]), ([15, 11], [15]), ([16], [16]), ([16], [16]), ([17, 18, 16, 16], [16, 17, 18]), ([16, 19], [16, 19]), ([20, 19], [20]), ([21], [21]), ([21], [21]), ([22, 23, 21], [21, 22, 23]), ([21, 24], [21, 24]), ([25, 21], [25]), ([26], [26]), ([26], [26]), ([27, 28, 26, 26], [26, 27, 28]), ([26, 29], [26, 29]), ([30, 29], [30]), ([31], [31]), ([31], [31]), ([32, 33, 31], [31, 32, 33]), ([31, 34], [31, 34]), ([35, 31], [35]), ([36], [36]), ([37, 36, 36], [36, 37]), ([36], [36]), ([39, 38, 36], [36, 39]), ([38, 40, 40, 36], [36, 38, 40]), ([36, 41], [36, 41]), ([42, 41, 0, 1, 2, 3, 4, 5, 6, 7, 8, 9, 10, 11, 12, 13, 14, 15, 16, 17, 18, 19, 20, 21, 22, 23, 24, 25, 26, 27, 28, 29, 30, 31, 32, 33, 34, 35, 36, 37, 38, 39, 40, 41, 42], [42])])
def hDo.B14 : List Nat := [0, 1, 3, 3, 15, 31, 63, 127, 127, 511, 1023, 2047, 4095, 4095, 16383, 32767, 65535, 131071, 131071, 524287, 1048575, 2097151, 4194303, 4194303, 16777215, 33554431, 67108863, 134217727, 134217727, 536870911, 1073741823, 2147483647, 4294967295, 4294967295, 17179869183, 34359738367, 68719476735, 137438953471, 274877906943, 137438953471, 1099511627775, 2199023255551, 4398046511103, 8796093022207]
theorem hDo.tab14 : rtab .any (opsOf Try.f10 14) = hDo.T14 := by kernel_rfl
theorem hDo.bits14 : waitsOk hDo.T14.2 hDo.B14 = true := by kernel_rfl
set_option maxHeartbeats 8000000 in
set_option maxRecDepth 100000 in
theorem assartlaw05_HeapDoes.walk (A : Option Addr) (c : Nat) (l : List S55) (kp : Int) (leaf : Bool) (A1 : Option Addr) (c1 : Nat) (it : List S49) (A2 : Option Addr) (c2 : Nat) (held : List Int) (p : Int) (w : World) (hr : Kd.C k55 w A l.length l) (hc : l.length ≤ c) (hr1 : Kd.C k49 w A1 it.length it) (hc1 : it.length ≤ c1) (hh : Kd.C (Kd.int .i64) w A2 held.length held) (hhc : held.length ≤ c2) :
    Calls Try.prog 10 #[.agg #[.slice A l.length c, .int .i64 kp, .bool leaf, .slice A1 it.length c1, .slice A2 held.length c2, .int .i64 p]] w fun e w' => e = .returned (.bool true) ∧ Below w.heap.size w w' := by
  obtain ⟨wA, hwA⟩ : ∃ wA, ((w.alloc (.cells #[.slice A l.length c, .int .i64 kp, .bool leaf, .slice A1 it.length c1, .slice A2 held.length c2, .int .i64 p] 71)).alloc (.cells #[.slice A l.length c, .int .i64 kp] 24)).alloc (.cells #[.bool leaf, .slice A1 it.length c1] 53) = wA := ⟨_, rfl⟩
  have HB : Aside0 (Below w.heap.size w wA) := ⟨by rw [← hwA]; exact (((Below.refl _ w).alloc (Nat.le_refl _) _).alloc (by simp) _).alloc (by simp; omega) _⟩
  have KXh : Aside0 (wA.heap[w.heap.size + 1]? = some (.cells #[.slice A l.length c, .int .i64 kp] 24 (0, 0))) := ⟨by
    rw [← hwA]
    have := alloc_new (w.alloc (.cells #[.slice A l.length c, .int .i64 kp, .bool leaf, .slice A1 it.length c1, .slice A2 held.length c2, .int .i64 p] 71)) (.cells #[.slice A l.length c, .int .i64 kp] 24)
    rw [World.size_alloc] at this
    exact blk_alloc this _⟩
  have KXn : Aside0 (wA.heap[w.heap.size + 1 + 1]? = some (.cells #[.bool leaf, .slice A1 it.length c1] 53 (0, 0))) := ⟨by
    rw [← hwA]
    have := alloc_new ((w.alloc (.cells #[.slice A l.length c, .int .i64 kp, .bool leaf, .slice A1 it.length c1, .slice A2 held.length c2, .int .i64 p] 71)).alloc (.cells #[.slice A l.length c, .int .i64 kp] 24)) (.cells #[.bool leaf, .slice A1 it.length c1] 53)
    rwa [World.size_alloc, World.size_alloc] at this⟩
  have KX0 : wA.heap[w.heap.size]? = some (.cells #[.slice A l.length c, .int .i64 kp, .bool leaf, .slice A1 it.length c1, .slice A2 held.length c2, .int .i64 p] 71 (0, 0)) := by rw [← hwA]; exact blk_alloc (blk_alloc (alloc_new w _) _) _
  have b4 : wA.cell? ⟨w.heap.size, 4, none⟩ = some (.slice A2 held.length c2) := (blk_cell KX0 4).trans rfl
  have b5 : wA.cell? ⟨w.heap.size, 5, none⟩ = some (.int .i64 p) := (blk_cell KX0 5).trans rfl
  clear KX0
  have HVl : Aside0 (Kd.V k55 55 wA 0 (fun k => k < w.heap.size) (.slice A l.length c) l) := ⟨Kd.V_below (Kd.V_mk hc (Kd.C_F k55_heap hr)) HB.out⟩
  have HVn : Aside0 (Kd.V k49 49 wA 0 (fun k => k < w.heap.size) (.slice A1 it.length c1) it) := ⟨Kd.V_below (Kd.V_mk hc1 (Kd.C_F k49_heap hr1)) HB.out⟩
  have HH : Aside0 (Kd.C (Kd.int .i64) wA A2 held.length held) := ⟨Kd.C_below hh HB.out⟩
  have HSZ := Aside0.mk (show w.heap.size + 1 + 1 < wA.heap.size from blk_lt KXn.out)
  have hm := may05_val l kp 60 (by omega) 10000 (by omega)
  rw [show ((60 : Nat) : Int) = 60 from rfl] at hm
  have HM := Aside0.mk hm
  clear hr hc hr1 hc1 hm hh
  have hu24 := Try.underlying24
  have hu53 := Try.underlying53
  have hu71 := Try.underlying71
  go_enter Try.func10, Try.ntmps10
  go_wp2_with fail
  refine (assartlaw05_shown.calls true wA rfl).mono ?_
  rintro e w1 ⟨rfl, hb⟩
  replace HB := Aside0.mk (HB.out.trans (hb.mono HB.out.size))
  replace KXh := Aside0.mk (blk_below KXh.out hb)
  replace KXn := Aside0.mk (blk_below KXn.out hb)
  replace HVl := Aside0.mk (Kd.V_below HVl.out hb)
  replace HVn := Aside0.mk (Kd.V_below HVn.out hb)
  replace HH := Aside0.mk (Kd.C_below HH.out hb)
  clear hb hwA HSZ b4 b5
  have xh_0 : w1.cell? ⟨w.heap.size + 1, 0, none⟩ = some (.slice A l.length c) := (blk_cell KXh.out 0).trans rfl
  have xh_1 : w1.cell? ⟨w.heap.size + 1, 1, none⟩ = some (.int .i64 kp) := (blk_cell KXh.out 1).trans rfl
  have lh : w.heap.size + 1 < w1.heap.size := blk_lt KXh.out
  have xn_0 : w1.cell? ⟨w.heap.size + 1 + 1, 0, none⟩ = some (.bool leaf) := (blk_cell KXn.out 0).trans rfl
  have xn_1 : w1.cell? ⟨w.heap.size + 1 + 1, 1, none⟩ = some (.slice A1 it.length c1) := (blk_cell KXn.out 1).trans rfl
  have ln : w.heap.size + 1 + 1 < w1.heap.size := blk_lt KXn.out
  go_wp2_with fail
  clear xh_0 xh_1 lh xn_0 xn_1 ln
  refine (assartref05_May.calls 10000 A c l kp 60 (decide (mayH l kp 60)) w1 (Kd.V_reads' HVl.out).2.2 (Kd.V_reads' HVl.out).2.1 HM.out).mono ?_
  rintro e w2 ⟨rfl, hb⟩
  replace HB := Aside0.mk (HB.out.trans (hb.mono HB.out.size))
  replace KXh := Aside0.mk (blk_below KXh.out hb)
  replace KXn := Aside0.mk (blk_below KXn.out hb)
  replace HVl := Aside0.mk (Kd.V_below HVl.out hb)
  replace HVn := Aside0.mk (Kd.V_below HVn.out hb)
  replace HH := Aside0.mk (Kd.C_below HH.out hb)
  clear hb HM
  by_cases h1 : mayH l kp 60
  · rw [decide_eq_true h1]
    by_cases hit : it.length ≤ 10
    · by_cases hh20 : held.length ≤ 20
      · have xh_0 : w2.cell? ⟨w.heap.size + 1, 0, none⟩ = some (.slice A l.length c) := (blk_cell KXh.out 0).trans rfl
        have xh_1 : w2.cell? ⟨w.heap.size + 1, 1, none⟩ = some (.int .i64 kp) := (blk_cell KXh.out 1).trans rfl
        have lh : w.heap.size + 1 < w2.heap.size := blk_lt KXh.out
        have xn_0 : w2.cell? ⟨w.heap.size + 1 + 1, 0, none⟩ = some (.bool leaf) := (blk_cell KXn.out 0).trans rfl
        have xn_1 : w2.cell? ⟨w.heap.size + 1 + 1, 1, none⟩ = some (.slice A1 it.length c1) := (blk_cell KXn.out 1).trans rfl
        have ln : w.heap.size + 1 + 1 < w2.heap.size := blk_lt KXn.out
        have hc10 : decide ((it.length : Int) > 10) = false := decide_eq_false (by omega)
        have hc20 : decide ((held.length : Int) > 20) = false := decide_eq_false (by omega)
        go_wp2_with fail
        clear hc10 hc20 xh_0 xh_1 lh xn_0 xn_1 ln
        have hl60 := h1.1
        obtain ⟨la, ra, ca_, hal, hla, hia⟩ := does_alloc held l kp leaf it hl60 hit hh20 h1.2.1 h1.2.2
        obtain ⟨hho, hlh, hih⟩ := does_hold l kp p hl60 h1.2.1
        obtain ⟨lo, co_, K, hlo1, hlo2, hll, hil⟩ := does_loose l kp p hl60 h1.2.1 h1.2.2
        obtain ⟨hse, hls, his⟩ := does_settle l kp hl60 h1.2.1 h1.2.2
        have hsm : ∀ m : List S55, m.length = l.length → (∀ x ∈ m, x.f2.f1.length ≤ 10) → assartref05_Same.f 10000 m kp m kp = some true := fun m h2 h3 => by
          rw [refSame_val m m kp kp (by omega) (fun x hx => by have := h3 x hx; omega) (by omega)]
          simp
        have HBD : Aside0 (∀ i : Nat, i < l.length → 0 ≤ (rd_T55 l (i : Nat)).f0 ∧ (rd_T55 l (i : Nat)).f0 ≤ 1000000) := ⟨fun i hi => by
          have := goodL_may h1.2.1 h1.2.2 i hi
          exact ⟨this.1, this.2.1⟩⟩
        have HSA := Aside0.mk (hsm la hla hia)
        have HSH := Aside0.mk (hsm _ hlh hih)
        have HSL := Aside0.mk (hsm lo hll hil)
        have HSS := Aside0.mk (hsm _ hls his)
        have HAL := Aside0.mk hal
        have HHO := Aside0.mk hho
        have HLO1 := Aside0.mk hlo1
        have HLO2 := Aside0.mk hlo2
        have HSE := Aside0.mk hse
        obtain ⟨lh, hlh_⟩ : ∃ m, (refHoldF l p).1 = m := ⟨_, rfl⟩
        obtain ⟨ch_, hch_⟩ : ∃ m, (refHoldF l p).2 = m := ⟨_, rfl⟩
        obtain ⟨ls, hls_⟩ : ∃ m, stT l l.length = m := ⟨_, rfl⟩
        rw [hlh_, hch_] at HHO
        rw [hlh_] at HSH
        rw [hls_] at HSE HSS
        have HEH := Aside0.mk hlh_
        have HEC := Aside0.mk hch_
        have HES := Aside0.mk hls_
        clear hal hla hia hho hlh hih hlo1 hlo2 hll hil hse hls his hsm hlh_ hch_ hls_
        refine (heap_Alloc.calls (fun _ => True) A c l kp leaf (fun _ => True) A1 c1 it A2 c2 held la kp ra ca_ w2 (V_base (Kd.V_mono HVl.out (fun _ _ => trivial))) (V_base (Kd.V_mono HVn.out (fun _ _ => trivial))) HH.out hhc HAL.out).mono ?_
        rintro e w11 ⟨v_, rfl, hv, hb⟩
        replace HB := Aside0.mk (HB.out.trans (hb.mono HB.out.size))
        replace KXh := Aside0.mk (blk_below KXh.out hb)
        replace KXn := Aside0.mk (blk_below KXn.out hb)
        replace HVl := Aside0.mk (Kd.V_below HVl.out hb)
        replace HVn := Aside0.mk (Kd.V_below HVn.out hb)
        replace HH := Aside0.mk (Kd.C_below HH.out hb)
        obtain ⟨Aa, ca, ev⟩ := Kd.V_slice hv
        subst ev
        have HVa : Aside0 (Kd.V k55 55 w11 0 (fun _ => True) (.slice Aa la.length ca) la) := ⟨V_base (Kd.V_mono hv (fun _ _ => trivial))⟩
        clear hv hb
        have xh_0 : w11.cell? ⟨w.heap.size + 1, 0, none⟩ = some (.slice A l.length c) := (blk_cell KXh.out 0).trans rfl
        have xh_1 : w11.cell? ⟨w.heap.size + 1, 1, none⟩ = some (.int .i64 kp) := (blk_cell KXh.out 1).trans rfl
        have lh : w.heap.size + 1 < w11.heap.size := blk_lt KXh.out
        have xn_0 : w11.cell? ⟨w.heap.size + 1 + 1, 0, none⟩ = some (.bool leaf) := (blk_cell KXn.out 0).trans rfl
        have xn_1 : w11.cell? ⟨w.heap.size + 1 + 1, 1, none⟩ = some (.slice A1 it.length c1) := (blk_cell KXn.out 1).trans rfl
        have ln : w.heap.size + 1 + 1 < w11.heap.size := blk_lt KXn.out
        go_wp2_with fail
        clear xh_0 xh_1 lh xn_0 xn_1 ln
        have hpre : Below w11.heap.size w11 (w11.alloc (.cells #[.slice Aa la.length ca, .int .i64 kp] 24)) := (Below.refl w11.heap.size w11).alloc (Nat.le_refl _) _
        replace HB := Aside0.mk (HB.out.trans (hpre.mono HB.out.size))
        replace KXh := Aside0.mk (blk_below KXh.out hpre)
        replace KXn := Aside0.mk (blk_below KXn.out hpre)
        replace HVl := Aside0.mk (Kd.V_below HVl.out hpre)
        replace HVn := Aside0.mk (Kd.V_below HVn.out hpre)
        replace HH := Aside0.mk (Kd.C_below HH.out hpre)
        replace HVa := Aside0.mk (Kd.V_below HVa.out hpre)
        have KXa : Aside0 ((w11.alloc (.cells #[.slice Aa la.length ca, .int .i64 kp] 24)).heap[w11.heap.size]? = some (.cells #[.slice Aa la.length ca, .int .i64 kp] 24 (0, 0))) := ⟨alloc_new w11 _⟩
        clear hpre
        obtain ⟨w12, hw_⟩ : ∃ w_, (w11.alloc (.cells #[.slice Aa la.length ca, .int .i64 kp] 24)) = w_ := ⟨_, rfl⟩
        rw [hw_]
        rw [hw_] at HB KXh KXn HVl HVn HH HVa KXa
        clear hw_
        refine (refAlloc_walk (fun _ => True) A c l kp leaf A1 c1 it A2 c2 held la ra ca_ w12 (V_base (Kd.V_mono HVl.out (fun _ _ => trivial))) (V_base (Kd.V_mono HVn.out (fun _ _ => trivial))) HH.out hhc (by omega) (by omega) (by omega) HBD.out HAL.out).mono ?_
        rintro e w13 ⟨Ab, cb, rfl, hv, hb⟩
        replace HB := Aside0.mk (HB.out.trans (hb.mono HB.out.size))
        replace KXh := Aside0.mk (blk_below KXh.out hb)
        replace KXn := Aside0.mk (blk_below KXn.out hb)
        replace HVl := Aside0.mk (Kd.V_below HVl.out hb)
        replace HVn := Aside0.mk (Kd.V_below HVn.out hb)
        replace HH := Aside0.mk (Kd.C_below HH.out hb)
        replace HVa := Aside0.mk (Kd.V_below HVa.out hb)
        replace KXa := Aside0.mk (blk_below KXa.out hb)
        have HVb : Aside0 (Kd.V k55 55 w13 0 (fun _ => True) (.slice Ab la.length cb) la) := ⟨V_base (Kd.V_mono hv (fun _ _ => trivial))⟩
        clear hv hb HAL
        have xh_0 : w13.cell? ⟨w.heap.size + 1, 0, none⟩ = some (.slice A l.length c) := (blk_cell KXh.out 0).trans rfl
        have xh_1 : w13.cell? ⟨w.heap.size + 1, 1, none⟩ = some (.int .i64 kp) := (blk_cell KXh.out 1).trans rfl
        have lh : w.heap.size + 1 < w13.heap.size := blk_lt KXh.out
        have xn_0 : w13.cell? ⟨w.heap.size + 1 + 1, 0, none⟩ = some (.bool leaf) := (blk_cell KXn.out 0).trans rfl
        have xn_1 : w13.cell? ⟨w.heap.size + 1 + 1, 1, none⟩ = some (.slice A1 it.length c1) := (blk_cell KXn.out 1).trans rfl
        have ln : w.heap.size + 1 + 1 < w13.heap.size := blk_lt KXn.out
        go_wp2_with fail
        clear xh_0 xh_1 lh xn_0 xn_1 ln
        have hpre : Below w13.heap.size w13 (w13.alloc (.cells #[.slice Ab la.length cb, .int .i64 kp] 24)) := (Below.refl w13.heap.size w13).alloc (Nat.le_refl _) _
        replace HB := Aside0.mk (HB.out.trans (hpre.mono HB.out.size))
        replace KXh := Aside0.mk (blk_below KXh.out hpre)
        replace KXn := Aside0.mk (blk_below KXn.out hpre)
        replace HVl := Aside0.mk (Kd.V_below HVl.out hpre)
        replace HVn := Aside0.mk (Kd.V_below HVn.out hpre)
        replace HH := Aside0.mk (Kd.C_below HH.out hpre)
        replace HVa := Aside0.mk (Kd.V_below HVa.out hpre)
        replace KXa := Aside0.mk (blk_below KXa.out hpre)
        replace HVb := Aside0.mk (Kd.V_below HVb.out hpre)
        have KXb : Aside0 ((w13.alloc (.cells #[.slice Ab la.length cb, .int .i64 kp] 24)).heap[w13.heap.size]? = some (.cells #[.slice Ab la.length cb, .int .i64 kp] 24 (0, 0))) := ⟨alloc_new w13 _⟩
        clear hpre
        obtain ⟨w14, hw_⟩ : ∃ w_, (w13.alloc (.cells #[.slice Ab la.length cb, .int .i64 kp] 24)) = w_ := ⟨_, rfl⟩
        rw [hw_]
        rw [hw_] at HB KXh KXn HVl HVn HH HVa KXa HVb KXb
        clear hw_
        refine (heap_Hold.calls (fun _ => True) A c l kp p lh kp ch_ w14 (V_base (Kd.V_mono HVl.out (fun _ _ => trivial))) HHO.out).mono ?_
        rintro e w15 ⟨v_, rfl, hv, hb⟩
        replace HB := Aside0.mk (HB.out.trans (hb.mono HB.out.size))
        replace KXh := Aside0.mk (blk_below KXh.out hb)
        replace KXn := Aside0.mk (blk_below KXn.out hb)
        replace HVl := Aside0.mk (Kd.V_below HVl.out hb)
        replace HVn := Aside0.mk (Kd.V_below HVn.out hb)
        replace HH := Aside0.mk (Kd.C_below HH.out hb)
        replace HVa := Aside0.mk (Kd.V_below HVa.out hb)
        replace KXa := Aside0.mk (blk_below KXa.out hb)
        replace HVb := Aside0.mk (Kd.V_below HVb.out hb)
        replace KXb := Aside0.mk (blk_below KXb.out hb)
        obtain ⟨Ac, cc, ev⟩ := Kd.V_slice hv
        subst ev
        have HVc : Aside0 (Kd.V k55 55 w15 0 (fun _ => True) (.slice Ac lh.length cc) lh) := ⟨V_base (Kd.V_mono hv (fun _ _ => trivial))⟩
        clear hv hb HHO
        have xh_0 : w15.cell? ⟨w.heap.size + 1, 0, none⟩ = some (.slice A l.length c) := (blk_cell KXh.out 0).trans rfl
        have xh_1 : w15.cell? ⟨w.heap.size + 1, 1, none⟩ = some (.int .i64 kp) := (blk_cell KXh.out 1).trans rfl
        have lh : w.heap.size + 1 < w15.heap.size := blk_lt KXh.out
        have xn_0 : w15.cell? ⟨w.heap.size + 1 + 1, 0, none⟩ = some (.bool leaf) := (blk_cell KXn.out 0).trans rfl
        have xn_1 : w15.cell? ⟨w.heap.size + 1 + 1, 1, none⟩ = some (.slice A1 it.length c1) := (blk_cell KXn.out 1).trans rfl
        have ln : w.heap.size + 1 + 1 < w15.heap.size := blk_lt KXn.out
        go_wp2_with fail
        clear xh_0 xh_1 lh xn_0 xn_1 ln
        have hpre : Below w15.heap.size w15 (w15.alloc (.cells #[.slice Ac lh.length cc, .int .i64 kp] 24)) := (Below.refl w15.heap.size w15).alloc (Nat.le_refl _) _
        replace HB := Aside0.mk (HB.out.trans (hpre.mono HB.out.size))
        replace KXh := Aside0.mk (blk_below KXh.out hpre)
        replace KXn := Aside0.mk (blk_below KXn.out hpre)
        replace HVl := Aside0.mk (Kd.V_below HVl.out hpre)
        replace HVn := Aside0.mk (Kd.V_below HVn.out hpre)
        replace HH := Aside0.mk (Kd.C_below HH.out hpre)
        replace HVa := Aside0.mk (Kd.V_below HVa.out hpre)
        replace KXa := Aside0.mk (blk_below KXa.out hpre)
        replace HVb := Aside0.mk (Kd.V_below HVb.out hpre)
        replace KXb := Aside0.mk (blk_below KXb.out hpre)
        replace HVc := Aside0.mk (Kd.V_below HVc.out hpre)
        have KXc : Aside0 ((w15.alloc (.cells #[.slice Ac lh.length cc, .int .i64 kp] 24)).heap[w15.heap.size]? = some (.cells #[.slice Ac lh.length cc, .int .i64 kp] 24 (0, 0))) := ⟨alloc_new w15 _⟩
        clear hpre
        obtain ⟨w16, hw_⟩ : ∃ w_, (w15.alloc (.cells #[.slice Ac lh.length cc, .int .i64 kp] 24)) = w_ := ⟨_, rfl⟩
        rw [hw_]
        rw [hw_] at HB KXh KXn HVl HVn HH HVa KXa HVb KXb HVc KXc
        clear hw_
        refine (refHold_walk (fun _ => True) A c l kp p w16 (V_base (Kd.V_mono HVl.out (fun _ _ => trivial))) (by omega) (fun i hi => by have := (HBD.out i hi).2; omega)).mono ?_
        rintro e w17 ⟨Ad, cd, rfl, hv, hb⟩
        rw [HEH.out, HEC.out]
        rw [HEH.out] at hv
        replace HB := Aside0.mk (HB.out.trans (hb.mono HB.out.size))
        replace KXh := Aside0.mk (blk_below KXh.out hb)
        replace KXn := Aside0.mk (blk_below KXn.out hb)
        replace HVl := Aside0.mk (Kd.V_below HVl.out hb)
        replace HVn := Aside0.mk (Kd.V_below HVn.out hb)
        replace HH := Aside0.mk (Kd.C_below HH.out hb)
        replace HVa := Aside0.mk (Kd.V_below HVa.out hb)
        replace KXa := Aside0.mk (blk_below KXa.out hb)
        replace HVb := Aside0.mk (Kd.V_below HVb.out hb)
        replace KXb := Aside0.mk (blk_below KXb.out hb)
        replace HVc := Aside0.mk (Kd.V_below HVc.out hb)
        replace KXc := Aside0.mk (blk_below KXc.out hb)
        have HVd : Aside0 (Kd.V k55 55 w17 0 (fun _ => True) (.slice Ad lh.length cd) lh) := ⟨V_base (Kd.V_mono hv (fun _ _ => trivial))⟩
        clear hv hb HEH HEC
        have xh_0 : w17.cell? ⟨w.heap.size + 1, 0, none⟩ = some (.slice A l.length c) := (blk_cell KXh.out 0).trans rfl
        have xh_1 : w17.cell? ⟨w.heap.size + 1, 1, none⟩ = some (.int .i64 kp) := (blk_cell KXh.out 1).trans rfl
        have lh : w.heap.size + 1 < w17.heap.size := blk_lt KXh.out
        have xn_0 : w17.cell? ⟨w.heap.size + 1 + 1, 0, none⟩ = some (.bool leaf) := (blk_cell KXn.out 0).trans rfl
        have xn_1 : w17.cell? ⟨w.heap.size + 1 + 1, 1, none⟩ = some (.slice A1 it.length c1) := (blk_cell KXn.out 1).trans rfl
        have ln : w.heap.size + 1 + 1 < w17.heap.size := blk_lt KXn.out
        go_wp2_with fail
        clear xh_0 xh_1 lh xn_0 xn_1 ln
        have hpre : Below w17.heap.size w17 (w17.alloc (.cells #[.slice Ad lh.length cd, .int .i64 kp] 24)) := (Below.refl w17.heap.size w17).alloc (Nat.le_refl _) _
        replace HB := Aside0.mk (HB.out.trans (hpre.mono HB.out.size))
        replace KXh := Aside0.mk (blk_below KXh.out hpre)
        replace KXn := Aside0.mk (blk_below KXn.out hpre)
        replace HVl := Aside0.mk (Kd.V_below HVl.out hpre)
        replace HVn := Aside0.mk (Kd.V_below HVn.out hpre)
        replace HH := Aside0.mk (Kd.C_below HH.out hpre)
        replace HVa := Aside0.mk (Kd.V_below HVa.out hpre)
        replace KXa := Aside0.mk (blk_below KXa.out hpre)
        replace HVb := Aside0.mk (Kd.V_below HVb.out hpre)
        replace KXb := Aside0.mk (blk_below KXb.out hpre)
        replace HVc := Aside0.mk (Kd.V_below HVc.out hpre)
        replace KXc := Aside0.mk (blk_below KXc.out hpre)
        replace HVd := Aside0.mk (Kd.V_below HVd.out hpre)
        have KXd : Aside0 ((w17.alloc (.cells #[.slice Ad lh.length cd, .int .i64 kp] 24)).heap[w17.heap.size]? = some (.cells #[.slice Ad lh.length cd, .int .i64 kp] 24 (0, 0))) := ⟨alloc_new w17 _⟩
        clear hpre
        obtain ⟨w18, hw_⟩ : ∃ w_, (w17.alloc (.cells #[.slice Ad lh.length cd, .int .i64 kp] 24)) = w_ := ⟨_, rfl⟩
        rw [hw_]
        rw [hw_] at HB KXh KXn HVl HVn HH HVa KXa HVb KXb HVc KXc HVd KXd
        clear hw_
        refine (heap_Loose.calls (fun _ => True) A c l kp p lo kp co_ w18 (V_base (Kd.V_mono HVl.out (fun _ _ => trivial))) HLO1.out).mono ?_
        rintro e w19 ⟨v_, rfl, hv, hb⟩
        replace HB := Aside0.mk (HB.out.trans (hb.mono HB.out.size))
        replace KXh := Aside0.mk (blk_below KXh.out hb)
        replace KXn := Aside0.mk (blk_below KXn.out hb)
        replace HVl := Aside0.mk (Kd.V_below HVl.out hb)
        replace HVn := Aside0.mk (Kd.V_below HVn.out hb)
        replace HH := Aside0.mk (Kd.C_below HH.out hb)
        replace HVa := Aside0.mk (Kd.V_below HVa.out hb)
        replace KXa := Aside0.mk (blk_below KXa.out hb)
        replace HVb := Aside0.mk (Kd.V_below HVb.out hb)
        replace KXb := Aside0.mk (blk_below KXb.out hb)
        replace HVc := Aside0.mk (Kd.V_below HVc.out hb)
        replace KXc := Aside0.mk (blk_below KXc.out hb)
        replace HVd := Aside0.mk (Kd.V_below HVd.out hb)
        replace KXd := Aside0.mk (blk_below KXd.out hb)
        obtain ⟨As, cs, ev⟩ := Kd.V_slice hv
        subst ev
        have HVs : Aside0 (Kd.V k55 55 w19 0 (fun _ => True) (.slice As lo.length cs) lo) := ⟨V_base (Kd.V_mono hv (fun _ _ => trivial))⟩
        clear hv hb HLO1
        have xh_0 : w19.cell? ⟨w.heap.size + 1, 0, none⟩ = some (.slice A l.length c) := (blk_cell KXh.out 0).trans rfl
        have xh_1 : w19.cell? ⟨w.heap.size + 1, 1, none⟩ = some (.int .i64 kp) := (blk_cell KXh.out 1).trans rfl
        have lh : w.heap.size + 1 < w19.heap.size := blk_lt KXh.out
        have xn_0 : w19.cell? ⟨w.heap.size + 1 + 1, 0, none⟩ = some (.bool leaf) := (blk_cell KXn.out 0).trans rfl
        have xn_1 : w19.cell? ⟨w.heap.size + 1 + 1, 1, none⟩ = some (.slice A1 it.length c1) := (blk_cell KXn.out 1).trans rfl
        have ln : w.heap.size + 1 + 1 < w19.heap.size := blk_lt KXn.out
        go_wp2_with fail
        clear xh_0 xh_1 lh xn_0 xn_1 ln
        have hpre : Below w19.heap.size w19 (w19.alloc (.cells #[.slice As lo.length cs, .int .i64 kp] 24)) := (Below.refl w19.heap.size w19).alloc (Nat.le_refl _) _
        replace HB := Aside0.mk (HB.out.trans (hpre.mono HB.out.size))
        replace KXh := Aside0.mk (blk_below KXh.out hpre)
        replace KXn := Aside0.mk (blk_below KXn.out hpre)
        replace HVl := Aside0.mk (Kd.V_below HVl.out hpre)
        replace HVn := Aside0.mk (Kd.V_below HVn.out hpre)
        replace HH := Aside0.mk (Kd.C_below HH.out hpre)
        replace HVa := Aside0.mk (Kd.V_below HVa.out hpre)
        replace KXa := Aside0.mk (blk_below KXa.out hpre)
        replace HVb := Aside0.mk (Kd.V_below HVb.out hpre)
        replace KXb := Aside0.mk (blk_below KXb.out hpre)
        replace HVc := Aside0.mk (Kd.V_below HVc.out hpre)
        replace KXc := Aside0.mk (blk_below KXc.out hpre)
        replace HVd := Aside0.mk (Kd.V_below HVd.out hpre)
        replace KXd := Aside0.mk (blk_below KXd.out hpre)
        replace HVs := Aside0.mk (Kd.V_below HVs.out hpre)
        have KXs : Aside0 ((w19.alloc (.cells #[.slice As lo.length cs, .int .i64 kp] 24)).heap[w19.heap.size]? = some (.cells #[.slice As lo.length cs, .int .i64 kp] 24 (0, 0))) := ⟨alloc_new w19 _⟩
        clear hpre
        obtain ⟨w20, hw_⟩ : ∃ w_, (w19.alloc (.cells #[.slice As lo.length cs, .int .i64 kp] 24)) = w_ := ⟨_, rfl⟩
        rw [hw_]
        rw [hw_] at HB KXh KXn HVl HVn HH HVa KXa HVb KXb HVc KXc HVd KXd HVs KXs
        clear hw_
        refine (assartref05_Loose.calls K (fun _ => True) A c l kp p lo kp co_ w20 (V_base (Kd.V_mono HVl.out (fun _ _ => trivial))) HLO2.out).mono ?_
        rintro e w21 ⟨v_, rfl, hv, hb⟩
        replace HB := Aside0.mk (HB.out.trans (hb.mono HB.out.size))
        replace KXh := Aside0.mk (blk_below KXh.out hb)
        replace KXn := Aside0.mk (blk_below KXn.out hb)
        replace HVl := Aside0.mk (Kd.V_below HVl.out hb)
        replace HVn := Aside0.mk (Kd.V_below HVn.out hb)
        replace HH := Aside0.mk (Kd.C_below HH.out hb)
        replace HVa := Aside0.mk (Kd.V_below HVa.out hb)
        replace KXa := Aside0.mk (blk_below KXa.out hb)
        replace HVb := Aside0.mk (Kd.V_below HVb.out hb)
        replace KXb := Aside0.mk (blk_below KXb.out hb)
        replace HVc := Aside0.mk (Kd.V_below HVc.out hb)
        replace KXc := Aside0.mk (blk_below KXc.out hb)
        replace HVd := Aside0.mk (Kd.V_below HVd.out hb)
        replace KXd := Aside0.mk (blk_below KXd.out hb)
        replace HVs := Aside0.mk (Kd.V_below HVs.out hb)
        replace KXs := Aside0.mk (blk_below KXs.out hb)
        obtain ⟨At, ct, ev⟩ := Kd.V_slice hv
        subst ev
        have HVt : Aside0 (Kd.V k55 55 w21 0 (fun _ => True) (.slice At lo.length ct) lo) := ⟨V_base (Kd.V_mono hv (fun _ _ => trivial))⟩
        clear hv hb HLO2
        have xh_0 : w21.cell? ⟨w.heap.size + 1, 0, none⟩ = some (.slice A l.length c) := (blk_cell KXh.out 0).trans rfl
        have xh_1 : w21.cell? ⟨w.heap.size + 1, 1, none⟩ = some (.int .i64 kp) := (blk_cell KXh.out 1).trans rfl
        have lh : w.heap.size + 1 < w21.heap.size := blk_lt KXh.out
        have xn_0 : w21.cell? ⟨w.heap.size + 1 + 1, 0, none⟩ = some (.bool leaf) := (blk_cell KXn.out 0).trans rfl
        have xn_1 : w21.cell? ⟨w.heap.size + 1 + 1, 1, none⟩ = some (.slice A1 it.length c1) := (blk_cell KXn.out 1).trans rfl
        have ln : w.heap.size + 1 + 1 < w21.heap.size := blk_lt KXn.out
        go_wp2_with fail
        clear xh_0 xh_1 lh xn_0 xn_1 ln
        have hpre : Below w21.heap.size w21 (w21.alloc (.cells #[.slice At lo.length ct, .int .i64 kp] 24)) := (Below.refl w21.heap.size w21).alloc (Nat.le_refl _) _
        replace HB := Aside0.mk (HB.out.trans (hpre.mono HB.out.size))
        replace KXh := Aside0.mk (blk_below KXh.out hpre)
        replace KXn := Aside0.mk (blk_below KXn.out hpre)
        replace HVl := Aside0.mk (Kd.V_below HVl.out hpre)
        replace HVn := Aside0.mk (Kd.V_below HVn.out hpre)
        replace HH := Aside0.mk (Kd.C_below HH.out hpre)
        replace HVa := Aside0.mk (Kd.V_below HVa.out hpre)
        replace KXa := Aside0.mk (blk_below KXa.out hpre)
        replace HVb := Aside0.mk (Kd.V_below HVb.out hpre)
        replace KXb := Aside0.mk (blk_below KXb.out hpre)
        replace HVc := Aside0.mk (Kd.V_below HVc.out hpre)
        replace KXc := Aside0.mk (blk_below KXc.out hpre)
        replace HVd := Aside0.mk (Kd.V_below HVd.out hpre)
        replace KXd := Aside0.mk (blk_below KXd.out hpre)
        replace HVs := Aside0.mk (Kd.V_below HVs.out hpre)
        replace KXs := Aside0.mk (blk_below KXs.out hpre)
        replace HVt := Aside0.mk (Kd.V_below HVt.out hpre)
        have KXt : Aside0 ((w21.alloc (.cells #[.slice At lo.length ct, .int .i64 kp] 24)).heap[w21.heap.size]? = some (.cells #[.slice At lo.length ct, .int .i64 kp] 24 (0, 0))) := ⟨alloc_new w21 _⟩
        clear hpre
        obtain ⟨w22, hw_⟩ : ∃ w_, (w21.alloc (.cells #[.slice At lo.length ct, .int .i64 kp] 24)) = w_ := ⟨_, rfl⟩
        rw [hw_]
        rw [hw_] at HB KXh KXn HVl HVn HH HVa KXa HVb KXb HVc KXc HVd KXd HVs KXs HVt KXt
        clear hw_
        have Za0 : Aside0 (w22.cell? ⟨w11.heap.size, 0, none⟩ = some (.slice Aa la.length ca)) := ⟨(blk_cell KXa.out 0).trans rfl⟩
        have Za1 : Aside0 (w22.cell? ⟨w11.heap.size, 1, none⟩ = some (.int .i64 kp)) := ⟨(blk_cell KXa.out 1).trans rfl⟩
        have Zb0 : Aside0 (w22.cell? ⟨w13.heap.size, 0, none⟩ = some (.slice Ab la.length cb)) := ⟨(blk_cell KXb.out 0).trans rfl⟩
        have Zb1 : Aside0 (w22.cell? ⟨w13.heap.size, 1, none⟩ = some (.int .i64 kp)) := ⟨(blk_cell KXb.out 1).trans rfl⟩
        have Zc0 : Aside0 (w22.cell? ⟨w15.heap.size, 0, none⟩ = some (.slice Ac lh.length cc)) := ⟨(blk_cell KXc.out 0).trans rfl⟩
        have Zc1 : Aside0 (w22.cell? ⟨w15.heap.size, 1, none⟩ = some (.int .i64 kp)) := ⟨(blk_cell KXc.out 1).trans rfl⟩
        have Zd0 : Aside0 (w22.cell? ⟨w17.heap.size, 0, none⟩ = some (.slice Ad lh.length cd)) := ⟨(blk_cell KXd.out 0).trans rfl⟩
        have Zd1 : Aside0 (w22.cell? ⟨w17.heap.size, 1, none⟩ = some (.int .i64 kp)) := ⟨(blk_cell KXd.out 1).trans rfl⟩
        have Zs0 : Aside0 (w22.cell? ⟨w19.heap.size, 0, none⟩ = some (.slice As lo.length cs)) := ⟨(blk_cell KXs.out 0).trans rfl⟩
        have Zs1 : Aside0 (w22.cell? ⟨w19.heap.size, 1, none⟩ = some (.int .i64 kp)) := ⟨(blk_cell KXs.out 1).trans rfl⟩
        have Zt0 : Aside0 (w22.cell? ⟨w21.heap.size, 0, none⟩ = some (.slice At lo.length ct)) := ⟨(blk_cell KXt.out 0).trans rfl⟩
        have Zt1 : Aside0 (w22.cell? ⟨w21.heap.size, 1, none⟩ = some (.int .i64 kp)) := ⟨(blk_cell KXt.out 1).trans rfl⟩
        have Zh0 : Aside0 (w22.cell? ⟨w.heap.size + 1, 0, none⟩ = some (.slice A l.length c)) := ⟨(blk_cell KXh.out 0).trans rfl⟩
        have Zh1 : Aside0 (w22.cell? ⟨w.heap.size + 1, 1, none⟩ = some (.int .i64 kp)) := ⟨(blk_cell KXh.out 1).trans rfl⟩
        replace Za0 : Aside0 (w22.drew.cell? ⟨w11.heap.size, 0, none⟩ = some (.slice Aa la.length ca)) := ⟨Za0.out⟩
        replace Za1 : Aside0 (w22.drew.cell? ⟨w11.heap.size, 1, none⟩ = some (.int .i64 kp)) := ⟨Za1.out⟩
        replace Zb0 : Aside0 (w22.drew.cell? ⟨w13.heap.size, 0, none⟩ = some (.slice Ab la.length cb)) := ⟨Zb0.out⟩
        replace Zb1 : Aside0 (w22.drew.cell? ⟨w13.heap.size, 1, none⟩ = some (.int .i64 kp)) := ⟨Zb1.out⟩
        replace Zc0 : Aside0 (w22.drew.cell? ⟨w15.heap.size, 0, none⟩ = some (.slice Ac lh.length cc)) := ⟨Zc0.out⟩
        replace Zc1 : Aside0 (w22.drew.cell? ⟨w15.heap.size, 1, none⟩ = some (.int .i64 kp)) := ⟨Zc1.out⟩
        replace Zd0 : Aside0 (w22.drew.cell? ⟨w17.heap.size, 0, none⟩ = some (.slice Ad lh.length cd)) := ⟨Zd0.out⟩
        replace Zd1 : Aside0 (w22.drew.cell? ⟨w17.heap.size, 1, none⟩ = some (.int .i64 kp)) := ⟨Zd1.out⟩
        replace Zs0 : Aside0 (w22.drew.cell? ⟨w19.heap.size, 0, none⟩ = some (.slice As lo.length cs)) := ⟨Zs0.out⟩
        replace Zs1 : Aside0 (w22.drew.cell? ⟨w19.heap.size, 1, none⟩ = some (.int .i64 kp)) := ⟨Zs1.out⟩
        replace Zt0 : Aside0 (w22.drew.cell? ⟨w21.heap.size, 0, none⟩ = some (.slice At lo.length ct)) := ⟨Zt0.out⟩
        replace Zt1 : Aside0 (w22.drew.cell? ⟨w21.heap.size, 1, none⟩ = some (.int .i64 kp)) := ⟨Zt1.out⟩
        replace Zh0 : Aside0 (w22.drew.cell? ⟨w.heap.size + 1, 0, none⟩ = some (.slice A l.length c)) := ⟨Zh0.out⟩
        replace Zh1 : Aside0 (w22.drew.cell? ⟨w.heap.size + 1, 1, none⟩ = some (.int .i64 kp)) := ⟨Zh1.out⟩
        replace HB := Aside0.mk (below_drew HB.out)
        replace KXh := Aside0.mk (blk_drew KXh.out)
        replace KXn := Aside0.mk (blk_drew KXn.out)
        replace HVl := Aside0.mk (Kd.V_drew HVl.out)
        replace HVn := Aside0.mk (Kd.V_drew HVn.out)
        replace HH := Aside0.mk (Kd.C_drew HH.out)
        replace HVa := Aside0.mk (Kd.V_drew HVa.out)
        replace KXa := Aside0.mk (blk_drew KXa.out)
        replace HVb := Aside0.mk (Kd.V_drew HVb.out)
        replace KXb := Aside0.mk (blk_drew KXb.out)
        replace HVc := Aside0.mk (Kd.V_drew HVc.out)
        replace KXc := Aside0.mk (blk_drew KXc.out)
        replace HVd := Aside0.mk (Kd.V_drew HVd.out)
        replace KXd := Aside0.mk (blk_drew KXd.out)
        replace HVs := Aside0.mk (Kd.V_drew HVs.out)
        replace KXs := Aside0.mk (blk_drew KXs.out)
        replace HVt := Aside0.mk (Kd.V_drew HVt.out)
        replace KXt := Aside0.mk (blk_drew KXt.out)
        refine start_ (n := 44) (S := fun w' => w'.cell? ⟨w11.heap.size, 0, none⟩ = some (.slice Aa la.length ca) ∧ w'.cell? ⟨w11.heap.size, 1, none⟩ = some (.int .i64 kp) ∧ w'.cell? ⟨w13.heap.size, 0, none⟩ = some (.slice Ab la.length cb) ∧ w'.cell? ⟨w13.heap.size, 1, none⟩ = some (.int .i64 kp) ∧ w'.cell? ⟨w15.heap.size, 0, none⟩ = some (.slice Ac lh.length cc) ∧ w'.cell? ⟨w15.heap.size, 1, none⟩ = some (.int .i64 kp) ∧ w'.cell? ⟨w17.heap.size, 0, none⟩ = some (.slice Ad lh.length cd) ∧ w'.cell? ⟨w17.heap.size, 1, none⟩ = some (.int .i64 kp) ∧ w'.cell? ⟨w19.heap.size, 0, none⟩ = some (.slice As lo.length cs) ∧ w'.cell? ⟨w19.heap.size, 1, none⟩ = some (.int .i64 kp) ∧ w'.cell? ⟨w21.heap.size, 0, none⟩ = some (.slice At lo.length ct) ∧ w'.cell? ⟨w21.heap.size, 1, none⟩ = some (.int .i64 kp) ∧ w'.cell? ⟨w.heap.size + 1, 0, none⟩ = some (.slice A l.length c) ∧ w'.cell? ⟨w.heap.size + 1, 1, none⟩ = some (.int .i64 kp)) (ds := []) #[false, false, false, false, false, false, false, false, false, false, false, false, false, false, false, false, false, false, false, false, false, false, false, false, false, false, false, false, false, false, false, false, false, false, false, false, false, false, false, false, false, false, false, false] (by kernel_rfl) rfl rfl ⟨Za0.out, Za1.out, Zb0.out, Zb1.out, Zc0.out, Zc1.out, Zd0.out, Zd1.out, Zs0.out, Zs1.out, Zt0.out, Zt1.out, Zh0.out, Zh1.out⟩ (fun hHeld => ?_)
        refine with_tabW hDo.tab14 hDo.bits14 (fun HT_ HW_ => ?_)
        generalize w22.drew = wdr14 at Za0 Za1 Zb0 Zb1 Zc0 Zc1 Zd0 Zd1 Zs0 Zs1 Zt0 Zt1 Zh0 Zh1 HB KXh KXn HVl HVn HH HVa KXa HVb KXb HVc KXc HVd KXd HVs KXs HVt KXt hHeld ⊢
        refine pure_ (i := 0) (N := some 86) (v := ?_) (a' := ?_) #[true, false, false, false, false, false, false, false, false, false, false, false, false, false, false, false, false, false, false, false, false, false, false, false, false, false, false, false, false, false, false, false, false, false, false, false, false, false, false, false, false, false, false, false] rfl rfl (any_of HT_.out (by kernel_rfl)) (fun _ _ _ h => h) (Or.inl ⟨by rfl, ?_⟩) ?_ ?_
        rotate_left
        · intro w'
          go_simp
          with_reducible rfl
        rotate_left
        · simp only [Act.put, List.setIfInBounds_toArray, List.set_cons_zero, List.set_cons_succ, i64_w, i32_w]
          rfl
        refine pure_ (i := 1) (N := some 87) (v := ?_) (a' := ?_) #[true, true, false, false, false, false, false, false, false, false, false, false, false, false, false, false, false, false, false, false, false, false, false, false, false, false, false, false, false, false, false, false, false, false, false, false, false, false, false, false, false, false, false, false] rfl rfl (any_of HT_.out (by kernel_rfl)) (fun _ _ _ h => h) (Or.inl ⟨by rfl, ?_⟩) ?_ ?_
        rotate_left
        · intro w'
          go_simp
          with_reducible rfl
        rotate_left
        · simp only [Act.put, List.setIfInBounds_toArray, List.set_cons_zero, List.set_cons_succ, i64_w, i32_w]
          rfl
        refine take_ (i := 2) (N := some 88) (v := ?_) (a' := ?_) #[true, true, true, false, false, false, false, false, false, false, false, false, false, false, false, false, false, false, false, false, false, false, false, false, false, false, false, false, false, false, false, false, false, false, false, false, false, false, false, false, false, false, false, false] rfl rfl (take_ofW HT_.out HW_.out (by kernel_rfl)) (fun _ _ _ h => h) (Or.inl ⟨by rfl, ?_⟩) hHeld ?_ ?_
        rotate_left
        · rintro w' ⟨s0, s1, s2, s3, s4, s5, s6, s7, s8, s9, s10, s11, s12, s13⟩
          go_simp
          with_reducible rfl
        rotate_left
        · simp only [Act.put, List.setIfInBounds_toArray, List.set_cons_zero, List.set_cons_succ, i64_w, i32_w]
          rfl
        refine take_ (i := 3) (N := some 89) (v := ?_) (a' := ?_) #[true, true, true, true, false, false, false, false, false, false, false, false, false, false, false, false, false, false, false, false, false, false, false, false, false, false, false, false, false, false, false, false, false, false, false, false, false, false, false, false, false, false, false, false] rfl rfl (take_ofW HT_.out HW_.out (by kernel_rfl)) (fun _ _ _ h => h) (Or.inl ⟨by rfl, ?_⟩) hHeld ?_ ?_
        rotate_left
        · rintro w' ⟨s0, s1, s2, s3, s4, s5, s6, s7, s8, s9, s10, s11, s12, s13⟩
          go_simp
          with_reducible rfl
        rotate_left
        · simp only [Act.put, List.setIfInBounds_toArray, List.set_cons_zero, List.set_cons_succ, i64_w, i32_w]
          rfl
        refine one_ (i := 4) (N := some 90) #[true, true, true, true, true, false, false, false, false, false, false, false, false, false, false, false, false, false, false, false, false, false, false, false, false, false, false, false, false, false, false, false, false, false, false, false, false, false, false, false, false, false, false, false] rfl rfl (one_of HT_.out (by kernel_rfl)) (by decide) (fun K hK => ?_)
        refine goes_ Try.func37 (by kernel_rfl) rfl #[.agg #[.slice Aa la.length ca, .int .i64 kp], .agg #[.slice Ab la.length cb, .int .i64 kp]] (by rfl) rfl rfl (by (try simp only [List.map_toArray, List.map_cons, List.map_nil]); first | done | rfl | (simp only [List.length_drop, List.length_take]; rfl)) ?_
        with_reducible refine (assartref05_Same.calls 10000 Aa ca la kp Ab cb la kp true _ (Kd.V_reads' HVa.out).2.2 (Kd.V_reads' HVa.out).2.1 (Kd.V_reads' HVb.out).2.2 (Kd.V_reads' HVb.out).2.1 HSA.out).mono ?_
        rintro e wcr4 ⟨rfl, hb⟩
        refine ⟨_, rfl, ?_⟩
        replace Za0 : Aside0 (wcr4.cell? ⟨w11.heap.size, 0, none⟩ = some (.slice Aa la.length ca)) := ⟨(hb.cell (World.block_lt_of_cell? wdr14 _ Za0.out)).trans Za0.out⟩
        replace Za1 : Aside0 (wcr4.cell? ⟨w11.heap.size, 1, none⟩ = some (.int .i64 kp)) := ⟨(hb.cell (World.block_lt_of_cell? wdr14 _ Za1.out)).trans Za1.out⟩
        replace Zb0 : Aside0 (wcr4.cell? ⟨w13.heap.size, 0, none⟩ = some (.slice Ab la.length cb)) := ⟨(hb.cell (World.block_lt_of_cell? wdr14 _ Zb0.out)).trans Zb0.out⟩
        replace Zb1 : Aside0 (wcr4.cell? ⟨w13.heap.size, 1, none⟩ = some (.int .i64 kp)) := ⟨(hb.cell (World.block_lt_of_cell? wdr14 _ Zb1.out)).trans Zb1.out⟩
        replace Zc0 : Aside0 (wcr4.cell? ⟨w15.heap.size, 0, none⟩ = some (.slice Ac lh.length cc)) := ⟨(hb.cell (World.block_lt_of_cell? wdr14 _ Zc0.out)).trans Zc0.out⟩
        replace Zc1 : Aside0 (wcr4.cell? ⟨w15.heap.size, 1, none⟩ = some (.int .i64 kp)) := ⟨(hb.cell (World.block_lt_of_cell? wdr14 _ Zc1.out)).trans Zc1.out⟩
        replace Zd0 : Aside0 (wcr4.cell? ⟨w17.heap.size, 0, none⟩ = some (.slice Ad lh.length cd)) := ⟨(hb.cell (World.block_lt_of_cell? wdr14 _ Zd0.out)).trans Zd0.out⟩
        replace Zd1 : Aside0 (wcr4.cell? ⟨w17.heap.size, 1, none⟩ = some (.int .i64 kp)) := ⟨(hb.cell (World.block_lt_of_cell? wdr14 _ Zd1.out)).trans Zd1.out⟩
        replace Zs0 : Aside0 (wcr4.cell? ⟨w19.heap.size, 0, none⟩ = some (.slice As lo.length cs)) := ⟨(hb.cell (World.block_lt_of_cell? wdr14 _ Zs0.out)).trans Zs0.out⟩
        replace Zs1 : Aside0 (wcr4.cell? ⟨w19.heap.size, 1, none⟩ = some (.int .i64 kp)) := ⟨(hb.cell (World.block_lt_of_cell? wdr14 _ Zs1.out)).trans Zs1.out⟩
        replace Zt0 : Aside0 (wcr4.cell? ⟨w21.heap.size, 0, none⟩ = some (.slice At lo.length ct)) := ⟨(hb.cell (World.block_lt_of_cell? wdr14 _ Zt0.out)).trans Zt0.out⟩
        replace Zt1 : Aside0 (wcr4.cell? ⟨w21.heap.size, 1, none⟩ = some (.int .i64 kp)) := ⟨(hb.cell (World.block_lt_of_cell? wdr14 _ Zt1.out)).trans Zt1.out⟩
        replace Zh0 : Aside0 (wcr4.cell? ⟨w.heap.size + 1, 0, none⟩ = some (.slice A l.length c)) := ⟨(hb.cell (World.block_lt_of_cell? wdr14 _ Zh0.out)).trans Zh0.out⟩
        replace Zh1 : Aside0 (wcr4.cell? ⟨w.heap.size + 1, 1, none⟩ = some (.int .i64 kp)) := ⟨(hb.cell (World.block_lt_of_cell? wdr14 _ Zh1.out)).trans Zh1.out⟩
        replace HB := Aside0.mk (HB.out.trans (hb.mono HB.out.size))
        replace KXh := Aside0.mk (blk_below KXh.out hb)
        replace KXn := Aside0.mk (blk_below KXn.out hb)
        replace HVl := Aside0.mk (Kd.V_below HVl.out hb)
        replace HVn := Aside0.mk (Kd.V_below HVn.out hb)
        replace HH := Aside0.mk (Kd.C_below HH.out hb)
        replace HVa := Aside0.mk (Kd.V_below HVa.out hb)
        replace KXa := Aside0.mk (blk_below KXa.out hb)
        replace HVb := Aside0.mk (Kd.V_below HVb.out hb)
        replace KXb := Aside0.mk (blk_below KXb.out hb)
        replace HVc := Aside0.mk (Kd.V_below HVc.out hb)
        replace KXc := Aside0.mk (blk_below KXc.out hb)
        replace HVd := Aside0.mk (Kd.V_below HVd.out hb)
        replace KXd := Aside0.mk (blk_below KXd.out hb)
        replace HVs := Aside0.mk (Kd.V_below HVs.out hb)
        replace KXs := Aside0.mk (blk_below KXs.out hb)
        replace HVt := Aside0.mk (Kd.V_below HVt.out hb)
        replace KXt := Aside0.mk (blk_below KXt.out hb)
        clear hb hHeld
        refine hK.out _ _ ⟨Za0.out, Za1.out, Zb0.out, Zb1.out, Zc0.out, Zc1.out, Zd0.out, Zd1.out, Zs0.out, Zs1.out, Zt0.out, Zt1.out, Zh0.out, Zh1.out⟩ (fun hHeld => ?_)
        clear hK K
        refine norm_ (a' := ?_) ?_ ?_
        rotate_left
        · show Act.put _ (some 90) _ = _
          simp only [Act.put, List.setIfInBounds_toArray, List.set_cons_zero, List.set_cons_succ, i64_w, i32_w]
          rfl
        refine pure_ (i := 5) (N := some 91) (v := ?_) (a' := ?_) #[true, true, true, true, true, true, false, false, false, false, false, false, false, false, false, false, false, false, false, false, false, false, false, false, false, false, false, false, false, false, false, false, false, false, false, false, false, false, false, false, false, false, false, false] rfl rfl (any_of HT_.out (by kernel_rfl)) (fun _ _ _ h => h) (Or.inl ⟨by rfl, ?_⟩) ?_ ?_
        rotate_left
        · intro w'
          go_simp
          with_reducible rfl
        rotate_left
        · simp only [Act.put, List.setIfInBounds_toArray, List.set_cons_zero, List.set_cons_succ, i64_w, i32_w]
          rfl
        refine pure_ (i := 6) (N := some 92) (v := ?_) (a' := ?_) #[true, true, true, true, true, true, true, false, false, false, false, false, false, false, false, false, false, false, false, false, false, false, false, false, false, false, false, false, false, false, false, false, false, false, false, false, false, false, false, false, false, false, false, false] rfl rfl (any_of HT_.out (by kernel_rfl)) (fun _ _ _ h => h) (Or.inl ⟨by rfl, ?_⟩) ?_ ?_
        rotate_left
        · intro w'
          go_simp
          with_reducible rfl
        rotate_left
        · simp only [Act.put, List.setIfInBounds_toArray, List.set_cons_zero, List.set_cons_succ, i64_w, i32_w]
          rfl
        refine pure_ (i := 7) (N := some 93) (v := ?_) (a' := ?_) #[true, true, true, true, true, true, true, true, false, false, false, false, false, false, false, false, false, false, false, false, false, false, false, false, false, false, false, false, false, false, false, false, false, false, false, false, false, false, false, false, false, false, false, false] rfl rfl (any_of HT_.out (by kernel_rfl)) (fun _ _ _ h => h) (Or.inl ⟨by rfl, ?_⟩) ?_ ?_
        rotate_left
        · intro w'
          go_simp
          with_reducible rfl
        rotate_left
        · simp only [Act.put, List.setIfInBounds_toArray, List.set_cons_zero, List.set_cons_succ, i64_w, i32_w]
          rfl
        refine pure_ (i := 8) (N := some 94) (v := ?_) (a' := ?_) #[true, true, true, true, true, true, true, true, true, false, false, false, false, false, false, false, false, false, false, false, false, false, false, false, false, false, false, false, false, false, false, false, false, false, false, false, false, false, false, false, false, false, false, false] rfl rfl (any_of HT_.out (by kernel_rfl)) (fun _ _ _ h => h) (Or.inl ⟨by rfl, ?_⟩) ?_ ?_
        rotate_left
        · intro w'
          go_simp
          with_reducible rfl
        rotate_left
        · simp only [Act.put, List.setIfInBounds_toArray, List.set_cons_zero, List.set_cons_succ, i64_w, i32_w]
          rfl
        refine pure_ (i := 9) (N := some 95) (v := ?_) (a' := ?_) #[true, true, true, true, true, true, true, true, true, true, false, false, false, false, false, false, false, false, false, false, false, false, false, false, false, false, false, false, false, false, false, false, false, false, false, false, false, false, false, false, false, false, false, false] rfl rfl (any_of HT_.out (by kernel_rfl)) (fun _ _ _ h => h) (Or.inl ⟨by rfl, ?_⟩) ?_ ?_
        rotate_left
        · intro w'
          go_simp
          with_reducible rfl
        rotate_left
        · simp only [Act.put, List.setIfInBounds_toArray, List.set_cons_zero, List.set_cons_succ, i64_w, i32_w]
          rfl
        try rw [beq_self_eq_true]
        refine pure_ (i := 10) (N := some 96) (v := ?_) (a' := ?_) #[true, true, true, true, true, true, true, true, true, true, true, false, false, false, false, false, false, false, false, false, false, false, false, false, false, false, false, false, false, false, false, false, false, false, false, false, false, false, false, false, false, false, false, false] rfl rfl (any_of HT_.out (by kernel_rfl)) (fun _ _ _ h => h) (Or.inl ⟨by rfl, ?_⟩) ?_ ?_
        rotate_left
        · intro w'
          go_simp
          with_reducible rfl
        rotate_left
        · simp only [Act.put, List.setIfInBounds_toArray, List.set_cons_zero, List.set_cons_succ, i64_w, i32_w]
          rfl
        refine pure_ (i := 11) (N := some 97) (v := ?_) (a' := ?_) #[true, true, true, true, true, true, true, true, true, true, true, true, false, false, false, false, false, false, false, false, false, false, false, false, false, false, false, false, false, false, false, false, false, false, false, false, false, false, false, false, false, false, false, false] rfl rfl (any_of HT_.out (by kernel_rfl)) (fun _ _ _ h => h) (Or.inl ⟨by rfl, ?_⟩) ?_ ?_
        rotate_left
        · intro w'
          go_simp
          with_reducible rfl
        rotate_left
        · simp only [Act.put, List.setIfInBounds_toArray, List.set_cons_zero, List.set_cons_succ, i64_w, i32_w]
          rfl
        refine pure_ (i := 12) (N := some 98) (v := ?_) (a' := ?_) #[true, true, true, true, true, true, true, true, true, true, true, true, true, false, false, false, false, false, false, false, false, false, false, false, false, false, false, false, false, false, false, false, false, false, false, false, false, false, false, false, false, false, false, false] rfl rfl (any_of HT_.out (by kernel_rfl)) (fun _ _ _ h => h) (Or.inl ⟨by rfl, ?_⟩) ?_ ?_
        rotate_left
        · intro w'
          go_simp
          with_reducible rfl
        rotate_left
        · simp only [Act.put, List.setIfInBounds_toArray, List.set_cons_zero, List.set_cons_succ, i64_w, i32_w]
          rfl
        refine pure_ (i := 13) (N := some 99) (v := ?_) (a' := ?_) #[true, true, true, true, true, true, true, true, true, true, true, true, true, true, false, false, false, false, false, false, false, false, false, false, false, false, false, false, false, false, false, false, false, false, false, false, false, false, false, false, false, false, false, false] rfl rfl (any_of HT_.out (by kernel_rfl)) (fun _ _ _ h => h) (Or.inl ⟨by rfl, ?_⟩) ?_ ?_
        rotate_left
        · intro w'
          go_simp
          with_reducible rfl
        rotate_left
        · simp only [Act.put, List.setIfInBounds_toArray, List.set_cons_zero, List.set_cons_succ, i64_w, i32_w]
          rfl
        refine pure_ (i := 14) (N := some 100) (v := ?_) (a' := ?_) #[true, true, true, true, true, true, true, true, true, true, true, true, true, true, true, false, false, false, false, false, false, false, false, false, false, false, false, false, false, false, false, false, false, false, false, false, false, false, false, false, false, false, false, false] rfl rfl (any_of HT_.out (by kernel_rfl)) (fun _ _ _ h => h) (Or.inl ⟨by rfl, ?_⟩) ?_ ?_
        rotate_left
        · intro w'
          go_simp
          with_reducible rfl
        rotate_left
        · simp only [Act.put, List.setIfInBounds_toArray, List.set_cons_zero, List.set_cons_succ, i64_w, i32_w]
          rfl
        try rw [beq_self_eq_true]
        refine pure_ (i := 15) (N := some 101) (v := ?_) (a' := ?_) #[true, true, true, true, true, true, true, true, true, true, true, true, true, true, true, true, false, false, false, false, false, false, false, false, false, false, false, false, false, false, false, false, false, false, false, false, false, false, false, false, false, false, false, false] rfl rfl (any_of HT_.out (by kernel_rfl)) (fun _ _ _ h => h) (Or.inl ⟨by rfl, ?_⟩) ?_ ?_
        rotate_left
        · intro w'
          go_simp
          with_reducible rfl
        rotate_left
        · simp only [Act.put, List.setIfInBounds_toArray, List.set_cons_zero, List.set_cons_succ, i64_w, i32_w]
          rfl
        refine pure_ (i := 16) (N := some 102) (v := ?_) (a' := ?_) #[true, true, true, true, true, true, true, true, true, true, true, true, true, true, true, true, true, false, false, false, false, false, false, false, false, false, false, false, false, false, false, false, false, false, false, false, false, false, false, false, false, false, false, false] rfl rfl (any_of HT_.out (by kernel_rfl)) (fun _ _ _ h => h) (Or.inl ⟨by rfl, ?_⟩) ?_ ?_
        rotate_left
        · intro w'
          go_simp
          with_reducible rfl
        rotate_left
        · simp only [Act.put, List.setIfInBounds_toArray, List.set_cons_zero, List.set_cons_succ, i64_w, i32_w]
          rfl
        refine take_ (i := 17) (N := some 103) (v := ?_) (a' := ?_) #[true, true, true, true, true, true, true, true, true, true, true, true, true, true, true, true, true, true, false, false, false, false, false, false, false, false, false, false, false, false, false, false, false, false, false, false, false, false, false, false, false, false, false, false] rfl rfl (take_ofW HT_.out HW_.out (by kernel_rfl)) (fun _ _ _ h => h) (Or.inl ⟨by rfl, ?_⟩) hHeld ?_ ?_
        rotate_left
        · rintro w' ⟨s0, s1, s2, s3, s4, s5, s6, s7, s8, s9, s10, s11, s12, s13⟩
          go_simp
          with_reducible rfl
        rotate_left
        · simp only [Act.put, List.setIfInBounds_toArray, List.set_cons_zero, List.set_cons_succ, i64_w, i32_w]
          rfl
        refine take_ (i := 18) (N := some 104) (v := ?_) (a' := ?_) #[true, true, true, true, true, true, true, true, true, true, true, true, true, true, true, true, true, true, true, false, false, false, false, false, false, false, false, false, false, false, false, false, false, false, false, false, false, false, false, false, false, false, false, false] rfl rfl (take_ofW HT_.out HW_.out (by kernel_rfl)) (fun _ _ _ h => h) (Or.inl ⟨by rfl, ?_⟩) hHeld ?_ ?_
        rotate_left
        · rintro w' ⟨s0, s1, s2, s3, s4, s5, s6, s7, s8, s9, s10, s11, s12, s13⟩
          go_simp
          with_reducible rfl
        rotate_left
        · simp only [Act.put, List.setIfInBounds_toArray, List.set_cons_zero, List.set_cons_succ, i64_w, i32_w]
          rfl
        refine one_ (i := 19) (N := some 105) #[true, true, true, true, true, true, true, true, true, true, true, true, true, true, true, true, true, true, true, true, false, false, false, false, false, false, false, false, false, false, false, false, false, false, false, false, false, false, false, false, false, false, false, false] rfl rfl (one_of HT_.out (by kernel_rfl)) (by decide) (fun K hK => ?_)
        refine goes_ Try.func37 (by kernel_rfl) rfl #[.agg #[.slice Ac lh.length cc, .int .i64 kp], .agg #[.slice Ad lh.length cd, .int .i64 kp]] (by rfl) rfl rfl (by (try simp only [List.map_toArray, List.map_cons, List.map_nil]); first | done | rfl | (simp only [List.length_drop, List.length_take]; rfl)) ?_
        with_reducible refine (assartref05_Same.calls 10000 Ac cc lh kp Ad cd lh kp true _ (Kd.V_reads' HVc.out).2.2 (Kd.V_reads' HVc.out).2.1 (Kd.V_reads' HVd.out).2.2 (Kd.V_reads' HVd.out).2.1 HSH.out).mono ?_
        rintro e wcr19 ⟨rfl, hb⟩
        refine ⟨_, rfl, ?_⟩
        replace Za0 : Aside0 (wcr19.cell? ⟨w11.heap.size, 0, none⟩ = some (.slice Aa la.length ca)) := ⟨(hb.cell (World.block_lt_of_cell? wcr4 _ Za0.out)).trans Za0.out⟩
        replace Za1 : Aside0 (wcr19.cell? ⟨w11.heap.size, 1, none⟩ = some (.int .i64 kp)) := ⟨(hb.cell (World.block_lt_of_cell? wcr4 _ Za1.out)).trans Za1.out⟩
        replace Zb0 : Aside0 (wcr19.cell? ⟨w13.heap.size, 0, none⟩ = some (.slice Ab la.length cb)) := ⟨(hb.cell (World.block_lt_of_cell? wcr4 _ Zb0.out)).trans Zb0.out⟩
        replace Zb1 : Aside0 (wcr19.cell? ⟨w13.heap.size, 1, none⟩ = some (.int .i64 kp)) := ⟨(hb.cell (World.block_lt_of_cell? wcr4 _ Zb1.out)).trans Zb1.out⟩
        replace Zc0 : Aside0 (wcr19.cell? ⟨w15.heap.size, 0, none⟩ = some (.slice Ac lh.length cc)) := ⟨(hb.cell (World.block_lt_of_cell? wcr4 _ Zc0.out)).trans Zc0.out⟩
        replace Zc1 : Aside0 (wcr19.cell? ⟨w15.heap.size, 1, none⟩ = some (.int .i64 kp)) := ⟨(hb.cell (World.block_lt_of_cell? wcr4 _ Zc1.out)).trans Zc1.out⟩
        replace Zd0 : Aside0 (wcr19.cell? ⟨w17.heap.size, 0, none⟩ = some (.slice Ad lh.length cd)) := ⟨(hb.cell (World.block_lt_of_cell? wcr4 _ Zd0.out)).trans Zd0.out⟩
        replace Zd1 : Aside0 (wcr19.cell? ⟨w17.heap.size, 1, none⟩ = some (.int .i64 kp)) := ⟨(hb.cell (World.block_lt_of_cell? wcr4 _ Zd1.out)).trans Zd1.out⟩
        replace Zs0 : Aside0 (wcr19.cell? ⟨w19.heap.size, 0, none⟩ = some (.slice As lo.length cs)) := ⟨(hb.cell (World.block_lt_of_cell? wcr4 _ Zs0.out)).trans Zs0.out⟩
        replace Zs1 : Aside0 (wcr19.cell? ⟨w19.heap.size, 1, none⟩ = some (.int .i64 kp)) := ⟨(hb.cell (World.block_lt_of_cell? wcr4 _ Zs1.out)).trans Zs1.out⟩
        replace Zt0 : Aside0 (wcr19.cell? ⟨w21.heap.size, 0, none⟩ = some (.slice At lo.length ct)) := ⟨(hb.cell (World.block_lt_of_cell? wcr4 _ Zt0.out)).trans Zt0.out⟩
        replace Zt1 : Aside0 (wcr19.cell? ⟨w21.heap.size, 1, none⟩ = some (.int .i64 kp)) := ⟨(hb.cell (World.block_lt_of_cell? wcr4 _ Zt1.out)).trans Zt1.out⟩
        replace Zh0 : Aside0 (wcr19.cell? ⟨w.heap.size + 1, 0, none⟩ = some (.slice A l.length c)) := ⟨(hb.cell (World.block_lt_of_cell? wcr4 _ Zh0.out)).trans Zh0.out⟩
        replace Zh1 : Aside0 (wcr19.cell? ⟨w.heap.size + 1, 1, none⟩ = some (.int .i64 kp)) := ⟨(hb.cell (World.block_lt_of_cell? wcr4 _ Zh1.out)).trans Zh1.out⟩
        replace HB := Aside0.mk (HB.out.trans (hb.mono HB.out.size))
        replace KXh := Aside0.mk (blk_below KXh.out hb)
        replace KXn := Aside0.mk (blk_below KXn.out hb)
        replace HVl := Aside0.mk (Kd.V_below HVl.out hb)
        replace HVn := Aside0.mk (Kd.V_below HVn.out hb)
        replace HH := Aside0.mk (Kd.C_below HH.out hb)
        replace HVa := Aside0.mk (Kd.V_below HVa.out hb)
        replace KXa := Aside0.mk (blk_below KXa.out hb)
        replace HVb := Aside0.mk (Kd.V_below HVb.out hb)
        replace KXb := Aside0.mk (blk_below KXb.out hb)
        replace HVc := Aside0.mk (Kd.V_below HVc.out hb)
        replace KXc := Aside0.mk (blk_below KXc.out hb)
        replace HVd := Aside0.mk (Kd.V_below HVd.out hb)
        replace KXd := Aside0.mk (blk_below KXd.out hb)
        replace HVs := Aside0.mk (Kd.V_below HVs.out hb)
        replace KXs := Aside0.mk (blk_below KXs.out hb)
        replace HVt := Aside0.mk (Kd.V_below HVt.out hb)
        replace KXt := Aside0.mk (blk_below KXt.out hb)
        clear hb hHeld
        refine hK.out _ _ ⟨Za0.out, Za1.out, Zb0.out, Zb1.out, Zc0.out, Zc1.out, Zd0.out, Zd1.out, Zs0.out, Zs1.out, Zt0.out, Zt1.out, Zh0.out, Zh1.out⟩ (fun hHeld => ?_)
        clear hK K
        refine norm_ (a' := ?_) ?_ ?_
        rotate_left
        · show Act.put _ (some 105) _ = _
          simp only [Act.put, List.setIfInBounds_toArray, List.set_cons_zero, List.set_cons_succ, i64_w, i32_w]
          rfl
        refine pure_ (i := 20) (N := some 106) (v := ?_) (a' := ?_) #[true, true, true, true, true, true, true, true, true, true, true, true, true, true, true, true, true, true, true, true, true, false, false, false, false, false, false, false, false, false, false, false, false, false, false, false, false, false, false, false, false, false, false, false] rfl rfl (any_of HT_.out (by kernel_rfl)) (fun _ _ _ h => h) (Or.inl ⟨by rfl, ?_⟩) ?_ ?_
        rotate_left
        · intro w'
          go_simp
          with_reducible rfl
        rotate_left
        · simp only [Act.put, List.setIfInBounds_toArray, List.set_cons_zero, List.set_cons_succ, i64_w, i32_w]
          rfl
        refine pure_ (i := 21) (N := some 107) (v := ?_) (a' := ?_) #[true, true, true, true, true, true, true, true, true, true, true, true, true, true, true, true, true, true, true, true, true, true, false, false, false, false, false, false, false, false, false, false, false, false, false, false, false, false, false, false, false, false, false, false] rfl rfl (any_of HT_.out (by kernel_rfl)) (fun _ _ _ h => h) (Or.inl ⟨by rfl, ?_⟩) ?_ ?_
        rotate_left
        · intro w'
          go_simp
          with_reducible rfl
        rotate_left
        · simp only [Act.put, List.setIfInBounds_toArray, List.set_cons_zero, List.set_cons_succ, i64_w, i32_w]
          rfl
        refine pure_ (i := 22) (N := some 108) (v := ?_) (a' := ?_) #[true, true, true, true, true, true, true, true, true, true, true, true, true, true, true, true, true, true, true, true, true, true, true, false, false, false, false, false, false, false, false, false, false, false, false, false, false, false, false, false, false, false, false, false] rfl rfl (any_of HT_.out (by kernel_rfl)) (fun _ _ _ h => h) (Or.inl ⟨by rfl, ?_⟩) ?_ ?_
        rotate_left
        · intro w'
          go_simp
          with_reducible rfl
        rotate_left
        · simp only [Act.put, List.setIfInBounds_toArray, List.set_cons_zero, List.set_cons_succ, i64_w, i32_w]
          rfl
        refine pure_ (i := 23) (N := some 109) (v := ?_) (a' := ?_) #[true, true, true, true, true, true, true, true, true, true, true, true, true, true, true, true, true, true, true, true, true, true, true, true, false, false, false, false, false, false, false, false, false, false, false, false, false, false, false, false, false, false, false, false] rfl rfl (any_of HT_.out (by kernel_rfl)) (fun _ _ _ h => h) (Or.inl ⟨by rfl, ?_⟩) ?_ ?_
        rotate_left
        · intro w'
          go_simp
          with_reducible rfl
        rotate_left
        · simp only [Act.put, List.setIfInBounds_toArray, List.set_cons_zero, List.set_cons_succ, i64_w, i32_w]
          rfl
        refine pure_ (i := 24) (N := some 110) (v := ?_) (a' := ?_) #[true, true, true, true, true, true, true, true, true, true, true, true, true, true, true, true, true, true, true, true, true, true, true, true, true, false, false, false, false, false, false, false, false, false, false, false, false, false, false, false, false, false, false, false] rfl rfl (any_of HT_.out (by kernel_rfl)) (fun _ _ _ h => h) (Or.inl ⟨by rfl, ?_⟩) ?_ ?_
        rotate_left
        · intro w'
          go_simp
          with_reducible rfl
        rotate_left
        · simp only [Act.put, List.setIfInBounds_toArray, List.set_cons_zero, List.set_cons_succ, i64_w, i32_w]
          rfl
        try rw [beq_self_eq_true]
        refine pure_ (i := 25) (N := some 111) (v := ?_) (a' := ?_) #[true, true, true, true, true, true, true, true, true, true, true, true, true, true, true, true, true, true, true, true, true, true, true, true, true, true, false, false, false, false, false, false, false, false, false, false, false, false, false, false, false, false, false, false] rfl rfl (any_of HT_.out (by kernel_rfl)) (fun _ _ _ h => h) (Or.inl ⟨by rfl, ?_⟩) ?_ ?_
        rotate_left
        · intro w'
          go_simp
          with_reducible rfl
        rotate_left
        · simp only [Act.put, List.setIfInBounds_toArray, List.set_cons_zero, List.set_cons_succ, i64_w, i32_w]
          rfl
        refine pure_ (i := 26) (N := some 112) (v := ?_) (a' := ?_) #[true, true, true, true, true, true, true, true, true, true, true, true, true, true, true, true, true, true, true, true, true, true, true, true, true, true, true, false, false, false, false, false, false, false, false, false, false, false, false, false, false, false, false, false] rfl rfl (any_of HT_.out (by kernel_rfl)) (fun _ _ _ h => h) (Or.inl ⟨by rfl, ?_⟩) ?_ ?_
        rotate_left
        · intro w'
          go_simp
          with_reducible rfl
        rotate_left
        · simp only [Act.put, List.setIfInBounds_toArray, List.set_cons_zero, List.set_cons_succ, i64_w, i32_w]
          rfl
        refine take_ (i := 27) (N := some 113) (v := ?_) (a' := ?_) #[true, true, true, true, true, true, true, true, true, true, true, true, true, true, true, true, true, true, true, true, true, true, true, true, true, true, true, true, false, false, false, false, false, false, false, false, false, false, false, false, false, false, false, false] rfl rfl (take_ofW HT_.out HW_.out (by kernel_rfl)) (fun _ _ _ h => h) (Or.inl ⟨by rfl, ?_⟩) hHeld ?_ ?_
        rotate_left
        · rintro w' ⟨s0, s1, s2, s3, s4, s5, s6, s7, s8, s9, s10, s11, s12, s13⟩
          go_simp
          with_reducible rfl
        rotate_left
        · simp only [Act.put, List.setIfInBounds_toArray, List.set_cons_zero, List.set_cons_succ, i64_w, i32_w]
          rfl
        refine take_ (i := 28) (N := some 114) (v := ?_) (a' := ?_) #[true, true, true, true, true, true, true, true, true, true, true, true, true, true, true, true, true, true, true, true, true, true, true, true, true, true, true, true, true, false, false, false, false, false, false, false, false, false, false, false, false, false, false, false] rfl rfl (take_ofW HT_.out HW_.out (by kernel_rfl)) (fun _ _ _ h => h) (Or.inl ⟨by rfl, ?_⟩) hHeld ?_ ?_
        rotate_left
        · rintro w' ⟨s0, s1, s2, s3, s4, s5, s6, s7, s8, s9, s10, s11, s12, s13⟩
          go_simp
          with_reducible rfl
        rotate_left
        · simp only [Act.put, List.setIfInBounds_toArray, List.set_cons_zero, List.set_cons_succ, i64_w, i32_w]
          rfl
        refine one_ (i := 29) (N := some 115) #[true, true, true, true, true, true, true, true, true, true, true, true, true, true, true, true, true, true, true, true, true, true, true, true, true, true, true, true, true, true, false, false, false, false, false, false, false, false, false, false, false, false, false, false] rfl rfl (one_of HT_.out (by kernel_rfl)) (by decide) (fun K hK => ?_)
        refine goes_ Try.func37 (by kernel_rfl) rfl #[.agg #[.slice As lo.length cs, .int .i64 kp], .agg #[.slice At lo.length ct, .int .i64 kp]] (by rfl) rfl rfl (by (try simp only [List.map_toArray, List.map_cons, List.map_nil]); first | done | rfl | (simp only [List.length_drop, List.length_take]; rfl)) ?_
        with_reducible refine (assartref05_Same.calls 10000 As cs lo kp At ct lo kp true _ (Kd.V_reads' HVs.out).2.2 (Kd.V_reads' HVs.out).2.1 (Kd.V_reads' HVt.out).2.2 (Kd.V_reads' HVt.out).2.1 HSL.out).mono ?_
        rintro e wcr29 ⟨rfl, hb⟩
        refine ⟨_, rfl, ?_⟩
        replace Za0 : Aside0 (wcr29.cell? ⟨w11.heap.size, 0, none⟩ = some (.slice Aa la.length ca)) := ⟨(hb.cell (World.block_lt_of_cell? wcr19 _ Za0.out)).trans Za0.out⟩
        replace Za1 : Aside0 (wcr29.cell? ⟨w11.heap.size, 1, none⟩ = some (.int .i64 kp)) := ⟨(hb.cell (World.block_lt_of_cell? wcr19 _ Za1.out)).trans Za1.out⟩
        replace Zb0 : Aside0 (wcr29.cell? ⟨w13.heap.size, 0, none⟩ = some (.slice Ab la.length cb)) := ⟨(hb.cell (World.block_lt_of_cell? wcr19 _ Zb0.out)).trans Zb0.out⟩
        replace Zb1 : Aside0 (wcr29.cell? ⟨w13.heap.size, 1, none⟩ = some (.int .i64 kp)) := ⟨(hb.cell (World.block_lt_of_cell? wcr19 _ Zb1.out)).trans Zb1.out⟩
        replace Zc0 : Aside0 (wcr29.cell? ⟨w15.heap.size, 0, none⟩ = some (.slice Ac lh.length cc)) := ⟨(hb.cell (World.block_lt_of_cell? wcr19 _ Zc0.out)).trans Zc0.out⟩
        replace Zc1 : Aside0 (wcr29.cell? ⟨w15.heap.size, 1, none⟩ = some (.int .i64 kp)) := ⟨(hb.cell (World.block_lt_of_cell? wcr19 _ Zc1.out)).trans Zc1.out⟩
        replace Zd0 : Aside0 (wcr29.cell? ⟨w17.heap.size, 0, none⟩ = some (.slice Ad lh.length cd)) := ⟨(hb.cell (World.block_lt_of_cell? wcr19 _ Zd0.out)).trans Zd0.out⟩
        replace Zd1 : Aside0 (wcr29.cell? ⟨w17.heap.size, 1, none⟩ = some (.int .i64 kp)) := ⟨(hb.cell (World.block_lt_of_cell? wcr19 _ Zd1.out)).trans Zd1.out⟩
        replace Zs0 : Aside0 (wcr29.cell? ⟨w19.heap.size, 0, none⟩ = some (.slice As lo.length cs)) := ⟨(hb.cell (World.block_lt_of_cell? wcr19 _ Zs0.out)).trans Zs0.out⟩
        replace Zs1 : Aside0 (wcr29.cell? ⟨w19.heap.size, 1, none⟩ = some (.int .i64 kp)) := ⟨(hb.cell (World.block_lt_of_cell? wcr19 _ Zs1.out)).trans Zs1.out⟩
        replace Zt0 : Aside0 (wcr29.cell? ⟨w21.heap.size, 0, none⟩ = some (.slice At lo.length ct)) := ⟨(hb.cell (World.block_lt_of_cell? wcr19 _ Zt0.out)).trans Zt0.out⟩
        replace Zt1 : Aside0 (wcr29.cell? ⟨w21.heap.size, 1, none⟩ = some (.int .i64 kp)) := ⟨(hb.cell (World.block_lt_of_cell? wcr19 _ Zt1.out)).trans Zt1.out⟩
        replace Zh0 : Aside0 (wcr29.cell? ⟨w.heap.size + 1, 0, none⟩ = some (.slice A l.length c)) := ⟨(hb.cell (World.block_lt_of_cell? wcr19 _ Zh0.out)).trans Zh0.out⟩
        replace Zh1 : Aside0 (wcr29.cell? ⟨w.heap.size + 1, 1, none⟩ = some (.int .i64 kp)) := ⟨(hb.cell (World.block_lt_of_cell? wcr19 _ Zh1.out)).trans Zh1.out⟩
        replace HB := Aside0.mk (HB.out.trans (hb.mono HB.out.size))
        replace KXh := Aside0.mk (blk_below KXh.out hb)
        replace KXn := Aside0.mk (blk_below KXn.out hb)
        replace HVl := Aside0.mk (Kd.V_below HVl.out hb)
        replace HVn := Aside0.mk (Kd.V_below HVn.out hb)
        replace HH := Aside0.mk (Kd.C_below HH.out hb)
        replace HVa := Aside0.mk (Kd.V_below HVa.out hb)
        replace KXa := Aside0.mk (blk_below KXa.out hb)
        replace HVb := Aside0.mk (Kd.V_below HVb.out hb)
        replace KXb := Aside0.mk (blk_below KXb.out hb)
        replace HVc := Aside0.mk (Kd.V_below HVc.out hb)
        replace KXc := Aside0.mk (blk_below KXc.out hb)
        replace HVd := Aside0.mk (Kd.V_below HVd.out hb)
        replace KXd := Aside0.mk (blk_below KXd.out hb)
        replace HVs := Aside0.mk (Kd.V_below HVs.out hb)
        replace KXs := Aside0.mk (blk_below KXs.out hb)
        replace HVt := Aside0.mk (Kd.V_below HVt.out hb)
        replace KXt := Aside0.mk (blk_below KXt.out hb)
        clear hb hHeld
        refine hK.out _ _ ⟨Za0.out, Za1.out, Zb0.out, Zb1.out, Zc0.out, Zc1.out, Zd0.out, Zd1.out, Zs0.out, Zs1.out, Zt0.out, Zt1.out, Zh0.out, Zh1.out⟩ (fun hHeld => ?_)
        clear hK K
        refine norm_ (a' := ?_) ?_ ?_
        rotate_left
        · show Act.put _ (some 115) _ = _
          simp only [Act.put, List.setIfInBounds_toArray, List.set_cons_zero, List.set_cons_succ, i64_w, i32_w]
          rfl
        refine pure_ (i := 30) (N := some 116) (v := ?_) (a' := ?_) #[true, true, true, true, true, true, true, true, true, true, true, true, true, true, true, true, true, true, true, true, true, true, true, true, true, true, true, true, true, true, true, false, false, false, false, false, false, false, false, false, false, false, false, false] rfl rfl (any_of HT_.out (by kernel_rfl)) (fun _ _ _ h => h) (Or.inl ⟨by rfl, ?_⟩) ?_ ?_
        rotate_left
        · intro w'
          go_simp
          with_reducible rfl
        rotate_left
        · simp only [Act.put, List.setIfInBounds_toArray, List.set_cons_zero, List.set_cons_succ, i64_w, i32_w]
          rfl
        refine pure_ (i := 31) (N := some 117) (v := ?_) (a' := ?_) #[true, true, true, true, true, true, true, true, true, true, true, true, true, true, true, true, true, true, true, true, true, true, true, true, true, true, true, true, true, true, true, true, false, false, false, false, false, false, false, false, false, false, false, false] rfl rfl (any_of HT_.out (by kernel_rfl)) (fun _ _ _ h => h) (Or.inl ⟨by rfl, ?_⟩) ?_ ?_
        rotate_left
        · intro w'
          go_simp
          with_reducible rfl
        rotate_left
        · simp only [Act.put, List.setIfInBounds_toArray, List.set_cons_zero, List.set_cons_succ, i64_w, i32_w]
          rfl
        refine pure_ (i := 32) (N := some 118) (v := ?_) (a' := ?_) #[true, true, true, true, true, true, true, true, true, true, true, true, true, true, true, true, true, true, true, true, true, true, true, true, true, true, true, true, true, true, true, true, true, false, false, false, false, false, false, false, false, false, false, false] rfl rfl (any_of HT_.out (by kernel_rfl)) (fun _ _ _ h => h) (Or.inl ⟨by rfl, ?_⟩) ?_ ?_
        rotate_left
        · intro w'
          go_simp
          with_reducible rfl
        rotate_left
        · simp only [Act.put, List.setIfInBounds_toArray, List.set_cons_zero, List.set_cons_succ, i64_w, i32_w]
          rfl
        refine pure_ (i := 33) (N := some 119) (v := ?_) (a' := ?_) #[true, true, true, true, true, true, true, true, true, true, true, true, true, true, true, true, true, true, true, true, true, true, true, true, true, true, true, true, true, true, true, true, true, true, false, false, false, false, false, false, false, false, false, false] rfl rfl (any_of HT_.out (by kernel_rfl)) (fun _ _ _ h => h) (Or.inl ⟨by rfl, ?_⟩) ?_ ?_
        rotate_left
        · intro w'
          go_simp
          with_reducible rfl
        rotate_left
        · simp only [Act.put, List.setIfInBounds_toArray, List.set_cons_zero, List.set_cons_succ, i64_w, i32_w]
          rfl
        refine pure_ (i := 34) (N := some 120) (v := ?_) (a' := ?_) #[true, true, true, true, true, true, true, true, true, true, true, true, true, true, true, true, true, true, true, true, true, true, true, true, true, true, true, true, true, true, true, true, true, true, true, false, false, false, false, false, false, false, false, false] rfl rfl (any_of HT_.out (by kernel_rfl)) (fun _ _ _ h => h) (Or.inl ⟨by rfl, ?_⟩) ?_ ?_
        rotate_left
        · intro w'
          go_simp
          with_reducible rfl
        rotate_left
        · simp only [Act.put, List.setIfInBounds_toArray, List.set_cons_zero, List.set_cons_succ, i64_w, i32_w]
          rfl
        try rw [beq_self_eq_true]
        refine pure_ (i := 35) (N := some 121) (v := ?_) (a' := ?_) #[true, true, true, true, true, true, true, true, true, true, true, true, true, true, true, true, true, true, true, true, true, true, true, true, true, true, true, true, true, true, true, true, true, true, true, true, false, false, false, false, false, false, false, false] rfl rfl (any_of HT_.out (by kernel_rfl)) (fun _ _ _ h => h) (Or.inl ⟨by rfl, ?_⟩) ?_ ?_
        rotate_left
        · intro w'
          go_simp
          with_reducible rfl
        rotate_left
        · simp only [Act.put, List.setIfInBounds_toArray, List.set_cons_zero, List.set_cons_succ, i64_w, i32_w]
          rfl
        refine pure_ (i := 36) (N := some 122) (v := ?_) (a' := ?_) #[true, true, true, true, true, true, true, true, true, true, true, true, true, true, true, true, true, true, true, true, true, true, true, true, true, true, true, true, true, true, true, true, true, true, true, true, true, false, false, false, false, false, false, false] rfl rfl (any_of HT_.out (by kernel_rfl)) (fun _ _ _ h => h) (Or.inl ⟨by rfl, ?_⟩) ?_ ?_
        rotate_left
        · intro w'
          go_simp
          with_reducible rfl
        rotate_left
        · simp only [Act.put, List.setIfInBounds_toArray, List.set_cons_zero, List.set_cons_succ, i64_w, i32_w]
          rfl
        refine take_ (i := 37) (N := some 123) (v := ?_) (a' := ?_) #[true, true, true, true, true, true, true, true, true, true, true, true, true, true, true, true, true, true, true, true, true, true, true, true, true, true, true, true, true, true, true, true, true, true, true, true, true, true, false, false, false, false, false, false] rfl rfl (take_ofW HT_.out HW_.out (by kernel_rfl)) (fun _ _ _ h => h) (Or.inl ⟨by rfl, ?_⟩) hHeld ?_ ?_
        rotate_left
        · rintro w' ⟨s0, s1, s2, s3, s4, s5, s6, s7, s8, s9, s10, s11, s12, s13⟩
          go_simp
          with_reducible rfl
        rotate_left
        · simp only [Act.put, List.setIfInBounds_toArray, List.set_cons_zero, List.set_cons_succ, i64_w, i32_w]
          rfl
        refine take_ (i := 39) (N := some 125) (v := ?_) (a' := ?_) #[true, true, true, true, true, true, true, true, true, true, true, true, true, true, true, true, true, true, true, true, true, true, true, true, true, true, true, true, true, true, true, true, true, true, true, true, true, true, false, true, false, false, false, false] rfl rfl (take_ofW HT_.out HW_.out (by kernel_rfl)) (fun _ _ _ h => h) (Or.inl ⟨by rfl, ?_⟩) hHeld ?_ ?_
        rotate_left
        · rintro w' ⟨s0, s1, s2, s3, s4, s5, s6, s7, s8, s9, s10, s11, s12, s13⟩
          go_simp
          with_reducible rfl
        rotate_left
        · simp only [Act.put, List.setIfInBounds_toArray, List.set_cons_zero, List.set_cons_succ, i64_w, i32_w]
          rfl
        refine one_ (i := 38) (N := some 124) #[true, true, true, true, true, true, true, true, true, true, true, true, true, true, true, true, true, true, true, true, true, true, true, true, true, true, true, true, true, true, true, true, true, true, true, true, true, true, true, true, false, false, false, false] rfl rfl (one_of HT_.out (by kernel_rfl)) (by decide) (fun K hK => ?_)
        refine goes_ Try.func50 (by kernel_rfl) rfl #[.agg #[.slice A l.length c, .int .i64 kp]] (by rfl) rfl rfl (by (try simp only [List.map_toArray, List.map_cons, List.map_nil]); first | done | rfl | (simp only [List.length_drop, List.length_take]; rfl)) ?_
        with_reducible refine (heap_Settle.calls (fun _ => True) A c l kp ls kp _ (V_base (Kd.V_mono HVl.out (fun _ _ => trivial))) HSE.out).mono ?_
        rintro e wcr38 ⟨v_, rfl, hv, hb⟩
        obtain ⟨Ap, cp, ev⟩ := Kd.V_slice hv
        subst ev
        have HVp : Aside0 (Kd.V k55 55 wcr38 0 (fun _ => True) (.slice Ap ls.length cp) ls) := ⟨V_base (Kd.V_mono hv (fun _ _ => trivial))⟩
        clear hv
        refine ⟨_, rfl, ?_⟩
        replace Za0 : Aside0 (wcr38.cell? ⟨w11.heap.size, 0, none⟩ = some (.slice Aa la.length ca)) := ⟨(hb.cell (World.block_lt_of_cell? wcr29 _ Za0.out)).trans Za0.out⟩
        replace Za1 : Aside0 (wcr38.cell? ⟨w11.heap.size, 1, none⟩ = some (.int .i64 kp)) := ⟨(hb.cell (World.block_lt_of_cell? wcr29 _ Za1.out)).trans Za1.out⟩
        replace Zb0 : Aside0 (wcr38.cell? ⟨w13.heap.size, 0, none⟩ = some (.slice Ab la.length cb)) := ⟨(hb.cell (World.block_lt_of_cell? wcr29 _ Zb0.out)).trans Zb0.out⟩
        replace Zb1 : Aside0 (wcr38.cell? ⟨w13.heap.size, 1, none⟩ = some (.int .i64 kp)) := ⟨(hb.cell (World.block_lt_of_cell? wcr29 _ Zb1.out)).trans Zb1.out⟩
        replace Zc0 : Aside0 (wcr38.cell? ⟨w15.heap.size, 0, none⟩ = some (.slice Ac lh.length cc)) := ⟨(hb.cell (World.block_lt_of_cell? wcr29 _ Zc0.out)).trans Zc0.out⟩
        replace Zc1 : Aside0 (wcr38.cell? ⟨w15.heap.size, 1, none⟩ = some (.int .i64 kp)) := ⟨(hb.cell (World.block_lt_of_cell? wcr29 _ Zc1.out)).trans Zc1.out⟩
        replace Zd0 : Aside0 (wcr38.cell? ⟨w17.heap.size, 0, none⟩ = some (.slice Ad lh.length cd)) := ⟨(hb.cell (World.block_lt_of_cell? wcr29 _ Zd0.out)).trans Zd0.out⟩
        replace Zd1 : Aside0 (wcr38.cell? ⟨w17.heap.size, 1, none⟩ = some (.int .i64 kp)) := ⟨(hb.cell (World.block_lt_of_cell? wcr29 _ Zd1.out)).trans Zd1.out⟩
        replace Zs0 : Aside0 (wcr38.cell? ⟨w19.heap.size, 0, none⟩ = some (.slice As lo.length cs)) := ⟨(hb.cell (World.block_lt_of_cell? wcr29 _ Zs0.out)).trans Zs0.out⟩
        replace Zs1 : Aside0 (wcr38.cell? ⟨w19.heap.size, 1, none⟩ = some (.int .i64 kp)) := ⟨(hb.cell (World.block_lt_of_cell? wcr29 _ Zs1.out)).trans Zs1.out⟩
        replace Zt0 : Aside0 (wcr38.cell? ⟨w21.heap.size, 0, none⟩ = some (.slice At lo.length ct)) := ⟨(hb.cell (World.block_lt_of_cell? wcr29 _ Zt0.out)).trans Zt0.out⟩
        replace Zt1 : Aside0 (wcr38.cell? ⟨w21.heap.size, 1, none⟩ = some (.int .i64 kp)) := ⟨(hb.cell (World.block_lt_of_cell? wcr29 _ Zt1.out)).trans Zt1.out⟩
        replace Zh0 : Aside0 (wcr38.cell? ⟨w.heap.size + 1, 0, none⟩ = some (.slice A l.length c)) := ⟨(hb.cell (World.block_lt_of_cell? wcr29 _ Zh0.out)).trans Zh0.out⟩
        replace Zh1 : Aside0 (wcr38.cell? ⟨w.heap.size + 1, 1, none⟩ = some (.int .i64 kp)) := ⟨(hb.cell (World.block_lt_of_cell? wcr29 _ Zh1.out)).trans Zh1.out⟩
        replace HB := Aside0.mk (HB.out.trans (hb.mono HB.out.size))
        replace KXh := Aside0.mk (blk_below KXh.out hb)
        replace KXn := Aside0.mk (blk_below KXn.out hb)
        replace HVl := Aside0.mk (Kd.V_below HVl.out hb)
        replace HVn := Aside0.mk (Kd.V_below HVn.out hb)
        replace HH := Aside0.mk (Kd.C_below HH.out hb)
        replace HVa := Aside0.mk (Kd.V_below HVa.out hb)
        replace KXa := Aside0.mk (blk_below KXa.out hb)
        replace HVb := Aside0.mk (Kd.V_below HVb.out hb)
        replace KXb := Aside0.mk (blk_below KXb.out hb)
        replace HVc := Aside0.mk (Kd.V_below HVc.out hb)
        replace KXc := Aside0.mk (blk_below KXc.out hb)
        replace HVd := Aside0.mk (Kd.V_below HVd.out hb)
        replace KXd := Aside0.mk (blk_below KXd.out hb)
        replace HVs := Aside0.mk (Kd.V_below HVs.out hb)
        replace KXs := Aside0.mk (blk_below KXs.out hb)
        replace HVt := Aside0.mk (Kd.V_below HVt.out hb)
        replace KXt := Aside0.mk (blk_below KXt.out hb)
        clear hb hHeld
        refine hK.out _ _ ⟨Za0.out, Za1.out, Zb0.out, Zb1.out, Zc0.out, Zc1.out, Zd0.out, Zd1.out, Zs0.out, Zs1.out, Zt0.out, Zt1.out, Zh0.out, Zh1.out⟩ (fun hHeld => ?_)
        clear hK K
        refine norm_ (a' := ?_) ?_ ?_
        rotate_left
        · show Act.put _ (some 124) _ = _
          simp only [Act.put, List.setIfInBounds_toArray, List.set_cons_zero, List.set_cons_succ, i64_w, i32_w]
          rfl
        refine one_ (i := 40) (N := some 126) #[true, true, true, true, true, true, true, true, true, true, true, true, true, true, true, true, true, true, true, true, true, true, true, true, true, true, true, true, true, true, true, true, true, true, true, true, true, true, true, true, true, false, false, false] rfl rfl (one_of HT_.out (by kernel_rfl)) (by decide) (fun K hK => ?_)
        refine goes_ Try.func51 (by kernel_rfl) rfl #[.agg #[.slice A l.length c, .int .i64 kp]] (by rfl) rfl rfl (by (try simp only [List.map_toArray, List.map_cons, List.map_nil]); first | done | rfl | (simp only [List.length_drop, List.length_take]; rfl)) ?_
        with_reducible refine (refSettle_walk (fun _ => True) A c l kp _ (V_base (Kd.V_mono HVl.out (fun _ _ => trivial))) (by omega)).mono ?_
        rintro e wcr40 ⟨Aq, cq, rfl, hv, hb⟩
        rw [HES.out] at hv ⊢
        have HVq : Aside0 (Kd.V k55 55 wcr40 0 (fun _ => True) (.slice Aq ls.length cq) ls) := ⟨V_base (Kd.V_mono hv (fun _ _ => trivial))⟩
        clear hv
        replace HVp := Aside0.mk (Kd.V_below HVp.out hb)
        refine ⟨_, rfl, ?_⟩
        replace Za0 : Aside0 (wcr40.cell? ⟨w11.heap.size, 0, none⟩ = some (.slice Aa la.length ca)) := ⟨(hb.cell (World.block_lt_of_cell? wcr38 _ Za0.out)).trans Za0.out⟩
        replace Za1 : Aside0 (wcr40.cell? ⟨w11.heap.size, 1, none⟩ = some (.int .i64 kp)) := ⟨(hb.cell (World.block_lt_of_cell? wcr38 _ Za1.out)).trans Za1.out⟩
        replace Zb0 : Aside0 (wcr40.cell? ⟨w13.heap.size, 0, none⟩ = some (.slice Ab la.length cb)) := ⟨(hb.cell (World.block_lt_of_cell? wcr38 _ Zb0.out)).trans Zb0.out⟩
        replace Zb1 : Aside0 (wcr40.cell? ⟨w13.heap.size, 1, none⟩ = some (.int .i64 kp)) := ⟨(hb.cell (World.block_lt_of_cell? wcr38 _ Zb1.out)).trans Zb1.out⟩
        replace Zc0 : Aside0 (wcr40.cell? ⟨w15.heap.size, 0, none⟩ = some (.slice Ac lh.length cc)) := ⟨(hb.cell (World.block_lt_of_cell? wcr38 _ Zc0.out)).trans Zc0.out⟩
        replace Zc1 : Aside0 (wcr40.cell? ⟨w15.heap.size, 1, none⟩ = some (.int .i64 kp)) := ⟨(hb.cell (World.block_lt_of_cell? wcr38 _ Zc1.out)).trans Zc1.out⟩
        replace Zd0 : Aside0 (wcr40.cell? ⟨w17.heap.size, 0, none⟩ = some (.slice Ad lh.length cd)) := ⟨(hb.cell (World.block_lt_of_cell? wcr38 _ Zd0.out)).trans Zd0.out⟩
        replace Zd1 : Aside0 (wcr40.cell? ⟨w17.heap.size, 1, none⟩ = some (.int .i64 kp)) := ⟨(hb.cell (World.block_lt_of_cell? wcr38 _ Zd1.out)).trans Zd1.out⟩
        replace Zs0 : Aside0 (wcr40.cell? ⟨w19.heap.size, 0, none⟩ = some (.slice As lo.length cs)) := ⟨(hb.cell (World.block_lt_of_cell? wcr38 _ Zs0.out)).trans Zs0.out⟩
        replace Zs1 : Aside0 (wcr40.cell? ⟨w19.heap.size, 1, none⟩ = some (.int .i64 kp)) := ⟨(hb.cell (World.block_lt_of_cell? wcr38 _ Zs1.out)).trans Zs1.out⟩
        replace Zt0 : Aside0 (wcr40.cell? ⟨w21.heap.size, 0, none⟩ = some (.slice At lo.length ct)) := ⟨(hb.cell (World.block_lt_of_cell? wcr38 _ Zt0.out)).trans Zt0.out⟩
        replace Zt1 : Aside0 (wcr40.cell? ⟨w21.heap.size, 1, none⟩ = some (.int .i64 kp)) := ⟨(hb.cell (World.block_lt_of_cell? wcr38 _ Zt1.out)).trans Zt1.out⟩
        replace Zh0 : Aside0 (wcr40.cell? ⟨w.heap.size + 1, 0, none⟩ = some (.slice A l.length c)) := ⟨(hb.cell (World.block_lt_of_cell? wcr38 _ Zh0.out)).trans Zh0.out⟩
        replace Zh1 : Aside0 (wcr40.cell? ⟨w.heap.size + 1, 1, none⟩ = some (.int .i64 kp)) := ⟨(hb.cell (World.block_lt_of_cell? wcr38 _ Zh1.out)).trans Zh1.out⟩
        replace HB := Aside0.mk (HB.out.trans (hb.mono HB.out.size))
        replace KXh := Aside0.mk (blk_below KXh.out hb)
        replace KXn := Aside0.mk (blk_below KXn.out hb)
        replace HVl := Aside0.mk (Kd.V_below HVl.out hb)
        replace HVn := Aside0.mk (Kd.V_below HVn.out hb)
        replace HH := Aside0.mk (Kd.C_below HH.out hb)
        replace HVa := Aside0.mk (Kd.V_below HVa.out hb)
        replace KXa := Aside0.mk (blk_below KXa.out hb)
        replace HVb := Aside0.mk (Kd.V_below HVb.out hb)
        replace KXb := Aside0.mk (blk_below KXb.out hb)
        replace HVc := Aside0.mk (Kd.V_below HVc.out hb)
        replace KXc := Aside0.mk (blk_below KXc.out hb)
        replace HVd := Aside0.mk (Kd.V_below HVd.out hb)
        replace KXd := Aside0.mk (blk_below KXd.out hb)
        replace HVs := Aside0.mk (Kd.V_below HVs.out hb)
        replace KXs := Aside0.mk (blk_below KXs.out hb)
        replace HVt := Aside0.mk (Kd.V_below HVt.out hb)
        replace KXt := Aside0.mk (blk_below KXt.out hb)
        clear hb hHeld
        refine hK.out _ _ ⟨Za0.out, Za1.out, Zb0.out, Zb1.out, Zc0.out, Zc1.out, Zd0.out, Zd1.out, Zs0.out, Zs1.out, Zt0.out, Zt1.out, Zh0.out, Zh1.out⟩ (fun hHeld => ?_)
        clear hK K
        refine norm_ (a' := ?_) ?_ ?_
        rotate_left
        · show Act.put _ (some 126) _ = _
          simp only [Act.put, List.setIfInBounds_toArray, List.set_cons_zero, List.set_cons_succ, i64_w, i32_w]
          rfl
        refine one_ (i := 41) (N := some 127) #[true, true, true, true, true, true, true, true, true, true, true, true, true, true, true, true, true, true, true, true, true, true, true, true, true, true, true, true, true, true, true, true, true, true, true, true, true, true, true, true, true, true, false, false] rfl rfl (one_of HT_.out (by kernel_rfl)) (by decide) (fun K hK => ?_)
        refine goes_ Try.func37 (by kernel_rfl) rfl #[.agg #[.slice Ap ls.length cp, .int .i64 kp], .agg #[.slice Aq ls.length cq, .int .i64 kp]] (by rfl) rfl rfl (by (try simp only [List.map_toArray, List.map_cons, List.map_nil]); first | done | rfl | (simp only [List.length_drop, List.length_take]; rfl)) ?_
        with_reducible refine (assartref05_Same.calls 10000 Ap cp ls kp Aq cq ls kp true _ (Kd.V_reads' HVp.out).2.2 (Kd.V_reads' HVp.out).2.1 (Kd.V_reads' HVq.out).2.2 (Kd.V_reads' HVq.out).2.1 HSS.out).mono ?_
        rintro e wcr41 ⟨rfl, hb⟩
        refine ⟨_, rfl, ?_⟩
        replace Za0 : Aside0 (wcr41.cell? ⟨w11.heap.size, 0, none⟩ = some (.slice Aa la.length ca)) := ⟨(hb.cell (World.block_lt_of_cell? wcr40 _ Za0.out)).trans Za0.out⟩
        replace Za1 : Aside0 (wcr41.cell? ⟨w11.heap.size, 1, none⟩ = some (.int .i64 kp)) := ⟨(hb.cell (World.block_lt_of_cell? wcr40 _ Za1.out)).trans Za1.out⟩
        replace Zb0 : Aside0 (wcr41.cell? ⟨w13.heap.size, 0, none⟩ = some (.slice Ab la.length cb)) := ⟨(hb.cell (World.block_lt_of_cell? wcr40 _ Zb0.out)).trans Zb0.out⟩
        replace Zb1 : Aside0 (wcr41.cell? ⟨w13.heap.size, 1, none⟩ = some (.int .i64 kp)) := ⟨(hb.cell (World.block_lt_of_cell? wcr40 _ Zb1.out)).trans Zb1.out⟩
        replace Zc0 : Aside0 (wcr41.cell? ⟨w15.heap.size, 0, none⟩ = some (.slice Ac lh.length cc)) := ⟨(hb.cell (World.block_lt_of_cell? wcr40 _ Zc0.out)).trans Zc0.out⟩
        replace Zc1 : Aside0 (wcr41.cell? ⟨w15.heap.size, 1, none⟩ = some (.int .i64 kp)) := ⟨(hb.cell (World.block_lt_of_cell? wcr40 _ Zc1.out)).trans Zc1.out⟩
        replace Zd0 : Aside0 (wcr41.cell? ⟨w17.heap.size, 0, none⟩ = some (.slice Ad lh.length cd)) := ⟨(hb.cell (World.block_lt_of_cell? wcr40 _ Zd0.out)).trans Zd0.out⟩
        replace Zd1 : Aside0 (wcr41.cell? ⟨w17.heap.size, 1, none⟩ = some (.int .i64 kp)) := ⟨(hb.cell (World.block_lt_of_cell? wcr40 _ Zd1.out)).trans Zd1.out⟩
        replace Zs0 : Aside0 (wcr41.cell? ⟨w19.heap.size, 0, none⟩ = some (.slice As lo.length cs)) := ⟨(hb.cell (World.block_lt_of_cell? wcr40 _ Zs0.out)).trans Zs0.out⟩
        replace Zs1 : Aside0 (wcr41.cell? ⟨w19.heap.size, 1, none⟩ = some (.int .i64 kp)) := ⟨(hb.cell (World.block_lt_of_cell? wcr40 _ Zs1.out)).trans Zs1.out⟩
        replace Zt0 : Aside0 (wcr41.cell? ⟨w21.heap.size, 0, none⟩ = some (.slice At lo.length ct)) := ⟨(hb.cell (World.block_lt_of_cell? wcr40 _ Zt0.out)).trans Zt0.out⟩
        replace Zt1 : Aside0 (wcr41.cell? ⟨w21.heap.size, 1, none⟩ = some (.int .i64 kp)) := ⟨(hb.cell (World.block_lt_of_cell? wcr40 _ Zt1.out)).trans Zt1.out⟩
        replace Zh0 : Aside0 (wcr41.cell? ⟨w.heap.size + 1, 0, none⟩ = some (.slice A l.length c)) := ⟨(hb.cell (World.block_lt_of_cell? wcr40 _ Zh0.out)).trans Zh0.out⟩
        replace Zh1 : Aside0 (wcr41.cell? ⟨w.heap.size + 1, 1, none⟩ = some (.int .i64 kp)) := ⟨(hb.cell (World.block_lt_of_cell? wcr40 _ Zh1.out)).trans Zh1.out⟩
        replace HB := Aside0.mk (HB.out.trans (hb.mono HB.out.size))
        replace KXh := Aside0.mk (blk_below KXh.out hb)
        replace KXn := Aside0.mk (blk_below KXn.out hb)
        replace HVl := Aside0.mk (Kd.V_below HVl.out hb)
        replace HVn := Aside0.mk (Kd.V_below HVn.out hb)
        replace HH := Aside0.mk (Kd.C_below HH.out hb)
        replace HVa := Aside0.mk (Kd.V_below HVa.out hb)
        replace KXa := Aside0.mk (blk_below KXa.out hb)
        replace HVb := Aside0.mk (Kd.V_below HVb.out hb)
        replace KXb := Aside0.mk (blk_below KXb.out hb)
        replace HVc := Aside0.mk (Kd.V_below HVc.out hb)
        replace KXc := Aside0.mk (blk_below KXc.out hb)
        replace HVd := Aside0.mk (Kd.V_below HVd.out hb)
        replace KXd := Aside0.mk (blk_below KXd.out hb)
        replace HVs := Aside0.mk (Kd.V_below HVs.out hb)
        replace KXs := Aside0.mk (blk_below KXs.out hb)
        replace HVt := Aside0.mk (Kd.V_below HVt.out hb)
        replace KXt := Aside0.mk (blk_below KXt.out hb)
        clear hb hHeld
        refine hK.out _ _ ⟨Za0.out, Za1.out, Zb0.out, Zb1.out, Zc0.out, Zc1.out, Zd0.out, Zd1.out, Zs0.out, Zs1.out, Zt0.out, Zt1.out, Zh0.out, Zh1.out⟩ (fun hHeld => ?_)
        clear hK K
        refine norm_ (a' := ?_) ?_ ?_
        rotate_left
        · show Act.put _ (some 127) _ = _
          simp only [Act.put, List.setIfInBounds_toArray, List.set_cons_zero, List.set_cons_succ, i64_w, i32_w]
          rfl
        refine pure_ (i := 42) (N := some 128) (v := ?_) (a' := ?_) #[true, true, true, true, true, true, true, true, true, true, true, true, true, true, true, true, true, true, true, true, true, true, true, true, true, true, true, true, true, true, true, true, true, true, true, true, true, true, true, true, true, true, true, false] rfl rfl (any_of HT_.out (by kernel_rfl)) (fun _ _ _ h => h) (Or.inl ⟨by rfl, ?_⟩) ?_ ?_
        rotate_left
        · intro w'
          go_simp
          with_reducible rfl
        rotate_left
        · simp only [Act.put, List.setIfInBounds_toArray, List.set_cons_zero, List.set_cons_succ, i64_w, i32_w]
          rfl
        refine pure_ (i := 43) (N := some 2) (v := ?_) (a' := ?_) #[true, true, true, true, true, true, true, true, true, true, true, true, true, true, true, true, true, true, true, true, true, true, true, true, true, true, true, true, true, true, true, true, true, true, true, true, true, true, true, true, true, true, true, true] rfl rfl (any_of HT_.out (by kernel_rfl)) (fun _ _ _ h => h) (Or.inl ⟨by rfl, ?_⟩) ?_ ?_
        rotate_left
        · intro w'
          go_simp
          with_reducible rfl
        rotate_left
        · simp only [Act.put, List.setIfInBounds_toArray, List.set_cons_zero, List.set_cons_succ, i64_w, i32_w]
          rfl
        refine done_ (done_of HT_.out (by kernel_rfl)) ?_
        clear hHeld HT_ HW_
        clear Za0 Za1 Zb0 Zb1 Zc0 Zc1 Zd0 Zd1 Zs0 Zs1 Zt0 Zt1 Zh0 Zh1
        go_wp2
        go_ret
        exact ⟨rfl, HB.out⟩
      · have xh_0 : w2.cell? ⟨w.heap.size + 1, 0, none⟩ = some (.slice A l.length c) := (blk_cell KXh.out 0).trans rfl
        have xh_1 : w2.cell? ⟨w.heap.size + 1, 1, none⟩ = some (.int .i64 kp) := (blk_cell KXh.out 1).trans rfl
        have lh : w.heap.size + 1 < w2.heap.size := blk_lt KXh.out
        have xn_0 : w2.cell? ⟨w.heap.size + 1 + 1, 0, none⟩ = some (.bool leaf) := (blk_cell KXn.out 0).trans rfl
        have xn_1 : w2.cell? ⟨w.heap.size + 1 + 1, 1, none⟩ = some (.slice A1 it.length c1) := (blk_cell KXn.out 1).trans rfl
        have ln : w.heap.size + 1 + 1 < w2.heap.size := blk_lt KXn.out
        have hc10 : decide ((it.length : Int) > 10) = false := decide_eq_false (by omega)
        have hc20 : decide ((held.length : Int) > 20) = true := decide_eq_true (by omega)
        go_wp2
        go_ret
        exact ⟨rfl, HB.out⟩
    · have xh_0 : w2.cell? ⟨w.heap.size + 1, 0, none⟩ = some (.slice A l.length c) := (blk_cell KXh.out 0).trans rfl
      have xh_1 : w2.cell? ⟨w.heap.size + 1, 1, none⟩ = some (.int .i64 kp) := (blk_cell KXh.out 1).trans rfl
      have lh : w.heap.size + 1 < w2.heap.size := blk_lt KXh.out
      have xn_0 : w2.cell? ⟨w.heap.size + 1 + 1, 0, none⟩ = some (.bool leaf) := (blk_cell KXn.out 0).trans rfl
      have xn_1 : w2.cell? ⟨w.heap.size + 1 + 1, 1, none⟩ = some (.slice A1 it.length c1) := (blk_cell KXn.out 1).trans rfl
      have ln : w.heap.size + 1 + 1 < w2.heap.size := blk_lt KXn.out
      have hc10 : decide ((it.length : Int) > 10) = true := decide_eq_true (by omega)
      go_wp2
      go_ret
      exact ⟨rfl, HB.out⟩
  · rw [decide_eq_false h1]
    go_wp2
    go_ret
    exact ⟨rfl, HB.out⟩
end Go.Proofs.Yteiladccdenpbaa.P
end
section
namespace Go.Proofs.Yteiladccdenpbaa.P
open Go.RowKit Go.Proofs.YteiladccdenpbaaW.PrintWords Go.Proofs.YteiladccdenpbaaW.PrintLast Go.Proofs.YteiladccdenpbaaW.PrintMore
set_option linter.unusedVariables false
set_option linter.unusedSimpArgs false
structure Opens {α : Type} (P : Program) (t : TypeId) (d : Kd α) (ok : α → Prop) : Prop where
  sz : P.cellsOf t = d.sz
  op : ∀ {H : Type} {enc : TypeId × Value → H} {W : World} {base : Nat} {spare : Nat → Bool} {held : Bool} {fuel : Nat} {cs : List Value} {y : DataW H × List MemPlace}, DataW.trod enc P W base spare held fuel t cs = some y → (DataW.weights P t y.1).all (· ≤ reachBytes) = true → ∃ x, d.K W x cs ∧ ok x
theorem Opens.int {P : Program} {t : TypeId} {k : IntKind} (h : P.underlying t = some (.int k)) (hs : P.cellsOf t = 1) : Opens P t (Kd.int k) (fun n => (Lit.int k n).wf = true) :=
  ⟨hs, fun hy _ => by
    obtain ⟨n, rfl, _, hw⟩ := DataW.trod_int h hy
    exact ⟨n, rfl, hw⟩⟩
theorem Opens.bool {P : Program} {t : TypeId} (h : P.underlying t = some .bool) (hs : P.cellsOf t = 1) : Opens P t Kd.bool (fun _ => True) :=
  ⟨hs, fun hy _ => by
    obtain ⟨b, rfl, _⟩ := DataW.trod_bool h hy
    exact ⟨b, rfl, trivial⟩⟩
theorem choose_row {α : Type} {R : Nat → α → Prop} : ∀ n, (∀ i, i < n → ∃ x, R i x) → ∃ xs : List α, xs.length = n ∧ ∀ i x, xs[i]? = some x → R i x
  | 0, _ => ⟨[], rfl, fun i x h => by simp at h⟩
  | n + 1, h => by
    obtain ⟨xs, hl, hx⟩ := choose_row n (fun i hi => h i (by omega))
    obtain ⟨x, hr⟩ := h n (by omega)
    refine ⟨xs ++ [x], by simp [hl], fun i z hz => ?_⟩
    by_cases hi : i < n
    · rw [List.getElem?_append_left (by omega)] at hz
      exact hx i z hz
    · rw [List.getElem?_append_right (by omega)] at hz
      have : i - xs.length = 0 := by
        rcases Nat.eq_zero_or_pos (i - xs.length) with h0 | h0
        · exact h0
        · rw [List.getElem?_eq_none (by simp; omega)] at hz; cases hz
      rw [this] at hz
      simp at hz
      subst hz
      have : i = n := by omega
      rw [this]; exact hr
theorem weightsAll_mem {H : Type} {P : Program} {e : TypeId} : ∀ {ds : List (DataW H)}, (DataW.weightsAll P e ds).all (· ≤ reachBytes) = true → ∀ d ∈ ds, (DataW.weights P e d).all (· ≤ reachBytes) = true
  | [], _, d, hd => by cases hd
  | a :: ds, h, d, hd => by
    simp only [DataW.weightsAll, List.all_append, Bool.and_eq_true] at h
    rcases List.mem_cons.1 hd with rfl | hd
    · exact h.1
    · exact weightsAll_mem h.2 d hd
theorem Opens.slice {α : Type} {P : Program} {t e : TypeId} {d : Kd α} {ok : α → Prop} {B : Nat} (h : P.underlying t = some (.slice e)) (hs : P.cellsOf t = 1) (hB : P.bytesOf e = B) (he : Opens P e d ok) : Opens P t (Kd.slice e d) (fun xs => xs.length * B ≤ 140737488351232 ∧ ∀ x ∈ xs, ok x) :=
  ⟨hs, fun {H enc W base spare held fuel cs y} hy hw => by
    rcases DataW.trod_slice h hy with ⟨rfl, rfl⟩ | ⟨a, len, cap, elems, rest, n, rfl, rfl, rfl, hb, hl, hc, hel, hi, _, _⟩
    · exact ⟨[], ⟨none, 0, rfl, Nat.le_refl _, Kd.C_nil _ _⟩, by simp⟩
    · unfold DataW.weights at hw
      rw [h] at hw
      simp only [List.all_cons, List.all_append, Bool.and_eq_true, decide_eq_true_eq, hB, List.length_map] at hw
      obtain ⟨hw0, hw1, _⟩ := hw
      have hx : ∀ i, i < len → ∃ x, ok x ∧ ∃ c, c.length = d.sz ∧ d.K W x c ∧ W.cells? base (a.add (i * d.sz)) d.sz = some c := by
        intro i hlt
        have h1 := hi i hlt
        rw [List.getElem?_eq_getElem (by omega)] at h1
        obtain ⟨c, hc1, hc2⟩ := Option.bind_eq_some_iff.1 h1
        obtain ⟨x, hK, hok⟩ := he.op hc2 (weightsAll_mem hw1 _ (List.mem_map_of_mem (List.getElem_mem _)))
        rw [he.sz] at hc1
        exact ⟨x, hok, c, d.K_len hK, hK, hc1⟩
      obtain ⟨xs, hxl, hxs⟩ := choose_row len hx
      refine ⟨xs, ⟨some a, cap, by rw [hxl], by omega, rfl, ?_, fun hpos => ⟨a, rfl, fun j p hj => ?_⟩⟩, ?_, ?_⟩
      · simp only [maxLen] at hc; omega
      · obtain ⟨_, c, hcl, hK, hcc⟩ := hxs j p hj
        refine ⟨c, hcl, hK, fun i u hu => ?_⟩
        obtain ⟨_, _, hcell⟩ := World.cells?_some hcc
        have hi : i < d.sz := by rw [← hcl]; exact (List.getElem?_eq_some_iff.1 hu).1
        have := hcell i hi
        rw [Addr.add_add] at this
        rw [this, hu]
      · rw [hxl, ← hel]
        refine Nat.le_trans (Nat.mul_le_mul_right _ (Nat.le_add_right _ _)) hw0
      · intro x hx
        obtain ⟨i, hlt, rfl⟩ := List.getElem_of_mem hx
        exact (hxs i _ (List.getElem?_eq_getElem hlt)).1⟩
theorem weights_at {H : Type} {P : Program} : ∀ {ts : List TypeId} {ds : List (DataW H)} {j : Nat} {t : TypeId} {d : DataW H}, (DataW.weightsEach P ts ds).all (· ≤ reachBytes) = true → ts[j]? = some t → ds[j]? = some d → (DataW.weights P t d).all (· ≤ reachBytes) = true
  | [], _, _, _, _, _, ht, _ => by simp at ht
  | _ :: _, [], _, _, _, _, _, hd => by simp at hd
  | t0 :: ts, d0 :: ds, 0, _, _, h, ht, hd => by
    simp only [List.getElem?_cons_zero, Option.some.injEq] at ht hd
    subst ht; subst hd
    simp only [DataW.weightsEach, List.all_append, Bool.and_eq_true] at h
    exact h.1
  | t0 :: ts, d0 :: ds, j + 1, _, _, h, ht, hd => by
    simp only [List.getElem?_cons_succ] at ht hd
    simp only [DataW.weightsEach, List.all_append, Bool.and_eq_true] at h
    exact weights_at h.2 ht hd
structure OpensFs {α : Type} (P : Program) (fs : List Field) (off : Nat) (d : Kd α) (ok : α → Prop) : Prop where
  op : ∀ {H : Type} {enc : TypeId × Value → H} {W : World} {base : Nat} {spare : Nat → Bool} {held : Bool} {fuel : Nat} {cs : List Value} {ys : List (DataW H × List MemPlace)},
    (∀ (i : Nat) (f : Field), fs[i]? = some f → DataW.trod enc P W base spare held fuel f.type ((cs.drop f.offset).take (P.cellsOf f.type)) = ys[i]?) → ys.length = fs.length →
    (DataW.weightsEach P (fs.map (·.type)) (ys.map (·.1))).all (· ≤ reachBytes) = true → cs.length = off + d.sz → ∃ x, d.K W x (cs.drop off) ∧ ok x
theorem OpensFs.one {α : Type} {P : Program} {f : Field} {t : TypeId} {off : Nat} {d : Kd α} {ok : α → Prop} (ht : f.type = t) (hoff : f.offset = off) (h : Opens P t d ok) : OpensFs P [f] off d ok :=
  ⟨fun {H enc W base spare held fuel cs ys} hy hl hw hcs => by
    obtain ⟨y, rfl⟩ : ∃ y, ys = [y] := by
      cases ys with
      | nil => simp at hl
      | cons y ys => cases ys with
        | nil => exact ⟨y, rfl⟩
        | cons => simp at hl
    have h0 := hy 0 f rfl
    simp only [List.getElem?_cons_zero] at h0
    simp only [List.map_cons, List.map_nil, DataW.weightsEach, List.append_nil] at hw
    rw [ht] at h0 hw
    obtain ⟨x, hK, hok⟩ := h.op h0 hw
    rw [hoff, List.take_of_length_le (by rw [List.length_drop, h.sz]; omega)] at hK
    exact ⟨x, hK, hok⟩⟩
theorem OpensFs.cons {α β : Type} {P : Program} {f : Field} {fs : List Field} {t : TypeId} {off n : Nat} {d : Kd α} {d' : Kd β} {ok : α → Prop} {ok' : β → Prop} (ht : f.type = t) (hoff : f.offset = off) (h : Opens P t d ok) (hn : off + d.sz = n) (hr : OpensFs P fs n d' ok') :
    OpensFs P (f :: fs) off (Kd.pair d d') (fun x => ok x.1 ∧ ok' x.2) :=
  ⟨fun {H enc W base spare held fuel cs ys} hy hl hw hcs => by
    cases ys with
    | nil => simp at hl
    | cons y ys =>
      have h0 := hy 0 f rfl
      simp only [List.getElem?_cons_zero] at h0
      simp only [List.map_cons, DataW.weightsEach, List.all_append, Bool.and_eq_true] at hw
      have hw0 := hw.1
      rw [ht] at h0 hw0
      obtain ⟨x, hK, hok⟩ := h.op h0 hw0
      have hsz : (Kd.pair d d').sz = d.sz + d'.sz := rfl
      rw [hsz] at hcs
      obtain ⟨x', hK', hok'⟩ := hr.op (fun i g hg => hy (i + 1) g (by simpa using hg)) (by simpa using hl) hw.2 (by omega)
      refine ⟨(x, x'), ⟨_, _, ?_, hK, hK'⟩, hok, hok'⟩
      rw [hoff, h.sz, ← hn, ← List.drop_drop]
      exact (List.take_append_drop _ _).symm⟩
theorem Opens.struct {α β : Type} {P : Program} {t : TypeId} {fs : Array Field} {fl : List Field} {d : Kd α} {ok : α → Prop} (f : β → α) (g : α → β) (hfg : ∀ x, f (g x) = x) (h : P.underlying t = some (.struct fs)) (hfl : fs.toList = fl) (hs : P.cellsOf t = d.sz) (ho : OpensFs P fl 0 d ok) :
    Opens P t (Kd.iso d f) (fun x => ok (f x)) :=
  ⟨hs, fun {H enc W base spare held fuel cs y} hy hw => by
    obtain ⟨xs, n, rfl, rfl, hcl, hxl, hx⟩ := DataW.trod_struct h hy
    unfold DataW.weights at hw
    rw [h] at hw
    simp only [hfl] at hw
    subst hfl
    obtain ⟨x, hK, hok⟩ := ho.op (ys := xs) (fun i f hf => hx i f (by simpa using hf)) (by simpa using hxl) hw (by omega)
    rw [List.drop_zero] at hK
    refine ⟨g x, ?_, ?_⟩
    · show d.K W (f (g x)) cs
      rw [hfg]; exact hK
    · rw [hfg]; exact hok⟩
end Go.Proofs.Yteiladccdenpbaa.P
end
section
namespace Go.Proofs.Yteiladccdenpbaa.heapDoes
open Go.ChangeShapes Go.WideShapes Go.ChangeAt Go.RowKit Go.Proofs.Yteiladccdenpbaa.P Go.Proofs.YteiladccdenpbaaW.PrintWords Go.Proofs.YteiladccdenpbaaW.PrintLast Go.Proofs.YteiladccdenpbaaW.PrintMore
open Go.ChangeMaps (open_string shut_string)
set_option linter.unusedVariables false
set_option linter.unusedSimpArgs false
def ok49 (x : S49) : Prop := (fun x => (Lit.int .i64 x).wf = true) x.f0 ∧ (fun x => (Lit.int .i64 x).wf = true) x.f1
theorem opens49 : Opens Try.prog 49 k49 ok49 := Opens.struct (fs := _) (fun x : S49 => (x.f0, x.f1)) (fun p => ⟨p.1, p.2⟩) (fun _ => rfl) Try.underlying49 rfl (by kernel_rfl) (OpensFs.cons rfl rfl (Opens.int Try.underlying3 (by kernel_rfl)) rfl (OpensFs.one rfl rfl (Opens.int Try.underlying3 (by kernel_rfl))))
def ok53 (x : S53) : Prop := (fun x => True) x.f0 ∧ (fun x => x.length * 16 ≤ 140737488351232 ∧ ∀ y ∈ x, (ok49) y) x.f1
theorem opens53 : Opens Try.prog 53 k53 ok53 := Opens.struct (fs := _) (fun x : S53 => (x.f0, x.f1)) (fun p => ⟨p.1, p.2⟩) (fun _ => rfl) Try.underlying53 rfl (by kernel_rfl) (OpensFs.cons rfl rfl (Opens.bool Try.underlying4 (by kernel_rfl)) rfl (OpensFs.one rfl rfl (Opens.slice (B := 16) Try.underlying43 (by kernel_rfl) (by kernel_rfl) opens49)))
def ok55 (x : S55) : Prop := (fun x => (Lit.int .i64 x).wf = true) x.f0 ∧ (fun x => True) x.f1 ∧ (ok53) x.f2
theorem opens55 : Opens Try.prog 55 k55 ok55 := Opens.struct (fs := _) (fun x : S55 => (x.f0, x.f1, x.f2)) (fun p => ⟨p.1, p.2.1, p.2.2⟩) (fun _ => rfl) Try.underlying55 rfl (by kernel_rfl) (OpensFs.cons rfl rfl (Opens.int Try.underlying3 (by kernel_rfl)) rfl (OpensFs.cons rfl rfl (Opens.bool Try.underlying4 (by kernel_rfl)) rfl (OpensFs.one rfl rfl opens53)))
theorem own : ownKnob Try.prog.godebug = none := by kernel_rfl
theorem laidOut : laidOutB Try.prog = true := by kernel_rfl
set_option maxHeartbeats 1000000 in
set_option maxRecDepth 100000 in
theorem lifted (os : Os) (started : os.Started) (H : Type) (enc : TypeId × Value → H) :
  ReturnsInHanded {} Try.checked os 10 .any (Rows.heapDoesSpec.pre6 enc Try.prog Try.f10 Rows.heapDoesRow.domain false) (Rows.heapDoesSpec.post enc Try.prog Try.f10 false true false false) := by
 refine returnsInHanded_of_change_sized (C := Try.checked) own started (by kernel_rfl) Try.func10
  (ChangeSpec.witness6 (enc := enc) (C := Try.checked) false ⟨#[], #[.agg #[.slice none 0 0, .int .i64 0, .bool false, .slice none 0 0, .slice none 0 0, .int .i64 0]], []⟩ 8 (by kernel_rfl) (by kernel_rfl) (by kernel_rfl) (by kernel_rfl)) ?_
 intro W base args ds gs before hval0 hW hcnd hsz0 _
 have hsz : (DataW.weightsEach Try.prog (Try.f10.params.toList ++ Rows.heapDoesSpec.plain.varTypes Try.prog) (ds ++ gs)).all (· ≤ reachBytes) = true := hsz0
 have hval : ∀ (j : Nat) t v, Try.f10.params[j]? = some t → args[j]? = some v → Value.okWide Try.prog W .any base t v := hval0
 have hW' := hW
 obtain ⟨p, q, hA0, hV, rfl, hfz, hnd⟩ := hW
 have hA : DataW.TrodAll enc Try.prog W 0 (fun _ => true) true Try.f10.params.toList args.toList ds p := hA0
 rw [Try.params10] at hA hval hsz
 obtain ⟨v0, vs0, d0, ds0, p0, q0, hargs, rfl, rfl, h0, r0⟩ := trodAll_cons hA
 obtain ⟨rfl, rfl, rfl⟩ := trodAll_nil r0
 obtain rfl : args = #[v0] := by cases args; simp_all
 obtain ⟨rfl, rfl⟩ := trodVars_none hV
 have k0 := h0
 have lt0 : ∀ x ∈ p0, x.block < W.heap.size := by obtain ⟨m, hm⟩ := k0; exact DataW.trod_lt m _ _ _ hm
 have wt0 := weights_at hsz (j := 0) (t := 71) (d := d0) rfl rfl
 obtain ⟨fuel0, hf0⟩ := h0
 obtain ⟨x0, hK0, hok0⟩ := (Opens.struct (f := id) (g := id) (fun _ => rfl) Try.underlying71 rfl (by kernel_rfl) (OpensFs.cons rfl rfl (Opens.struct (f := id) (g := id) (fun _ => rfl) Try.underlying24 rfl (by kernel_rfl) (OpensFs.cons rfl rfl (Opens.slice (B := 48) Try.underlying22 (by kernel_rfl) (by kernel_rfl) opens55) rfl (OpensFs.one rfl rfl (Opens.int Try.underlying3 (by kernel_rfl))))) rfl (OpensFs.cons rfl rfl (Opens.struct (f := id) (g := id) (fun _ => rfl) Try.underlying53 rfl (by kernel_rfl) (OpensFs.cons rfl rfl (Opens.bool Try.underlying4 (by kernel_rfl)) rfl (OpensFs.one rfl rfl (Opens.slice (B := 16) Try.underlying43 (by kernel_rfl) (by kernel_rfl) opens49)))) rfl (OpensFs.cons rfl rfl (Opens.slice (B := 8) Try.underlying31 (by kernel_rfl) (by kernel_rfl) (Opens.int Try.underlying3 (by kernel_rfl))) rfl (OpensFs.one rfl rfl (Opens.int Try.underlying3 (by kernel_rfl))))))).op hf0 wt0
 obtain ⟨cs0, rfl, hsz0⟩ := okWide_struct Try.underlying71 (hval 0 71 v0 rfl rfl)
 obtain ⟨⟨l0_0, a0_1⟩, ⟨a0_2, l0_3⟩, l0_4, a0_5⟩ := x0
 obtain ⟨L0, hL0⟩ : ∃ L, (Value.agg cs0).cells.toList = L := ⟨_, rfl⟩
 rw [hL0] at hK0
 obtain ⟨_, _, rfl, ⟨_, _, rfl, ⟨A0_0, c0_0, rfl, hc0_0, hr0_0⟩, rfl⟩, ⟨_, _, rfl, ⟨_, _, rfl, rfl, ⟨A0_3, c0_3, rfl, hc0_3, hr0_3⟩⟩, ⟨_, _, rfl, ⟨A0_4, c0_4, rfl, hc0_4, hr0_4⟩, rfl⟩⟩⟩ := hK0
 obtain rfl : cs0 = #[.slice A0_0 l0_0.length c0_0, .int .i64 a0_1, .bool a0_2, .slice A0_3 l0_3.length c0_3, .slice A0_4 l0_4.length c0_4, .int .i64 a0_5] := by have h := hL0; simp [Value.cells] at h; cases cs0; simp_all
 clear hA0 hval0 hsz0 hsz
 refine (assartlaw05_HeapDoes.walk A0_0 c0_0 l0_0 a0_1 a0_2 A0_3 c0_3 l0_3 A0_4 c0_4 l0_4 a0_5 W hr0_0 hc0_0 hr0_3 hc0_3 hr0_4 hc0_4).mono fun e W' ⟨he, bel0⟩ => ?_
 have bel := bel0
 subst he
 exact ⟨_, rfl, _, _, _, [], _, [], hW', trodAll_mk1 (shut_bool Try.underlying4 _), (trodAll_cons_mk (Below.trod laidOut (by kernel_rfl) (of_decide_eq_true (by kernel_rfl)) k0 bel lt0) trodAll_mk0), rfl, bel.frame _, fun h => by cases h⟩
theorem over : Rows.heapDoesRow.holds Try.pinned (OpenSpec.ofChange Rows.heapDoesSpec) :=
 OpenClaim.holds_of_wide 10 Try.f10 rfl rfl rfl rfl rfl rfl rfl ⟨rfl, rfl, rfl, rfl, rfl⟩ rfl rfl rfl rfl rfl (by kernel_rfl) Try.func10 (by kernel_rfl)
  (of_decide_eq_true (by kernel_rfl)) (by unfold Func.isWrapper; first | (rw [if_pos (by decide +kernel)]; kernel_rfl) | (rw [if_neg (by decide +kernel)]; exact ⟨rfl, rfl⟩))
  (fun os started H enc _ => lifted os started H enc)
theorem proved : Rows.HeapDoesSaid := over
#print axioms proved
end Go.Proofs.Yteiladccdenpbaa.heapDoes
namespace Go.Proofs.Yteiladccdenpbaa
theorem heapDoes_holds : Rows.HeapDoesSaid := heapDoes.proved
end Go.Proofs.Yteiladccdenpbaa
end
