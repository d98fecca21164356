/- Texts of this claim's proof put together: LawHeapHeld. -/
import Derived.Below
import Derived.Deep.Draws
import Derived.Deep.AppendLies
import Derived.Maps.AppendAt
import Derived.OwnWalk
import Derived.Laws.BytesArg
import Derived.Laws.MakeOwn
import Derived.Laws.OwnMore
import Derived.Deep.OwnRows
import Derived.Tactics
import Derived.Lib.ConvBytes
import Derived.Laws.Slices
import Derived.WalkKit
import Derived.KernelRfl
import Derived.RowKit3
import Derived.Deep.LoopGhost
import Derived.Deep.QuietTactic
import Derived.BigQuiet
import Derived.WideLaws
import Derived.Deep.DeepCutAuto
import Derived.Deep.CutBlock
import Derived.Deep.RegionHeld3
import Derived.Laws.Rows
import Derived.Lib.AppendStr
import Derived.ArgAppend
import Derived.Laws.IdiomCopy
import Derived.RowKit
import Derived.OrdersHeld
import Derived.Laws.BitsLemmas
import Derived.Laws.StructEq
import Derived.Test.YteiladccdenpbaaProg
import Derived.Shelf.RegionOpenPlain
import Derived.Shelf.Abstract
import Derived.Laws.CopyOwn
import Derived.Lib.SlBuf
import Derived.ChangeArms
import Derived.DataReads
import Derived.DataElems
import Derived.SizedLaws
import Derived.Test.YteiladccdenpbaaRows
import Derived.ProofKit
import Derived.OpenShut
import Derived.ShutString
import Derived.ChangeOld
import Derived.Test.YteiladccdenpbaaKHeapHeld0
import Derived.Test.YteiladccdenpbaaKHeapHeld1
import Derived.Test.YteiladccdenpbaaKHeapHeld2
import Derived.Test.YteiladccdenpbaaKHeapHeld3
namespace Foot
end Foot
namespace Go.Proofs.Yteiladccdenpbaa
end Go.Proofs.Yteiladccdenpbaa
namespace Go.Proofs.Yteiladccdenpbaa.P
end Go.Proofs.Yteiladccdenpbaa.P
namespace Go.Proofs.Yteiladccdenpbaa.Pure
end Go.Proofs.Yteiladccdenpbaa.Pure
namespace Go.Proofs.Yteiladccdenpbaa.heapHeld
end Go.Proofs.Yteiladccdenpbaa.heapHeld
namespace Go.Proofs.YteiladccdenpbaaW.PrintLast
end Go.Proofs.YteiladccdenpbaaW.PrintLast
namespace Go.Proofs.YteiladccdenpbaaW.PrintMore
end Go.Proofs.YteiladccdenpbaaW.PrintMore
namespace Go.Proofs.YteiladccdenpbaaW.PrintWords
end Go.Proofs.YteiladccdenpbaaW.PrintWords
namespace Kd
end Kd
section
namespace Go.Proofs.Yteiladccdenpbaa.heapHeld
open Go.ChangeShapes Go.WideShapes Go.ChangeAt Go.RowKit Go.Proofs.Yteiladccdenpbaa.P Go.Proofs.YteiladccdenpbaaW.PrintWords Go.Proofs.YteiladccdenpbaaW.PrintLast Go.Proofs.YteiladccdenpbaaW.PrintMore
open Go.ChangeMaps (open_string shut_string)
set_option linter.unusedVariables false
set_option linter.unusedSimpArgs false
theorem own : ownKnob Try.prog.godebug = none := by kernel_rfl
theorem laidOut : laidOutB Try.prog = true := by kernel_rfl
set_option maxHeartbeats 1000000 in
set_option maxRecDepth 100000 in
theorem lifted (os : Os) (started : os.Started) (H : Type) (enc : TypeId × Value → H) :
  ReturnsInHanded {} Try.checked os 14 .any (Rows.heapHeldSpec.pre6 enc Try.prog Try.f14 Rows.heapHeldRow.domain false) (Rows.heapHeldSpec.post enc Try.prog Try.f14 false true false false) := by
 refine returnsInHanded_of_change_sized (C := Try.checked) own started (by kernel_rfl) Try.func14
  (ChangeSpec.witness6 (enc := enc) (C := Try.checked) false ⟨#[], #[.agg #[.slice none 0 0, .int .i64 0], .agg #[.bool false, .slice none 0 0], .slice none 0 0], []⟩ 8 (by kernel_rfl) (by kernel_rfl) (by kernel_rfl) (by kernel_rfl)) ?_
 intro W base args ds gs before hval0 hW hcnd hsz0 _
 have hsz : (DataW.weightsEach Try.prog (Try.f14.params.toList ++ Rows.heapHeldSpec.plain.varTypes Try.prog) (ds ++ gs)).all (· ≤ reachBytes) = true := hsz0
 have hval : ∀ (j : Nat) t v, Try.f14.params[j]? = some t → args[j]? = some v → Value.okWide Try.prog W .any base t v := hval0
 have hW' := hW
 obtain ⟨p, q, hA0, hV, rfl, hfz, hnd⟩ := hW
 have hA : DataW.TrodAll enc Try.prog W 0 (fun _ => true) true Try.f14.params.toList args.toList ds p := hA0
 rw [Try.params14] at hA hval hsz
 obtain ⟨v0, vs0, d0, ds0, p0, q0, hargs, rfl, rfl, h0, r0⟩ := trodAll_cons hA
 obtain ⟨v1, vs1, d1, ds1, p1, q1, rfl, rfl, rfl, h1, r1⟩ := trodAll_cons r0
 obtain ⟨v2, vs2, d2, ds2, p2, q2, rfl, rfl, rfl, h2, r2⟩ := trodAll_cons r1
 obtain ⟨rfl, rfl, rfl⟩ := trodAll_nil r2
 obtain rfl : args = #[v0, v1, v2] := by cases args; simp_all
 obtain ⟨rfl, rfl⟩ := trodVars_none hV
 have k0 := h0
 have lt0 : ∀ x ∈ p0, x.block < W.heap.size := by obtain ⟨m, hm⟩ := k0; exact DataW.trod_lt m _ _ _ hm
 have wt0 := weights_at hsz (j := 0) (t := 24) (d := d0) rfl rfl
 obtain ⟨fuel0, hf0⟩ := h0
 obtain ⟨x0, hK0, hok0⟩ := (Opens.struct (f := id) (g := id) (fun _ => rfl) Try.underlying24 rfl (by kernel_rfl) (OpensFs.cons rfl rfl (Opens.slice (B := 48) Try.underlying22 (by kernel_rfl) (by kernel_rfl) opens55) rfl (OpensFs.one rfl rfl (Opens.int Try.underlying3 (by kernel_rfl))))).op hf0 wt0
 obtain ⟨cs0, rfl, hsz0⟩ := okWide_struct Try.underlying24 (hval 0 24 v0 rfl rfl)
 obtain ⟨l0_0, a0_1⟩ := x0
 obtain ⟨L0, hL0⟩ : ∃ L, (Value.agg cs0).cells.toList = L := ⟨_, rfl⟩
 rw [hL0] at hK0
 obtain ⟨_, _, rfl, ⟨A0_0, c0_0, rfl, hc0_0, hr0_0⟩, rfl⟩ := hK0
 obtain rfl : cs0 = #[.slice A0_0 l0_0.length c0_0, .int .i64 a0_1] := by have h := hL0; simp [Value.cells] at h; cases cs0; simp_all
 obtain ⟨o0_0, o0_1⟩ := hok0
 have k1 := h1
 have lt1 : ∀ x ∈ p1, x.block < W.heap.size := by obtain ⟨m, hm⟩ := k1; exact DataW.trod_lt m _ _ _ hm
 have wt1 := weights_at hsz (j := 1) (t := 53) (d := d1) rfl rfl
 obtain ⟨fuel1, hf1⟩ := h1
 obtain ⟨x1, hK1, hok1⟩ := (Opens.struct (f := id) (g := id) (fun _ => rfl) Try.underlying53 rfl (by kernel_rfl) (OpensFs.cons rfl rfl (Opens.bool Try.underlying4 (by kernel_rfl)) rfl (OpensFs.one rfl rfl (Opens.slice (B := 16) Try.underlying43 (by kernel_rfl) (by kernel_rfl) opens49)))).op hf1 wt1
 obtain ⟨cs1, rfl, hsz1⟩ := okWide_struct Try.underlying53 (hval 1 53 v1 rfl rfl)
 obtain ⟨a1_0, l1_1⟩ := x1
 obtain ⟨L1, hL1⟩ : ∃ L, (Value.agg cs1).cells.toList = L := ⟨_, rfl⟩
 rw [hL1] at hK1
 obtain ⟨_, _, rfl, rfl, ⟨A1_1, c1_1, rfl, hc1_1, hr1_1⟩⟩ := hK1
 obtain rfl : cs1 = #[.bool a1_0, .slice A1_1 l1_1.length c1_1] := by have h := hL1; simp [Value.cells] at h; cases cs1; simp_all
 obtain ⟨o1_0, o1_1⟩ := hok1
 have k2 := h2
 have lt2 : ∀ x ∈ p2, x.block < W.heap.size := by obtain ⟨m, hm⟩ := k2; exact DataW.trod_lt m _ _ _ hm
 have wt2 := weights_at hsz (j := 2) (t := 31) (d := d2) rfl rfl
 obtain ⟨fuel2, hf2⟩ := h2
 obtain ⟨l2, hK2, hok2⟩ := (Opens.slice (B := 8) Try.underlying31 (by kernel_rfl) (by kernel_rfl) (Opens.int Try.underlying3 (by kernel_rfl))).op hf2 wt2
 obtain ⟨b2, m2, e2, rfl⟩ := okWide_slice Try.underlying31 (hval 2 31 v2 rfl rfl)
 obtain ⟨A2, c2, hcs2, hc2, hr2⟩ := hK2
 have hcs2' : Value.slice b2 m2 e2 = .slice A2 l2.length c2 := by simpa [Value.cells] using hcs2
 injection hcs2' with q1_2 q2_2 q3_2
 subst q1_2 q2_2 q3_2
 have o2 := hok2
 clear hA0 hval0 hsz0 hsz
 obtain ⟨k, h⟩ := Pure.HeapHeld l0_0 a0_1 a1_0 l1_1 l2 o0_0 o0_1 o1_1 o2
 refine (assartlaw05_HeapHeld.calls k _ _ l0_0 a0_1 a1_0 _ _ l1_1 _ _ l2 true W hr0_0 hc0_0 hr1_1 hc1_1 hr2 hc2 h).mono fun e W' ⟨he, bel0⟩ => ?_
 have bel := bel0
 subst he
 exact ⟨_, rfl, _, _, _, [], _, [], hW', trodAll_mk1 (shut_bool Try.underlying4 _), (trodAll_cons_mk (Below.trod laidOut (by kernel_rfl) (of_decide_eq_true (by kernel_rfl)) k0 bel lt0) (trodAll_cons_mk (Below.trod laidOut (by kernel_rfl) (of_decide_eq_true (by kernel_rfl)) k1 bel lt1) (trodAll_cons_mk (Below.trod laidOut (by kernel_rfl) (of_decide_eq_true (by kernel_rfl)) k2 bel lt2) trodAll_mk0))), rfl, bel.frame _, fun h => by cases h⟩
theorem over : Rows.heapHeldRow.holds Try.pinned (OpenSpec.ofChange Rows.heapHeldSpec) :=
 OpenClaim.holds_of_wide 14 Try.f14 rfl rfl rfl rfl rfl rfl rfl ⟨rfl, rfl, rfl, rfl, rfl⟩ rfl rfl rfl rfl rfl (by kernel_rfl) Try.func14 (by kernel_rfl)
  (of_decide_eq_true (by kernel_rfl)) (by unfold Func.isWrapper; first | (rw [if_pos (by decide +kernel)]; kernel_rfl) | (rw [if_neg (by decide +kernel)]; exact ⟨rfl, rfl⟩))
  (fun os started H enc _ => lifted os started H enc)
theorem proved : Rows.HeapHeldSaid := over
#print axioms proved
end Go.Proofs.Yteiladccdenpbaa.heapHeld
namespace Go.Proofs.Yteiladccdenpbaa
theorem heapHeld_holds : Rows.HeapHeldSaid := heapHeld.proved
end Go.Proofs.Yteiladccdenpbaa
end
