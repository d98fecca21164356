-- Written by a program of this session (xprint.py, over the kit's print). Not trusted: Lean checks it.
import Derived.Test.YtiklkokjoemokaaRows
import Derived.Test.YtiklkokjoemokaaQNumSums
import Derived.Test.YtiklkokjoemokaaPureNumSums
import Derived.WalkKit
import Derived.ProofKit
import Derived.OpenShut
import Derived.ShutString
import Derived.ChangeOld
import Derived.Below
import Derived.SizedLaws
namespace Go.Proofs.Ytiklkokjoemokaa.numSums
open Go.ChangeShapes Go.WideShapes Go.ChangeAt Go.RowKit Go.Proofs.Ytiklkokjoemokaa.P Go.Proofs.YtiklkokjoemokaaW.PrintWords Go.Proofs.YtiklkokjoemokaaW.PrintLast Go.Proofs.YtiklkokjoemokaaW.PrintMore
open Go.ChangeMaps (open_string shut_string)
set_option linter.unusedVariables false
set_option linter.unusedSimpArgs false
theorem own : ownKnob Try.prog.godebug = none := by kernel_rfl
theorem laidOut : laidOutB Try.prog = true := by kernel_rfl
set_option maxHeartbeats 1000000 in
set_option maxRecDepth 100000 in
theorem lifted (os : Os) (started : os.Started) (H : Type) (enc : TypeId × Value → H) :
    ReturnsInHanded {} Try.checked os 8 .any (Rows.numSumsSpec.pre6 enc Try.prog Try.f8 Rows.numSumsRow.domain false) (Rows.numSumsSpec.post enc Try.prog Try.f8 false true false false) := by
  refine returnsInHanded_of_change_sized (C := Try.checked) own started (by kernel_rfl) Try.func8
    (ChangeSpec.witness6 (enc := enc) (C := Try.checked) false ⟨#[], #[.slice none 0 0, .slice none 0 0], []⟩ 8 (by kernel_rfl) (by kernel_rfl) (by kernel_rfl) (by kernel_rfl)) ?_
  intro W base args ds gs before hval0 hW hcnd hsz0 _
  have hsz : (DataW.weightsEach Try.prog (Try.f8.params.toList ++ Rows.numSumsSpec.plain.varTypes Try.prog) (ds ++ gs)).all (· ≤ reachBytes) = true := hsz0
  have hval : ∀ (j : Nat) t v, Try.f8.params[j]? = some t → args[j]? = some v → Value.okWide Try.prog W .any base t v := hval0
  have hW' := hW
  obtain ⟨p, q, hA0, hV, rfl, hfz, hnd⟩ := hW
  have hA : DataW.TrodAll enc Try.prog W 0 (fun _ => true) true Try.f8.params.toList args.toList ds p := hA0
  rw [Try.params8] at hA hval hsz
  obtain ⟨v0, vs0, d0, ds0, p0, q0, hargs, rfl, rfl, h0, r0⟩ := trodAll_cons hA
  obtain ⟨v1, vs1, d1, ds1, p1, q1, rfl, rfl, rfl, h1, r1⟩ := trodAll_cons r0
  obtain ⟨rfl, rfl, rfl⟩ := trodAll_nil r1
  obtain rfl : args = #[v0, v1] := by cases args; simp_all
  obtain ⟨rfl, rfl⟩ := trodVars_none hV
  have k0 := h0
  have lt0 : ∀ x ∈ p0, x.block < W.heap.size := by obtain ⟨m, hm⟩ := k0; exact DataW.trod_lt m _ _ _ hm
  have wt0 := weights_at hsz (j := 0) (t := 22) (d := d0) rfl rfl
  obtain ⟨fuel0, hf0⟩ := h0
  obtain ⟨l0, hK0, hok0⟩ := (Opens.slice (B := 1) Try.underlying22 (by kernel_rfl) (by kernel_rfl) (Opens.int Try.underlying5 (by kernel_rfl))).op hf0 wt0
  obtain ⟨b0, m0, e0, rfl⟩ := okWide_slice Try.underlying22 (hval 0 22 v0 rfl rfl)
  obtain ⟨A0, c0, hcs0, hc0, hr0⟩ := hK0
  have hcs0' : Value.slice b0 m0 e0 = .slice A0 l0.length c0 := by simpa [Value.cells] using hcs0
  injection hcs0' with q1_0 q2_0 q3_0
  subst q1_0 q2_0 q3_0
  have o0 := hok0
  have k1 := h1
  have lt1 : ∀ x ∈ p1, x.block < W.heap.size := by obtain ⟨m, hm⟩ := k1; exact DataW.trod_lt m _ _ _ hm
  have wt1 := weights_at hsz (j := 1) (t := 22) (d := d1) rfl rfl
  obtain ⟨fuel1, hf1⟩ := h1
  obtain ⟨l1, hK1, hok1⟩ := (Opens.slice (B := 1) Try.underlying22 (by kernel_rfl) (by kernel_rfl) (Opens.int Try.underlying5 (by kernel_rfl))).op hf1 wt1
  obtain ⟨b1, m1, e1, rfl⟩ := okWide_slice Try.underlying22 (hval 1 22 v1 rfl rfl)
  obtain ⟨A1, c1, hcs1, hc1, hr1⟩ := hK1
  have hcs1' : Value.slice b1 m1 e1 = .slice A1 l1.length c1 := by simpa [Value.cells] using hcs1
  injection hcs1' with q1_1 q2_1 q3_1
  subst q1_1 q2_1 q3_1
  have o1 := hok1
  clear hA0 hval0 hsz0 hsz
  have h := Pure.NumSums l0 l1 o0 o1
  refine (assartlaw01_NumSums.calls _ _ l0 _ _ l1 true W hr0 hc0 hr1 hc1 h).mono fun e W' ⟨he, bel0⟩ => ?_
  have bel := bel0
  subst he
  exact ⟨_, rfl, _, _, _, [], _, [], hW', trodAll_mk1 (shut_bool Try.underlying4 _), (trodAll_cons_mk (Below.trod laidOut (by kernel_rfl) (of_decide_eq_true (by kernel_rfl)) k0 bel lt0) (trodAll_cons_mk (Below.trod laidOut (by kernel_rfl) (of_decide_eq_true (by kernel_rfl)) k1 bel lt1) trodAll_mk0)), rfl, bel.frame _, fun h => by cases h⟩
theorem over : Rows.numSumsRow.holds Try.pinned (OpenSpec.ofChange Rows.numSumsSpec) :=
  OpenClaim.holds_of_wide 8 Try.f8 rfl rfl rfl rfl rfl rfl rfl ⟨rfl, rfl, rfl, rfl, rfl⟩ rfl rfl rfl rfl rfl (by kernel_rfl) Try.func8 (by kernel_rfl)
    (of_decide_eq_true (by kernel_rfl)) (by unfold Func.isWrapper; first | (rw [if_pos (by decide +kernel)]; kernel_rfl) | (rw [if_neg (by decide +kernel)]; exact ⟨rfl, rfl⟩))
    (fun os started H enc _ => lifted os started H enc)
theorem proved : Rows.NumSumsSaid := over
#print axioms proved
end Go.Proofs.Ytiklkokjoemokaa.numSums
namespace Go.Proofs.Ytiklkokjoemokaa
/-- The row, under a short name, for the claim. -/
theorem numSums_holds : Rows.NumSumsSaid := numSums.proved
end Go.Proofs.Ytiklkokjoemokaa
