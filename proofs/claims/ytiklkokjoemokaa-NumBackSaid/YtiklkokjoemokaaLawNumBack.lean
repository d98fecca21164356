-- Written by a program of this session (xprint.py, over the kit's print). Not trusted: Lean checks it.
import Derived.Test.YtiklkokjoemokaaRows
import Derived.Test.YtiklkokjoemokaaQNumBack
import Derived.Test.YtiklkokjoemokaaPureNumBack
import Derived.WalkKit
import Derived.ProofKit
import Derived.OpenShut
import Derived.ShutString
import Derived.ChangeOld
import Derived.Below
import Derived.SizedLaws
namespace Go.Proofs.Ytiklkokjoemokaa.numBack
open Go.ChangeShapes Go.WideShapes Go.ChangeAt Go.RowKit Go.Proofs.Ytiklkokjoemokaa.P Go.Proofs.YtiklkokjoemokaaW.PrintWords Go.Proofs.YtiklkokjoemokaaW.PrintLast Go.Proofs.YtiklkokjoemokaaW.PrintMore
open Go.ChangeMaps (open_string shut_string)
set_option linter.unusedVariables false
set_option linter.unusedSimpArgs false
theorem own : ownKnob Try.prog.godebug = none := by kernel_rfl
theorem laidOut : laidOutB Try.prog = true := by kernel_rfl
set_option maxHeartbeats 1000000 in
set_option maxRecDepth 100000 in
theorem lifted (os : Os) (started : os.Started) (H : Type) (enc : TypeId × Value → H) :
    ReturnsInHanded {} Try.checked os 5 .any (Rows.numBackSpec.pre6 enc Try.prog Try.f5 Rows.numBackRow.domain false) (Rows.numBackSpec.post enc Try.prog Try.f5 false true false false) := by
  refine returnsInHanded_of_change_sized (C := Try.checked) own started (by kernel_rfl) Try.func5
    (ChangeSpec.witness6 (enc := enc) (C := Try.checked) false ⟨#[], #[.agg #[.int .i64 0, .int .i64 0, .slice none 0 0, .slice none 0 0, .string ByteArray.empty]], []⟩ 8 (by kernel_rfl) (by kernel_rfl) (by kernel_rfl) (by kernel_rfl)) ?_
  intro W base args ds gs before hval0 hW hcnd hsz0 _
  have hsz : (DataW.weightsEach Try.prog (Try.f5.params.toList ++ Rows.numBackSpec.plain.varTypes Try.prog) (ds ++ gs)).all (· ≤ reachBytes) = true := hsz0
  have hval : ∀ (j : Nat) t v, Try.f5.params[j]? = some t → args[j]? = some v → Value.okWide Try.prog W .any base t v := hval0
  have hW' := hW
  obtain ⟨p, q, hA0, hV, rfl, hfz, hnd⟩ := hW
  have hA : DataW.TrodAll enc Try.prog W 0 (fun _ => true) true Try.f5.params.toList args.toList ds p := hA0
  rw [Try.params5] at hA hval hsz
  obtain ⟨v0, vs0, d0, ds0, p0, q0, hargs, rfl, rfl, h0, r0⟩ := trodAll_cons hA
  obtain ⟨rfl, rfl, rfl⟩ := trodAll_nil r0
  obtain rfl : args = #[v0] := by cases args; simp_all
  obtain ⟨rfl, rfl⟩ := trodVars_none hV
  have k0 := h0
  have lt0 : ∀ x ∈ p0, x.block < W.heap.size := by obtain ⟨m, hm⟩ := k0; exact DataW.trod_lt m _ _ _ hm
  have wt0 := weights_at hsz (j := 0) (t := 45) (d := d0) rfl rfl
  obtain ⟨fuel0, hf0⟩ := h0
  obtain ⟨x0, hK0, hok0⟩ := (Opens.struct (f := id) (g := id) (fun _ => rfl) Try.underlying45 rfl (by kernel_rfl) (OpensFs.cons rfl rfl (Opens.int Try.underlying3 (by kernel_rfl)) rfl (OpensFs.cons rfl rfl (Opens.int Try.underlying3 (by kernel_rfl)) rfl (OpensFs.cons rfl rfl (Opens.slice (B := 1) Try.underlying22 (by kernel_rfl) (by kernel_rfl) (Opens.int Try.underlying5 (by kernel_rfl))) rfl (OpensFs.cons rfl rfl (Opens.slice (B := 1) Try.underlying22 (by kernel_rfl) (by kernel_rfl) (Opens.int Try.underlying5 (by kernel_rfl))) rfl (OpensFs.one rfl rfl (Opens.string Try.underlying9 (by kernel_rfl)))))))).op hf0 wt0
  obtain ⟨cs0, rfl, hsz0⟩ := okWide_struct Try.underlying45 (hval 0 45 v0 rfl rfl)
  obtain ⟨a0_0, a0_1, l0_2, l0_3, a0_4⟩ := x0
  obtain ⟨L0, hL0⟩ : ∃ L, (Value.agg cs0).cells.toList = L := ⟨_, rfl⟩
  rw [hL0] at hK0
  obtain ⟨_, _, rfl, rfl, ⟨_, _, rfl, rfl, ⟨_, _, rfl, ⟨A0_2, c0_2, rfl, hc0_2, hr0_2⟩, ⟨_, _, rfl, ⟨A0_3, c0_3, rfl, hc0_3, hr0_3⟩, rfl⟩⟩⟩⟩ := hK0
  obtain rfl : cs0 = #[.int .i64 a0_0, .int .i64 a0_1, .slice A0_2 l0_2.length c0_2, .slice A0_3 l0_3.length c0_3, .string a0_4] := by have h := hL0; simp [Value.cells] at h; cases cs0; simp_all
  obtain ⟨o0_0, o0_1, o0_2, o0_3, o0_4⟩ := hok0
  clear hA0 hval0 hsz0 hsz
  have h := Pure.NumBack a0_0 a0_1 l0_2 l0_3 a0_4 o0_0 o0_1 o0_2 o0_3 o0_4
  refine (assartlaw01_NumBack.calls a0_0 a0_1 _ _ l0_2 _ _ l0_3 a0_4 true W hr0_2 hc0_2 hr0_3 hc0_3 h).mono fun e W' ⟨he, bel0⟩ => ?_
  have bel := bel0
  subst he
  exact ⟨_, rfl, _, _, _, [], _, [], hW', trodAll_mk1 (shut_bool Try.underlying4 _), (trodAll_cons_mk (Below.trod laidOut (by kernel_rfl) (of_decide_eq_true (by kernel_rfl)) k0 bel lt0) trodAll_mk0), rfl, bel.frame _, fun h => by cases h⟩
theorem over : Rows.numBackRow.holds Try.pinned (OpenSpec.ofChange Rows.numBackSpec) :=
  OpenClaim.holds_of_wide 5 Try.f5 rfl rfl rfl rfl rfl rfl rfl ⟨rfl, rfl, rfl, rfl, rfl⟩ rfl rfl rfl rfl rfl (by kernel_rfl) Try.func5 (by kernel_rfl)
    (of_decide_eq_true (by kernel_rfl)) (by unfold Func.isWrapper; first | (rw [if_pos (by decide +kernel)]; kernel_rfl) | (rw [if_neg (by decide +kernel)]; exact ⟨rfl, rfl⟩))
    (fun os started H enc _ => lifted os started H enc)
theorem proved : Rows.NumBackSaid := over
#print axioms proved
end Go.Proofs.Ytiklkokjoemokaa.numBack
namespace Go.Proofs.Ytiklkokjoemokaa
/-- The row, under a short name, for the claim. -/
theorem numBack_holds : Rows.NumBackSaid := numBack.proved
end Go.Proofs.Ytiklkokjoemokaa
