/- Texts of this claim's proof put together: F46, PRef, PSeal, PNodeB, PureNodeBack, LawNodeBack. -/
import Derived.Test.YthjnkapkhphpeaaBNodeBack0
import Derived.Test.YthjnkapkhphpeaaBNodeBack3
import Derived.Lib.SmallJoins
import Derived.Test.YthjnkapkhphpeaaBNodeBack1
import Derived.Test.YthjnkapkhphpeaaRows
import Derived.WalkKit
import Derived.ProofKit
import Derived.OpenShut
import Derived.ShutString
import Derived.ChangeOld
import Derived.Below
import Derived.SizedLaws
section
namespace Go.Proofs.Ythjnkapkhphpeaa.P
open Go.RowKit Go.Proofs.YthjnkapkhphpeaaW.PrintWords Go.Proofs.YthjnkapkhphpeaaW.PrintLast Go.Proofs.YthjnkapkhphpeaaW.PrintMore
attribute [local go_sem] max2_int min2_int max_two min_two max_three min_three max_four min_four
set_option linter.unusedVariables false
set_option linter.unusedSimpArgs false

/-! ### assartref01_Seal: function 46 -/
def assartref01_Seal.l0 : Nat → List Int → Option (ByteArray × Int)
  | 0, _ => none
  | k + 1, x4 => if (x4.length : Int) < 36 then (if x4.length < 140737488355328 then (assartref01_Seal.l0 k (x4 ++ [0])) else (none)) else ((assartref01_Sum.f k x4).bind fun t221 => ((assartref01_Put.f k t221 4).bind fun t222 => (if x4.length + t222.length < 140737488355328 then (some (strOfNums (x4 ++ t222), 0)) else (none))))
def assartref01_Seal.f (k : Nat) (l0 : List Int) : Option (ByteArray × Int) := if (l0.length : Int) > 36 then (some ((⟨#[]⟩ : ByteArray), 1)) else ((some (([] : List Int) : List Int)).bind fun y212 => (if y212.length + l0.length < 140737488355328 then (assartref01_Seal.l0 k (y212 ++ l0)) else (none)))
theorem assartref01_Seal.mono_l : ∀ k, (∀ y0, LeO (assartref01_Seal.l0 k y0) (assartref01_Seal.l0 (k + 1) y0))
  | 0 => fun _ r h => by simp [assartref01_Seal.l0] at h
  | k + 1 => by
    have ih0 := assartref01_Seal.mono_l k
    · intro y0
      unfold assartref01_Seal.l0
      repeat' first
      | (with_reducible exact ih0 _)
      | (with_reducible exact assartref01_Put.mono _ _ _)
      | (with_reducible exact assartref01_Sum.mono _ _)
      | (with_reducible exact LeO.refl _)
      | (with_reducible exact LeO.none _)
      | (with_reducible refine LeO.ite ?_ ?_)
      | (with_reducible refine LeO.bind ?_ (fun _ => ?_))
      | exact ih0 _
      | exact assartref01_Put.mono _ _ _
      | exact assartref01_Sum.mono _ _
      | exact LeO.none _
      | refine LeO.ite ?_ ?_
      | refine LeO.bind ?_ (fun _ => ?_)
theorem assartref01_Seal.mono : ∀ a0 k, LeO (assartref01_Seal.f k a0) (assartref01_Seal.f (k + 1) a0) := by
  intro a0 k
  have ih0 := assartref01_Seal.mono_l k
  unfold assartref01_Seal.f
  repeat' first
      | (with_reducible exact ih0 _)
      | (with_reducible exact assartref01_Put.mono _ _ _)
      | (with_reducible exact assartref01_Sum.mono _ _)
      | (with_reducible exact LeO.refl _)
      | (with_reducible exact LeO.none _)
      | (with_reducible refine LeO.ite ?_ ?_)
      | (with_reducible refine LeO.bind ?_ (fun _ => ?_))
      | exact ih0 _
      | exact assartref01_Put.mono _ _ _
      | exact assartref01_Sum.mono _ _
      | exact LeO.none _
      | refine LeO.ite ?_ ?_
      | refine LeO.bind ?_ (fun _ => ?_)
set_option maxHeartbeats 8000000 in
set_option maxRecDepth 100000 in
theorem assartref01_Seal.calls (k : Nat) (A0 : Option Addr) (c0 : Nat) (l0 : List Int) (r1 : ByteArray) (r2 : Int) (w : World) (hr0 : Kd.C (Kd.int .u8) w A0 l0.length l0) (hc0 : l0.length ≤ c0) (h : assartref01_Seal.f k l0 = some (r1, r2)) :
    Calls Try.prog 46 #[.slice A0 l0.length c0] w fun e w' => e = .returned (.tuple #[.string r1, .int .i64 r2]) ∧ Below w.heap.size w w' := by
  have HR0 := Aside0.mk hr0
  have HC0 := Aside0.mk hc0
  clear hr0 hc0
  have HB := Aside0.mk (Below.refl w.heap.size w)
  have H : (if (l0.length : Int) > 36 then (some ((⟨#[]⟩ : ByteArray), 1)) else ((some (([] : List Int) : List Int)).bind fun y212 => (if y212.length + l0.length < 140737488355328 then (assartref01_Seal.l0 k (y212 ++ l0)) else (none)))) = some (r1, r2) := h
  clear h
  by_cases c2 : (l0.length : Int) > 36
  · rw [if_pos c2] at H
    have c2b0 : decide (36 < (l0.length : Int)) = true := decide_eq_true c2
    have c2b1 : decide (36 < l0.length) = true := decide_eq_true (by omega)
    clear c2
    simp only [Option.some.injEq, Prod.mk.injEq] at H
    obtain ⟨rfl, rfl⟩ := H
    go_enter Try.func46, Try.ntmps46
    go_wp2
    go_ret2
    exact ⟨by first | rfl | (simp [errW_none, errW_some] <;> rfl) | (simp [*, errW_none, errW_some] <;> rfl), by repeat (first | (with_reducible first | exact HB.out | apply below_alloc | apply pw_below_drewN | apply below_drew1) | exact HB.out)⟩
  · rw [if_neg c2] at H
    have c2b0 : decide (36 < (l0.length : Int)) = false := decide_eq_false c2
    have c2b1 : decide (36 < l0.length) = false := decide_eq_false (by omega)
    clear c2
    obtain ⟨y212, hy212⟩ : ∃ y_ : List Int, y_ = (([] : List Int)) := ⟨_, rfl⟩
    replace H : (if y212.length + l0.length < 140737488355328 then (assartref01_Seal.l0 k (y212 ++ l0)) else (none)) = some (r1, r2) := by first | (rw [hy212]; with_reducible exact H) | (have H2_ := (Option.bind_some _ _).symm.trans H; rw [hy212]; with_reducible exact H2_) | (have H2_ := (Option.bind_some _ _).symm.trans H; with_reducible exact H2_) | with_reducible exact H | (rw [hy212]; exact H) | exact H
    have Ny212 := Aside0.mk hy212
    clear hy212
    by_cases c3 : y212.length + l0.length < 140737488355328
    · rw [if_pos c3] at H
      have LMc3 := Aside0.mk c3
      clear c3
      obtain ⟨y215, hy215⟩ : ∃ y_ : List Int, y_ = (y212 ++ l0) := ⟨_, rfl⟩
      replace H : (assartref01_Seal.l0 k y215) = some (r1, r2) := by first | (rw [hy215]; with_reducible exact H) | (have H2_ := (Option.bind_some _ _).symm.trans H; rw [hy215]; with_reducible exact H2_) | (have H2_ := (Option.bind_some _ _).symm.trans H; with_reducible exact H2_) | with_reducible exact H | (rw [hy215]; exact H) | exact H
      have Ny215 := Aside0.mk hy215
      clear hy215
      have H' := Aside0.mk H
      clear H
      go_enter Try.func46, Try.ntmps46
      go_wp2_with (first | ((with_reducible refine gate_dst (N := 8) rfl ?_); refine Kd.R_lit (Kd.int .u8) _ 5 ?hg (N := 8) ?hd (xs := ([] : List Int)) (inner := []) (ok := fun _ => True) (okp := fun _ => True) ?hr ?hp (fun _ hk => hk) trivial (Below.refl _ _) (Nat.le_refl _) (by simp) ?_; (case hd => rfl); (case hg => rfl); (case hr => first | (go_simp; done) | (go_simp; rfl)); (case hp => exact (Reps.none _ _)); intro v213 w4 ho5 hb hg_ hnew_; clear hg_ hnew_; (first | rw [← Ny212.out] at ho5 | (simp only [Int.reduceToNat] at ho5; rw [← Ny212.out] at ho5)); have n0_ := Aside0.mk (Kd.R_lower ho5 (below_size (by repeat (first | (with_reducible first | exact HB.out | apply below_alloc | apply pw_below_drewN | apply below_drew1) | exact HB.out)))); have n1_ := Aside0.mk (below_step (by repeat (first | (with_reducible first | exact HB.out | apply below_alloc | apply pw_below_drewN | apply below_drew1) | exact HB.out)) hb); clear HB; have HO214 := n0_; have HB := n1_; clear n0_ n1_; clear hb ho5) | ((with_reducible refine gate_builtin (b := .append) (xs := #[.tmp 8, .tmp 9]) rfl ?_); at_builtin; refine Kd.R_append_rows (Kd.int .u8) (w0 := w) w.heap.size rfl (.tmp 8) (.tmp 9) 24 5 (.int .u8 0) 1 rfl Try.underlying24 info5 rfl (by decide) (by omega) v213 y212 l0 _ _ _ (fun _ => True) (fun _ => False) rfl rfl ?aO ?aR (fun _ _ h => h) (fun _ h => h.elim) ?aF ?aB ?aS ?aL ?_; (case aR => repeat (first | exact (Kd.C_below HR0.out HB.out) | (with_reducible refine Kd.C_alloc ?_ _) | (with_reducible refine Kd.C_drewN ?_ _) | (with_reducible refine Kd.C_drew ?_))); (case aB => exact (by repeat (first | (with_reducible first | exact HB.out | apply below_alloc | apply pw_below_drewN | apply below_drew1) | exact HB.out))); (case aF => exact (fun _ _ => trivial)); (case aO => exact (by (with_reducible repeat (first | apply Kd.R_alloc | apply Kd.R_drewN | apply Kd.R_drew)); exact HO214.out)); (case aS => exact (below_size (by repeat (first | (with_reducible first | exact HB.out | apply below_alloc | apply pw_below_drewN | apply below_drew1) | exact HB.out)))); (case aL => have := LMc3.out; omega); intro v216 w6 ho hb hg hat; rw [← Ny215.out] at ho; have n0_ := Aside0.mk (hb); have n1_ := Aside0.mk (ho); clear HB; clear HO214; have HB := n0_; have HO217 := n1_; clear n0_ n1_; clear ho hb hg hat))
      go_loopg [4] k (fun kq v4 w' => ∃ (x4_1 : List Int), Aside0 (assartref01_Seal.l0 kq x4_1 = some (r1, r2)) ∧ Aside0 (kq ≤ k) ∧ Aside0 (Kd.R (Kd.int .u8) 5 w' w.heap.size (fun _ => True) v4 x4_1) ∧ Aside0 (Below w.heap.size w w'))
      case atStart => exact ⟨(y215), H', ⟨Nat.le_refl _⟩, ⟨by (with_reducible repeat (first | apply Kd.R_alloc | apply Kd.R_drewN | apply Kd.R_drew)); exact HO217.out⟩, ⟨by repeat (first | (with_reducible first | exact HB.out | apply below_alloc | apply pw_below_drewN | apply below_drew1) | exact HB.out)⟩⟩
      case round =>
        clear H'
        try clear c2
        try clear c2b0
        try clear c2b1
        try clear p2
        try clear c3
        try clear c4
        obtain ⟨x4_1, HA, HK1, HO_4, HB⟩ := hrel
        cases gk with
        | zero => exact absurd HA.out (by simp [assartref01_Seal.l0])
        | succ k1 =>
          have H := HA.out
          clear HA
          simp only [assartref01_Seal.l0] at H
          by_cases c7 : (x4_1.length : Int) < 36
          · rw [if_pos c7] at H
            have c7b0 : decide ((x4_1.length : Int) < 36) = true := decide_eq_true c7
            have c7b1 : decide (x4_1.length < 36) = true := decide_eq_true (by omega)
            clear c7
            by_cases c8 : x4_1.length < 140737488355328
            · rw [if_pos c8] at H
              have LMc8 := Aside0.mk c8
              clear c8
              obtain ⟨y218, hy218⟩ : ∃ y_ : List Int, y_ = (x4_1 ++ [0]) := ⟨_, rfl⟩
              replace H : (assartref01_Seal.l0 k1 y218) = some (r1, r2) := by first | (rw [hy218]; with_reducible exact H) | (have H2_ := (Option.bind_some _ _).symm.trans H; rw [hy218]; with_reducible exact H2_) | (have H2_ := (Option.bind_some _ _).symm.trans H; with_reducible exact H2_) | with_reducible exact H | (rw [hy218]; exact H) | exact H
              have Ny218 := Aside0.mk hy218
              clear hy218
              have H' := Aside0.mk H
              clear H
              obtain ⟨Ao9, co9, eo9⟩ := Kd.R_slice HO_4.out
              subst eo9
              go_wp2_with (first | ((with_reducible refine gate_builtin (b := .append) (xs := #[.tmp 14, .tmp 15]) rfl ?_); at_builtin; refine Kd.R_append (Kd.int .u8) (w0 := w) w.heap.size rfl (.tmp 14) (.tmp 15) 24 5 (.int .u8 0) 1 rfl Try.underlying24 info5 rfl (by decide) (by omega) (.slice Ao9 x4_1.length co9) x4_1 0 [.int .u8 0] (fun _ => True) (fun _ => False) rfl rfl ?aP (fun _ hk => hk.elim) ?aF ?aO ?aB ?aS ?aL ?_; (case aP => exact rfl); (case aB => exact (by repeat (first | (with_reducible first | exact HB.out | apply below_alloc | apply pw_below_drewN | apply below_drew1) | exact HB.out))); (case aF => exact (fun _ _ => trivial)); (case aO => exact (by (with_reducible repeat (first | apply Kd.R_alloc | apply Kd.R_drewN | apply Kd.R_drew)); exact HO_4.out)); (case aS => exact (below_size (by repeat (first | (with_reducible first | exact HB.out | apply below_alloc | apply pw_below_drewN | apply below_drew1) | exact HB.out)))); (case aL => have := LMc8.out; omega); intro v219 w10 ho hb hg hat; rw [← Ny218.out] at ho; have n0_ := Aside0.mk (hb); have n1_ := Aside0.mk (ho); clear HB; clear HO_4; have HB := n0_; have HO220 := n1_; clear n0_ n1_; clear ho hb hg hat))
              go_roundg k1
              case measure => have := HK1.out; omega
              case rel => exact ⟨(y218), H', ⟨by have := HK1.out; omega⟩, ⟨by (with_reducible repeat (first | apply Kd.R_alloc | apply Kd.R_drewN | apply Kd.R_drew)); exact HO220.out⟩, ⟨by repeat (first | (with_reducible first | exact HB.out | apply below_alloc | apply pw_below_drewN | apply below_drew1) | exact HB.out)⟩⟩
            · rw [if_neg c8] at H
              exact absurd H (by simp)
          · rw [if_neg c7] at H
            have c7b0 : decide ((x4_1.length : Int) < 36) = false := decide_eq_false c7
            have c7b1 : decide (x4_1.length < 36) = false := decide_eq_false (by omega)
            clear c7
            replace H := Option.bind_eq_some_iff.mp H
            obtain ⟨t221, A110, H⟩ := H
            replace H : ((assartref01_Put.f k1 t221 4).bind fun t222 => (if x4_1.length + t222.length < 140737488355328 then (some (strOfNums (x4_1 ++ t222), 0)) else (none))) = some (r1, r2) := H
            have A11 := Aside0.mk A110
            clear A110
            replace H := Option.bind_eq_some_iff.mp H
            obtain ⟨t222, A120, H⟩ := H
            replace H : (if x4_1.length + t222.length < 140737488355328 then (some (strOfNums (x4_1 ++ t222), 0)) else (none)) = some (r1, r2) := H
            have A12 := Aside0.mk A120
            clear A120
            by_cases c13 : x4_1.length + t222.length < 140737488355328
            · rw [if_pos c13] at H
              have LMc13 := Aside0.mk c13
              clear c13
              obtain ⟨y225, hy225⟩ : ∃ y_ : List Int, y_ = (x4_1 ++ t222) := ⟨_, rfl⟩
              replace H : (some (strOfNums y225, 0)) = some (r1, r2) := by first | (rw [hy225]; with_reducible exact H) | (have H2_ := (Option.bind_some _ _).symm.trans H; rw [hy225]; with_reducible exact H2_) | (have H2_ := (Option.bind_some _ _).symm.trans H; with_reducible exact H2_) | with_reducible exact H | (rw [hy225]; exact H) | exact H
              have Ny225 := Aside0.mk hy225
              clear hy225
              simp only [Option.some.injEq, Prod.mk.injEq] at H
              obtain ⟨rfl, rfl⟩ := H
              obtain ⟨Ao14, co14, eo14⟩ := Kd.R_slice HO_4.out
              subst eo14
              go_wp2_with (first | ((with_reducible refine gate_callee (f := 53) rfl ?_); refine goesL_ (some 19) rfl rfl Try.func53 (by kernel_rfl) rfl #[.slice Ao14 x4_1.length co14] rfl (by (try simp only [List.map_toArray, List.map_cons, List.map_nil]); first | done | rfl | (simp only [List.length_drop, List.length_take]; rfl)) ?_; (with_reducible refine (assartref01_Sum.calls k1 _ _ x4_1 t221 _ ?side1 ?side2 A11.out).mono ?_); (case side1 => repeat (first | exact (Kd.R_reads' HO_4.out).2.2 | (with_reducible refine Kd.C_alloc ?_ _) | (with_reducible refine Kd.C_drewN ?_ _) | (with_reducible refine Kd.C_drew ?_))); (case side2 => exact (Kd.R_reads' HO_4.out).2.1); rintro e w' ⟨rfl, ⟨nd, rfl⟩⟩; refine ⟨_, rfl, ?_⟩) | ((with_reducible refine gate_callee (f := 45) rfl ?_); refine goesL_ (some 20) rfl rfl Try.func45 (by kernel_rfl) rfl #[.int .i64 t221, .int .i64 4] rfl (by (try simp only [List.map_toArray, List.map_cons, List.map_nil]); first | done | rfl | (simp only [List.length_drop, List.length_take]; rfl)) ?_; (with_reducible refine (assartref01_Put.calls k1 t221 4 t222 _ A12.out).mono ?_); rintro e w15 ⟨v223, rfl, ho0, hb⟩; refine ⟨_, rfl, ?_⟩; have n0_ := Aside0.mk (Kd.R_elder' (by (with_reducible repeat (first | apply Kd.R_alloc | apply Kd.R_drewN | apply Kd.R_drew)); exact HO_4.out) (Kd.R_base ho0) hb); have n1_ := Aside0.mk (Kd.R_lower (Kd.R_new' ho0 (Kd.R_lt (by (with_reducible repeat (first | apply Kd.R_alloc | apply Kd.R_drewN | apply Kd.R_drew)); exact HO_4.out))) (below_size (by repeat (first | (with_reducible first | exact HB.out | apply below_alloc | apply pw_below_drewN | apply below_drew1) | exact HB.out)))); have n2_ := Aside0.mk (below_step (by repeat (first | (with_reducible first | exact HB.out | apply below_alloc | apply pw_below_drewN | apply below_drew1) | exact HB.out)) hb); clear HO_4; clear HB; have HO_4 := n0_; have HO224 := n1_; have HB := n2_; clear n0_ n1_ n2_; (try clear hb); (try clear hb2); (try clear hk); (try clear hi); (try clear ho0); obtain ⟨Ao17, co17, eo17⟩ := Kd.R_slice HO224.out; subst eo17) | ((with_reducible refine gate_builtin (b := .append) (xs := #[.tmp 17, .tmp 20]) rfl ?_); at_builtin; refine Kd.R_append_rows (Kd.int .u8) (w0 := w) w.heap.size rfl (.tmp 17) (.tmp 20) 24 5 (.int .u8 0) 1 rfl Try.underlying24 info5 rfl (by decide) (by omega) (.slice Ao14 x4_1.length co14) x4_1 t222 _ _ _ (fun k_ => some k_ ≠ (.slice Ao17 t222.length co17 : Value).ownBlock) (fun _ => False) rfl rfl ?aO ?aR (fun _ _ h => h) (fun _ h => h.elim) ?aF ?aB ?aS ?aL ?_; (case aR => repeat (first | exact (Kd.R_reads' HO224.out).2.2 | (with_reducible refine Kd.C_alloc ?_ _) | (with_reducible refine Kd.C_drewN ?_ _) | (with_reducible refine Kd.C_drew ?_))); (case aB => exact (by repeat (first | (with_reducible first | exact HB.out | apply below_alloc | apply pw_below_drewN | apply below_drew1) | exact HB.out))); (case aF => exact (fun k_ hk => Kd.fresh' (Kd.R_lt (by (with_reducible repeat (first | apply Kd.R_alloc | apply Kd.R_drewN | apply Kd.R_drew)); exact HO224.out)) k_ hk)); (case aO => exact (by (with_reducible repeat (first | apply Kd.R_alloc | apply Kd.R_drewN | apply Kd.R_drew)); exact Kd.R_mono HO_4.out (fun _ hk => hk.2))); (case aS => exact (below_size (by repeat (first | (with_reducible first | exact HB.out | apply below_alloc | apply pw_below_drewN | apply below_drew1) | exact HB.out)))); (case aL => have := LMc13.out; omega); intro v226 w16 ho hb hg hat; rw [← Ny225.out] at ho; have n0_ := Aside0.mk (Kd.R_after (ok := (fun _ => True)) (by (with_reducible repeat (first | apply Kd.R_alloc | apply Kd.R_drewN | apply Kd.R_drew)); exact HO224.out) hg hat); have n1_ := Aside0.mk (hb); have n2_ := Aside0.mk (ho); clear HO224; clear HB; clear HO_4; have HO224 := n0_; have HB := n1_; have HO227 := n2_; clear n0_ n1_ n2_; clear ho hb hg hat; have hcv18 := own_string (P := Try.prog) Try.underlying24 Try.underlying5 Try.underlying9 (Kd.own_of_R HO227.out)))
              go_ret2
              exact ⟨by first | rfl | (simp [errW_none, errW_some] <;> rfl) | (simp [*, errW_none, errW_some] <;> rfl), by repeat (first | (with_reducible first | exact HB.out | apply below_alloc | apply pw_below_drewN | apply below_drew1) | exact HB.out)⟩
            · rw [if_neg c13] at H
              exact absurd H (by simp)
    · rw [if_neg c3] at H
      exact absurd H (by simp)

end Go.Proofs.Ythjnkapkhphpeaa.P
end
section
namespace Go.Proofs.Ythjnkapkhphpeaa.P
open Go.RowKit Go.Proofs.YthjnkapkhphpeaaW.PrintWords Go.Proofs.YthjnkapkhphpeaaW.PrintLast Go.Proofs.YthjnkapkhphpeaaW.PrintMore
set_option linter.unusedVariables false
set_option linter.unusedSimpArgs false
theorem wrap_u32 (n : Int) (h0 : 0 ≤ n) (h1 : n < 2 ^ 32) : IntKind.u32.wrap n = n := by rw [IntKind.wrap_u32]; omega
theorem and1 {n : Int} (h0 : 0 ≤ n) (h1 : n < 4294967296) : Go.bits .and .u32 n 1 = n % 2 := bits_mask .u32 32 (by decide) wrap_u32 1 (by decide) n h0 (by simpa using h1)
theorem xor_val {a b : Int} (ha : 0 ≤ a) (ha1 : a < 4294967296) (hb : 0 ≤ b) (hb1 : b < 4294967296) : assartref01_xor.f a b = some (Go.bits .xor .u32 a b) := by
  unfold assartref01_xor.f
  rw [Int.emod_eq_of_lt ha ha1, Int.emod_eq_of_lt hb hb1, w64 (by have := xor_bd a b; omega) (by have := xor_bd a b; omega)]
theorem l1_step (d : Nat) : ∀ (k : Nat) (l : List Int) (x i : Int), 0 ≤ x → x < 4294967296 → d ≤ 8 → d < k → assartref01_Sum.l1 k l x i (8 - d) = assartref01_Sum.l0 (k - d - 1) l (stN d x) (wrap64 (i + 1)) := by
  induction d with
  | zero =>
    intro k l x i h0 h1 hd hk
    obtain ⟨k, rfl⟩ : ∃ m, k = m + 1 := ⟨k - 1, by omega⟩
    simp [assartref01_Sum.l1, stN]
  | succ d ih =>
    intro k l x i h0 h1 hd hk
    obtain ⟨k, rfl⟩ : ∃ m, k = m + 1 := ⟨k - 1, by omega⟩
    have hlt : (8 : Int) - ((d + 1 : Nat) : Int) < 8 := by omega
    have ew : wrap64 (8 - ((d + 1 : Nat) : Int) + 1) = 8 - (d : Int) := by rw [w64 (by omega) (by omega)]; omega
    have et : Int.tmod x 2 = x % 2 := Int.tmod_eq_emod_of_nonneg h0
    have ed : Int.tdiv x 2 = x / 2 := Int.tdiv_eq_ediv_of_nonneg h0
    have hs : st x = if x % 2 = 1 then Go.bits .xor .u32 (x / 2) 3988292384 else x / 2 := by
      unfold st
      rw [and1 h0 h1]
      by_cases h : x % 2 = 1 <;> simp [h]
    simp only [assartref01_Sum.l1]
    rw [if_pos hlt, ew, et, ed, w64 (by omega) (by omega), show k + 1 - (d + 1) - 1 = k - d - 1 by omega, stN, hs]
    by_cases h : x % 2 = 1
    · rw [if_pos h, if_pos h, xor_val (by omega) (by omega) (by omega) (by omega)]
      simp only [Option.bind_some]
      exact ih k l _ i (xor_bd _ _).1 (xor_bd _ _).2 (by omega) (by omega)
    · rw [if_neg h, if_neg h]
      exact ih k l _ i (by omega) (by omega) (by omega) (by omega)
theorem l0_step (l : List Int) (hl : l.length ≤ 140737488355328) (hb : ∀ x ∈ l, 0 ≤ x ∧ x < 256) (d : Nat) : ∀ (k i : Nat), i + d = l.length → 10 * d < k → assartref01_Sum.l0 k l (regI (l.take i)) i = some (crc l) := by
  induction d with
  | zero =>
    intro k i hi hk
    obtain ⟨k, rfl⟩ : ∃ m, k = m + 1 := ⟨k - 1, by omega⟩
    obtain rfl : i = l.length := by omega
    have hbd := regI_bd l
    simp only [assartref01_Sum.l0]
    rw [if_neg (by omega), List.take_length, xor_val hbd.1 hbd.2 (by omega) (by omega)]
    simp only [Option.bind_some, crc]
    rw [w64 (by have := xor_bd IntKind.u32.max (regI l); omega) (by have := xor_bd IntKind.u32.max (regI l); omega)]
    congr 1
    simp only [Go.bits]
    rw [BitVec.xor_comm]
    rfl
  | succ d ih =>
    intro k i hi hk
    obtain ⟨k, rfl⟩ : ∃ m, k = m + 1 := ⟨k - 1, by omega⟩
    have hbd := regI_bd (l.take i)
    have hc := lt_of_all hb i
    simp only [assartref01_Sum.l0]
    rw [if_pos (by omega), if_pos (by omega), w64 (by omega) (by omega), xor_val hbd.1 hbd.2 hc.1 (by omega)]
    simp only [Option.bind_some]
    have := l1_step 8 k l (Go.bits .xor .u32 (regI (l.take i)) (rd l i)) i (xor_bd _ _).1 (xor_bd _ _).2 (by omega) (by omega)
    simp only [Int.sub_self, show (8 : Int) - ((8 : Nat) : Int) = 0 by omega] at this
    rw [this, w64 (by omega) (by omega)]
    have e := regI_snoc l i (by omega)
    unfold byteI at e
    rw [Int.emod_eq_of_lt hc.1 (by omega)] at e
    rw [← e]
    exact ih _ (i + 1) (by omega) (by omega)
/-- The document's check sum is ours. -/
theorem refSum_val (l : List Int) (hl : l.length ≤ 140737488355328) (hb : ∀ x ∈ l, 0 ≤ x ∧ x < 256) (k : Nat) (hk : 10 * l.length < k) : assartref01_Sum.f k l = some (crc l) := by
  have := l0_step l hl hb l.length k 0 (by omega) hk
  simpa [assartref01_Sum.f, regI] using this
theorem limit_val (k : Nat) (w : Int) (h1 : 1 ≤ w) (h4 : w ≤ 4) : assartref01_limit.f (k + 6) w = some (256 ^ w.toNat) := by
  rcases pow4 h1 h4 with rfl | rfl | rfl | rfl <;> simp [assartref01_limit.f, assartref01_limit.l0, wrap64]
theorem refPut_val (k : Nat) (n w : Int) (h1 : 1 ≤ w) (h4 : w ≤ 4) (h0 : 0 ≤ n) (hn : n < 256 ^ w.toNat) : assartref01_Put.f (k + 6) n w = some (le n w) := by
  have hl := limit_val k w h1 h4
  have hz : ¬ n < 0 := by omega
  have tq : ∀ m : Int, 0 ≤ m → Int.tdiv m 256 = m / 256 := fun m h => Int.tdiv_eq_ediv_of_nonneg h
  have tr : ∀ m : Int, 0 ≤ m → Int.tmod m 256 = m % 256 := fun m h => Int.tmod_eq_emod_of_nonneg h
  have q1 : (0 : Int) ≤ n / 256 := by omega
  have q2 : (0 : Int) ≤ n / 256 / 256 := by omega
  have q3 : (0 : Int) ≤ n / 256 / 256 / 256 := by omega
  have e1 : n / 65536 = n / 256 / 256 := by omega
  have e2 : n / 16777216 = n / 256 / 256 / 256 := by omega
  rcases pow4 h1 h4 with rfl | rfl | rfl | rfl
  all_goals
    simp at hn
    have w1 : wrap64 (n / 256) = n / 256 := w64 (by omega) (by omega)
    have w2 : wrap64 (n / 256 / 256) = n / 256 / 256 := w64 (by omega) (by omega)
    have w3 : wrap64 (n / 256 / 256 / 256) = n / 256 / 256 / 256 := w64 (by omega) (by omega)
    have w4 : wrap64 (n / 256 / 256 / 256 / 256) = n / 256 / 256 / 256 / 256 := w64 (by omega) (by omega)
    have hgt : ¬ n ≥ 256 ^ 1 ∨ True := .inr trivial
    simp only [assartref01_Put.f]
    rw [if_neg (by decide), if_neg (by decide), if_neg hz, hl]
    simp only [Option.bind_some]
    simp [assartref01_Put.j0, assartref01_Put.l0, tq, tr, h0, q1, q2, q3, w1, w2, w3, w4, le, le4, e1, e2, show (1 : Int) + 1 = 2 from rfl, w64]
    try omega
theorem refPut_none (k : Nat) (n w : Int) (h : ¬ (1 ≤ w ∧ w ≤ 4 ∧ 0 ≤ n ∧ n < 256 ^ w.toNat)) : assartref01_Put.f (k + 6) n w = some [] := by
  simp only [assartref01_Put.f]
  by_cases h1 : w < 1
  · rw [if_pos h1]; simp [assartref01_Put.j0]
  · rw [if_neg h1]
    by_cases h4 : w > 4
    · rw [if_pos h4]; simp [assartref01_Put.j0]
    · rw [if_neg h4]
      by_cases h0 : n < 0
      · rw [if_pos h0]; simp [assartref01_Put.j0]
      · rw [if_neg h0, limit_val k w (by omega) (by omega)]
        simp only [Option.bind_some]
        have : n ≥ 256 ^ w.toNat := by
          have : ¬ n < 256 ^ w.toNat := fun hn => h ⟨by omega, by omega, by omega, hn⟩
          omega
        simp [assartref01_Put.j0, this]
theorem refTake_val (k : Nat) (l : List Int) (a w : Int) (hl : l.length ≤ 140737488355328) (hb : ∀ x ∈ l, 0 ≤ x ∧ x < 256) (h1 : 1 ≤ w) (h4 : w ≤ 4) (h0 : 0 ≤ a) (ha : a + w ≤ l.length) : assartref01_Take.f (k + 6) l a w = some (lev l a w, a + w, 0) := by
  have b0 := lt_of_all hb a
  have b1 := lt_of_all hb (a + 1)
  have b2 := lt_of_all hb (a + 2)
  have b3 := lt_of_all hb (a + 3)
  have ew : wrap64 ((l.length : Int) - a) = l.length - a := w64 (by omega) (by omega)
  have q0 : wrap64 a = a := w64 (by omega) (by omega)
  have q1 : wrap64 (a + 1) = a + 1 := w64 (by omega) (by omega)
  have q2 : wrap64 (a + 2) = a + 2 := w64 (by omega) (by omega)
  have q3 : wrap64 (a + 3) = a + 3 := w64 (by omega) (by omega)
  have q4 : wrap64 (a + 4) = a + 4 := w64 (by omega) (by omega)
  have r0 : wrap64 (rd l a) = rd l a := w64 (by omega) (by omega)
  have r1 : wrap64 (rd l (a + 1)) = rd l (a + 1) := w64 (by omega) (by omega)
  have r2 : wrap64 (rd l (a + 2)) = rd l (a + 2) := w64 (by omega) (by omega)
  have r3 : wrap64 (rd l (a + 3)) = rd l (a + 3) := w64 (by omega) (by omega)
  have v1 : (0 : Int) ≤ a + 1 := by omega
  have v2 : (0 : Int) ≤ a + 2 := by omega
  have v3 : (0 : Int) ≤ a + 3 := by omega
  have c0 : a < l.length := by omega
  simp only [assartref01_Take.f]
  rw [if_neg (by omega), if_neg (by omega), if_neg (by omega), if_neg (by omega), ew]
  have hd : decide ((l.length : Int) - a < w) = false := by simp; omega
  rw [hd]
  rcases pow4 h1 h4 with rfl | rfl | rfl | rfl
  · simp [assartref01_Take.j0, assartref01_Take.l0, h0, c0, lev, q0, q1, q2, q3, q4, r0, w64]
  · have c1 : a + 1 < l.length := by omega
    have t1 : wrap64 (wrap64 (rd l (a + 1) * 256) + rd l a) = rd l a + 256 * rd l (a + 1) := by rw [w64 (x := rd l (a + 1) * 256) (by omega) (by omega), w64 (by omega) (by omega)]; omega
    simp [assartref01_Take.j0, assartref01_Take.l0, h0, c0, c1, lev, q0, q1, q2, q3, q4, r0, r1, v1, w64, t1]
  · have c1 : a + 1 < l.length := by omega
    have c2 : a + 2 < l.length := by omega
    have t1 : wrap64 (wrap64 (rd l (a + 2) * 256) + rd l (a + 1)) = rd l (a + 1) + 256 * rd l (a + 2) := by rw [w64 (x := rd l (a + 2) * 256) (by omega) (by omega), w64 (by omega) (by omega)]; omega
    have t2 : wrap64 (wrap64 ((rd l (a + 1) + 256 * rd l (a + 2)) * 256) + rd l a) = rd l a + 256 * rd l (a + 1) + 65536 * rd l (a + 2) := by rw [w64 (x := (rd l (a + 1) + 256 * rd l (a + 2)) * 256) (by omega) (by omega), w64 (by omega) (by omega)]; omega
    simp [assartref01_Take.j0, assartref01_Take.l0, h0, c0, c1, c2, lev, q0, q1, q2, q3, q4, r0, r1, r2, v1, v2, w64, t1, t2]
  · have c1 : a + 1 < l.length := by omega
    have c2 : a + 2 < l.length := by omega
    have c3 : a + 3 < l.length := by omega
    have t1 : wrap64 (wrap64 (rd l (a + 3) * 256) + rd l (a + 2)) = rd l (a + 2) + 256 * rd l (a + 3) := by rw [w64 (x := rd l (a + 3) * 256) (by omega) (by omega), w64 (by omega) (by omega)]; omega
    have t2 : wrap64 (wrap64 ((rd l (a + 2) + 256 * rd l (a + 3)) * 256) + rd l (a + 1)) = rd l (a + 1) + 256 * rd l (a + 2) + 65536 * rd l (a + 3) := by rw [w64 (x := (rd l (a + 2) + 256 * rd l (a + 3)) * 256) (by omega) (by omega), w64 (by omega) (by omega)]; omega
    have t3 : wrap64 (wrap64 ((rd l (a + 1) + 256 * rd l (a + 2) + 65536 * rd l (a + 3)) * 256) + rd l a) = rd l a + 256 * rd l (a + 1) + 65536 * rd l (a + 2) + 16777216 * rd l (a + 3) := by rw [w64 (x := (rd l (a + 1) + 256 * rd l (a + 2) + 65536 * rd l (a + 3)) * 256) (by omega) (by omega), w64 (by omega) (by omega)]; omega
    simp [assartref01_Take.j0, assartref01_Take.l0, h0, c0, c1, c2, c3, lev, q0, q1, q2, q3, q4, r0, r1, r2, r3, v1, v2, v3, w64, t1, t2, t3]
theorem refTake_none (k : Nat) (l : List Int) (a w : Int) (hl : l.length ≤ 140737488355328) (h : ¬ (1 ≤ w ∧ w ≤ 4 ∧ 0 ≤ a ∧ a + w ≤ l.length)) : assartref01_Take.f (k + 6) l a w = some (0, 0, 2) := by
  simp only [assartref01_Take.f]
  by_cases h1 : w < 1
  · rw [if_pos h1]; simp [assartref01_Take.j0]
  · rw [if_neg h1]
    by_cases h4 : w > 4
    · rw [if_pos h4]; simp [assartref01_Take.j0]
    · rw [if_neg h4]
      by_cases h0 : a < 0
      · rw [if_pos h0]; simp [assartref01_Take.j0]
      · rw [if_neg h0]
        by_cases h2 : a > (l.length : Int)
        · rw [if_pos h2]; simp [assartref01_Take.j0]
        · rw [if_neg h2, w64 (by omega) (by omega)]
          have hd : decide ((l.length : Int) - a < w) = true := by simp; omega
          rw [hd]
          simp [assartref01_Take.j0]
theorem refSeal_l0 (d : Nat) : ∀ (k : Nat) (l : List Int), l.length + d = 36 → d < k → assartref01_Seal.l0 k l = assartref01_Seal.l0 (k - d) (l ++ List.replicate d 0) := by
  induction d with
  | zero => intro k l h hk; simp
  | succ d ih =>
    intro k l h hk
    obtain ⟨k, rfl⟩ : ∃ m, k = m + 1 := ⟨k - 1, by omega⟩
    simp only [assartref01_Seal.l0]
    rw [if_pos (by omega), if_pos (by omega), ih k _ (by simp; omega) (by omega)]
    rw [show k + 1 - (d + 1) = k - d by omega, List.append_assoc]
    have : [(0 : Int)] ++ List.replicate d 0 = List.replicate (d + 1) 0 := by rw [List.replicate_succ]; rfl
    rw [this]
theorem pad_bd {l : List Int} (hb : ∀ x ∈ l, 0 ≤ x ∧ x < 256) : ∀ x ∈ pad l, 0 ≤ x ∧ x < 256 := by
  intro x hx
  simp only [pad, List.mem_append, List.mem_replicate] at hx
  rcases hx with hx | ⟨_, rfl⟩
  · exact hb x hx
  · omega
theorem pad_len {l : List Int} (h : l.length ≤ 36) : (pad l).length = 36 := by simp [pad]; omega
theorem refSeal_end (k : Nat) (l : List Int) (hl : l.length = 36) (hb : ∀ x ∈ l, 0 ≤ x ∧ x < 256) (hk : 400 < k) : assartref01_Seal.l0 (k + 1) l = some (strOfNums (l ++ le (crc l) 4), 0) := by
  have hcb := crc_bd l
  have h1 := refSum_val l (by omega) hb k (by omega)
  obtain ⟨i, hi⟩ : ∃ m, k = m + 6 := ⟨k - 6, by omega⟩
  have h2 : assartref01_Put.f k (crc l) 4 = some (le (crc l) 4) := by rw [hi]; exact refPut_val i _ 4 (by omega) (by omega) hcb.1 (by simpa using hcb.2)
  have hll : (le (crc l) 4).length = 4 := rfl
  simp only [assartref01_Seal.l0]
  rw [if_neg (by omega), h1, Option.bind_some, h2, Option.bind_some, if_pos (by omega)]
theorem refSeal_val (l : List Int) (hl : l.length ≤ 140737488355328) (hb : ∀ x ∈ l, 0 ≤ x ∧ x < 256) (k : Nat) (hk : 500 < k) : assartref01_Seal.f k l = num_Seal.f l := by
  unfold assartref01_Seal.f num_Seal.f
  by_cases h : 36 < l.length
  · rw [if_pos (by omega), if_pos h]
  · rw [if_neg (by omega), if_neg h]
    simp only [Option.bind_some, List.nil_append, List.length_nil]
    rw [if_pos (by omega), refSeal_l0 (36 - l.length) k l (by omega) (by omega)]
    obtain ⟨j, hj⟩ : ∃ m, k - (36 - l.length) = m + 1 := ⟨k - (36 - l.length) - 1, by omega⟩
    rw [hj]
    exact refSeal_end j (pad l) (pad_len (by omega)) (pad_bd hb) (by omega)
end Go.Proofs.Ythjnkapkhphpeaa.P
end
section
namespace Go.Proofs.Ythjnkapkhphpeaa.P
open Go.RowKit Go.Proofs.YthjnkapkhphpeaaW.PrintWords Go.Proofs.YthjnkapkhphpeaaW.PrintLast Go.Proofs.YthjnkapkhphpeaaW.PrintMore
set_option linter.unusedVariables false
set_option linter.unusedSimpArgs false
theorem bytesOf_str {l : List Int} (hb : ∀ x ∈ l, 0 ≤ x ∧ x < 256) : bytesOf (strOfNums l) = l := by
  unfold bytesOf strOfNums
  simp only [List.map_map]
  conv => rhs; rw [← List.map_id l]
  refine List.map_congr_left fun x hx => ?_
  have := hb x hx
  simp
  omega
theorem lit_C (W : World) (e : TypeId) (l : List Int) (m : Nat × Nat) (hl : l.length ≤ 9223372036854775807) : Kd.C (Kd.int .u8) (W.alloc (.cells (encs (Value.int .u8) l).toArray e m)) (some ⟨W.heap.size, 0, none⟩) l.length l := by
  refine Kd.C_of_reads (d := (0 : Int)) ⟨rfl, hl, fun h => ⟨⟨W.heap.size, 0, none⟩, rfl, fun j hj => ?_⟩⟩
  rw [add_plain, World.cell?_alloc_mark]
  have := encs_get (enc := Value.int .u8) (d := (0 : Int)) l j hj
  simpa using this
theorem sum_ex : crc [49, 50, 51, 52, 53, 54, 55, 56, 57] = 3421780262 := by decide +kernel
theorem put_ex : num_Put.f 6 258 2 = some [2, 1] := by decide +kernel
theorem take_ex : num_Take.f 6 [2, 1] 0 2 = some (258, 2, 0) := by decide +kernel
theorem seal_bytes {l : List Int} (hl : l.length ≤ 36) (hb : ∀ x ∈ l, 0 ≤ x ∧ x < 256) : bytesOf (strOfNums (pad l ++ le (crc (pad l)) 4)) = pad l ++ le (crc (pad l)) 4 := by
  refine bytesOf_str fun x hx => ?_
  rcases List.mem_append.1 hx with hx | hx
  · simp only [pad, List.mem_append, List.mem_replicate] at hx
    rcases hx with hx | ⟨_, rfl⟩
    · exact hb x hx
    · omega
  · have : x ∈ le4 (crc (pad l)) := List.mem_of_mem_take hx
    simp only [le4, List.mem_cons, List.not_mem_nil, or_false] at this
    rcases this with rfl | rfl | rfl | rfl <;> omega
theorem lev_le (l : List Int) (n : Int) (h0 : 0 ≤ n) (h1 : n < 4294967296) (hl : l.length = 36) : lev (l ++ le n 4) 36 4 = n := by
  have hr : ∀ j : Nat, j < 4 → rd (l ++ le n 4) (36 + (j : Int)) = (le4 n).getD j 0 := by
    intro j hj
    unfold rd
    rw [show (36 + (j : Int)).toNat = 36 + j by omega, List.getD_eq_getElem?_getD, List.getElem?_append_right (by omega), hl, List.getD_eq_getElem?_getD]
    simp [le, le4]
  have e0 := hr 0 (by omega)
  have e1 := hr 1 (by omega)
  have e2 := hr 2 (by omega)
  have e3 := hr 3 (by omega)
  simp [le4] at e0 e1 e2 e3
  simp only [lev]
  rw [e0, show (36 : Int) + 1 = 37 from rfl, show (36 : Int) + 2 = 38 from rfl, show (36 : Int) + 3 = 39 from rfl, e1, e2, e3]
  simp
  omega
theorem open_seal {l : List Int} (hl : l.length ≤ 36) (hb : ∀ x ∈ l, 0 ≤ x ∧ x < 256) : num_Open.f (strOfNums (pad l ++ le (crc (pad l)) 4)) = some (pad l, 0) := by
  have hp : (pad l).length = 36 := by simp [pad]; omega
  have ht : (pad l ++ le (crc (pad l)) 4).take 36 = pad l := by rw [List.take_append_of_le_length (by omega), List.take_of_length_le (by omega)]
  have hs : isSealed (pad l ++ le (crc (pad l)) 4) = true := by
    unfold isSealed
    rw [ht, lev_le _ _ (crc_bd _).1 (crc_bd _).2 hp]
    simp [hp]
    rfl
  unfold num_Open.f
  rw [seal_bytes hl hb, hs, ht]
  rfl
theorem seal_size {l : List Int} (h : l.length ≤ 36) : (strOfNums (pad l ++ le (crc (pad l)) 4)).size = 40 := by
  have hp := pad_len h
  simp [strOfNums, ByteArray.size, hp, le, le4]
theorem pad_lo {l : List Int} {k : Nat} (h : k < l.length) : rd (pad l) (k : Int) = rd l k := by
  simp [rd, pad, List.getD_eq_getElem?_getD, List.getElem?_append_left h]
theorem pad_hi {l : List Int} {k : Nat} (h : ¬ k < l.length) : rd (pad l) (k : Int) = 0 := by
  simp only [rd, pad, Int.toNat_natCast, List.getD_eq_getElem?_getD]
  rw [List.getElem?_append_right (by omega)]
  cases h2 : (List.replicate (36 - l.length) (0 : Int))[k - l.length]? with
  | none => rfl
  | some x =>
    have := List.mem_of_getElem? h2
    simp at this
    simp [this.2]
theorem lev_back {b : List Int} (hb : ∀ x ∈ b, 0 ≤ x ∧ x < 256) (hl : b.length = 40) : le (lev b 36 4) 4 = b.drop 36 := by
  have r := lt_of_all hb
  have r0 := r 36
  have r1 := r 37
  have r2 := r 38
  have r3 := r 39
  have hd : b.drop 36 = [rd b 36, rd b 37, rd b 38, rd b 39] := by
    apply List.ext_getElem
    · simp [hl]
    · intro i h1 h2
      simp at h2
      rcases (show i = 0 ∨ i = 1 ∨ i = 2 ∨ i = 3 by omega) with rfl | rfl | rfl | rfl <;> simp [rd, hl]
  rw [hd]
  simp only [le, le4, lev]
  simp
  omega
theorem str_bytesOf (s : ByteArray) : strOfNums (bytesOf s) = s := by
  unfold strOfNums bytesOf
  simp only [List.map_map]
  have : (s.data.toList.map ((fun n : Int => UInt8.ofNat n.toNat) ∘ fun b => (b.toNat : Int))) = s.data.toList := by
    conv => rhs; rw [← List.map_id s.data.toList]
    exact List.map_congr_left fun x _ => by simp
  rw [this]
theorem seal_of_sealed {s : ByteArray} (h : isSealed (bytesOf s) = true) : num_Seal.f ((bytesOf s).take 36) = some (s, 0) := by
  unfold isSealed at h
  simp only [Bool.and_eq_true, decide_eq_true_eq] at h
  obtain ⟨hl, hc⟩ := h
  have ht : ((bytesOf s).take 36).length = 36 := by rw [List.length_take]; omega
  have hp : pad ((bytesOf s).take 36) = (bytesOf s).take 36 := by unfold pad; rw [ht]; simp
  unfold num_Seal.f
  rw [if_neg (by omega), hp, ← hc, lev_back (bytesOf_bd s) hl, List.take_append_drop, str_bytesOf]
end Go.Proofs.Ythjnkapkhphpeaa.P
end
section
/- The plain laws of node's blocks: what is printed, and what a block tells. -/
namespace Go.Proofs.Ythjnkapkhphpeaa.P
open Go.RowKit Go.Proofs.YthjnkapkhphpeaaW.PrintWords Go.Proofs.YthjnkapkhphpeaaW.PrintLast Go.Proofs.YthjnkapkhphpeaaW.PrintMore
set_option linter.unusedVariables false
set_option linter.unusedSimpArgs false
theorem toListN_inj {x y : ByteArray} (h : x.toList = y.toList) : x = y := by
  rw [ByteArray.toList_eq, ByteArray.toList_eq] at h
  cases x; cases y
  simp at h
  rw [h]
def bodyN (l : List S78) : List Int := (l.map fun x => le x.f0 4 ++ le x.f1 4).flatten
def rowN (leaf : Bool) (l : List S78) : List Int := [if leaf = true then 1 else 2, (l.length : Int) % 256] ++ bodyN l
theorem le4_length (n : Int) : (le n 4).length = 4 := by simp [le, le4]
theorem bodyN_len (l : List S78) : (bodyN l).length = 8 * l.length := by
  induction l with
  | nil => rfl
  | cons x l ih =>
    show (le x.f0 4 ++ le x.f1 4 ++ bodyN l).length = _
    rw [List.length_append, List.length_append, le4_length, le4_length, ih, List.length_cons]
    omega
theorem rowN_len (leaf : Bool) (l : List S78) : (rowN leaf l).length = 2 + 8 * l.length := by
  unfold rowN
  rw [List.length_append, bodyN_len]
  simp
theorem le_bd (n : Int) : ∀ x ∈ le n 4, 0 ≤ x ∧ x < 256 := by
  intro x hx
  simp only [le, le4] at hx
  have : x ∈ le4 n := List.mem_of_mem_take hx
  simp only [le4, List.mem_cons, List.not_mem_nil, or_false] at this
  omega
theorem rowN_bd (leaf : Bool) (l : List S78) : ∀ x ∈ rowN leaf l, 0 ≤ x ∧ x < 256 := by
  intro x hx
  unfold rowN bodyN at hx
  rcases List.mem_append.1 hx with hx | hx
  · simp only [List.mem_cons, List.not_mem_nil, or_false] at hx
    rcases hx with rfl | rfl
    · split <;> omega
    · omega
  · obtain ⟨y, hy, hx⟩ := List.mem_flatten.1 hx
    obtain ⟨z, _, rfl⟩ := List.mem_map.1 hy
    rcases List.mem_append.1 hx with hx | hx <;> exact le_bd _ x hx
def Fit4 (l : List S78) : Prop := ∀ y ∈ l, 0 ≤ y.f0 ∧ y.f0 ≤ 2147483647 ∧ 0 ≤ y.f1 ∧ y.f1 ≤ 2147483647
theorem fit4_right {l : List S78} (h : RtN l) : Fit4 l := by
  intro y hy
  obtain ⟨i, hi, rfl⟩ := List.getElem_of_mem hy
  have := h.2.2 i hi (by omega)
  unfold okAt kAt vAt at this
  rw [rd_eq l i hi] at this
  exact ⟨this.1, this.2.1, this.2.2.1, this.2.2.2.1⟩
theorem put4 (k : Nat) (n : Int) (h0 : 0 ≤ n) (h1 : n ≤ 2147483647) (hk : 6 ≤ k) : num_Put.f k n 4 = some (le n 4) := by
  obtain ⟨k, rfl⟩ : ∃ m, k = m + 6 := ⟨k - 6, by omega⟩
  have h256 : ((256 : Int) ^ (4 : Int).toNat) = 4294967296 := rfl
  exact Put_val k n 4 (by omega) (by omega) h0 (by omega)
theorem take4 (k : Nat) (l : List Int) (a : Int) (hl : l.length ≤ 1000) (hb : ∀ x ∈ l, 0 ≤ x ∧ x < 256) (h0 : 0 ≤ a) (ha : a + 4 ≤ l.length) (hk : 6 ≤ k) : num_Take.f k l a 4 = some (lev l a 4, a + 4, 0) := by
  obtain ⟨k, rfl⟩ : ∃ m, k = m + 6 := ⟨k - 6, by omega⟩
  exact Take_val k l a 4 (by omega) hb (by omega) (by omega) h0 ha
theorem bodyN_step (l : List S78) (j : Nat) (h : j < l.length) : bodyN (l.drop j) = le l[j].f0 4 ++ le l[j].f1 4 ++ bodyN (l.drop (j + 1)) := by
  rw [List.drop_eq_getElem_cons h]
  rfl
theorem print04_l0 (l : List S78) (hf : Fit4 l) (hl : l.length ≤ 4) : ∀ (d k j : Nat) (acc : List Int), j + d = l.length → d + 10 < k → acc.length + 8 * d ≤ 100 →
    node_Print.l0 k acc l (l.length : Int) (j : Int) = (num_Seal.f (acc ++ bodyN (l.drop j))).bind fun b => some (b.1, b.2) := by
  intro d
  induction d with
  | zero =>
    intro k j acc hj hk ha
    obtain ⟨k, rfl⟩ : ∃ m, k = m + 1 := ⟨k - 1, by omega⟩
    obtain rfl : j = l.length := by omega
    simp only [node_Print.l0]
    rw [if_neg (by omega), List.drop_length]
    simp [bodyN]
  | succ d ih =>
    intro k j acc hj hk ha
    obtain ⟨k, rfl⟩ : ∃ m, k = m + 1 := ⟨k - 1, by omega⟩
    have hlt : j < l.length := by omega
    have hb := hf l[j] (List.getElem_mem hlt)
    simp only [node_Print.l0]
    rw [if_pos (by omega), if_pos (by omega), if_pos (by omega), rd_eq l j hlt, put4 k _ hb.1 hb.2.1 (by omega), Option.bind_some, put4 k _ hb.2.2.1 hb.2.2.2 (by omega), Option.bind_some]
    have hfl : [acc, le l[j].f0 4, le l[j].f1 4].flatten = acc ++ le l[j].f0 4 ++ le l[j].f1 4 := by simp
    have hlen : (acc ++ le l[j].f0 4 ++ le l[j].f1 4).length = acc.length + 8 := by rw [List.length_append, List.length_append, le4_length, le4_length]
    unfold slices_Concat_byte_byte.f
    rw [hfl, if_pos (by rw [hlen]; simp; omega), Option.bind_some, wsucc j (by omega), ih k (j + 1) _ (by omega) (by omega) (by rw [hlen]; omega), bodyN_step l j hlt]
    simp only [List.append_assoc]
def blkN (leaf : Bool) (l : List S78) : ByteArray := strOfNums (pad (rowN leaf l) ++ le (crc (pad (rowN leaf l))) 4)
theorem seal_rowN (leaf : Bool) (l : List S78) (h : l.length ≤ 4) : num_Seal.f (rowN leaf l) = some (blkN leaf l, 0) := by
  unfold num_Seal.f
  rw [if_neg (by rw [rowN_len]; omega)]
  rfl
theorem printN_ok (leaf : Bool) {l : List S78} (h : RtN l) (k : Nat) (hk : 30 < k) : node_Print.f k leaf l = some (blkN leaf l, 0) := by
  have hlen := h.2.1
  have key : ∀ acc : List Int, acc.length = 2 → acc ++ bodyN l = rowN leaf l → node_Print.j0 k acc leaf l = some (blkN leaf l, 0) := by
    intro acc ha he
    obtain ⟨k, rfl⟩ : ∃ m, k = m + 1 := ⟨k - 1, by omega⟩
    simp only [node_Print.j0]
    have := print04_l0 l (fit4_right h) hlen l.length k 0 acc (by omega) (by omega) (by omega)
    rw [show ((0 : Nat) : Int) = 0 from rfl, List.drop_zero, he, seal_rowN leaf l hlen] at this
    rw [this]
    rfl
  unfold node_Print.f
  rw [right04_val leaf l k (by omega), Option.bind_some, if_pos (decide_eq_true h), Option.bind_some]
  cases leaf with
  | true =>
    rw [if_pos rfl, if_pos (by simp)]
    exact key _ (by simp) rfl
  | false =>
    rw [if_neg (by simp)]
    exact key _ (by simp) rfl
theorem printN_bad (leaf : Bool) {l : List S78} (h : ¬ RtN l) (k : Nat) (hk : 6 ≤ k) : node_Print.f k leaf l = some (⟨#[]⟩, 1) := by
  unfold node_Print.f
  rw [right04_val leaf l k hk, Option.bind_some, if_neg (by simpa using h)]
/-- The items that a block's bytes tell. -/
def itemsOf (own : List Int) (n : Nat) : List S78 := (List.range n).map fun i => ⟨lev own (2 + 8 * (i : Nat)) 4, lev own (6 + 8 * (i : Nat)) 4⟩
theorem itemsOf_succ (own : List Int) (n : Nat) : itemsOf own (n + 1) = itemsOf own n ++ [⟨lev own (2 + 8 * (n : Nat)) 4, lev own (6 + 8 * (n : Nat)) 4⟩] := by
  unfold itemsOf
  rw [List.range_succ, List.map_append]
  rfl
theorem itemsOf_len (own : List Int) (n : Nat) : (itemsOf own n).length = n := by simp [itemsOf]
def endN (s : ByteArray) (leaf : Bool) (it : List S78) : Option (Bool × List S78 × Int) :=
  if RtN it ∧ (blkN leaf it).toList = s.toList then some (leaf, it, 0) else some (false, [], 2)
theorem parse04_l0 (s : ByteArray) (own : List Int) (leaf : Bool) (hown : own.length = 36) (hb : ∀ x ∈ own, 0 ≤ x ∧ x < 256) (n : Nat) (hn : n ≤ 4) : ∀ (d k i : Nat), i + d = n → d + 50 < k →
    node_Parse.l0 k s own (2 + 8 * (i : Nat)) (n : Int) (i : Int) leaf (itemsOf own i) = endN s leaf (itemsOf own n) := by
  intro d
  induction d with
  | zero =>
    intro k i hi hk
    obtain ⟨k, rfl⟩ : ∃ m, k = m + 1 := ⟨k - 1, by omega⟩
    obtain rfl : i = n := by omega
    simp only [node_Parse.l0]
    rw [if_neg (by omega)]
    unfold endN
    by_cases hr : RtN (itemsOf own i)
    · rw [printN_ok leaf hr k (by omega), Option.bind_some, if_pos rfl]
      by_cases hs : (blkN leaf (itemsOf own i)).toList = s.toList
      · rw [if_pos hs, if_pos ⟨hr, hs⟩]
      · rw [if_neg hs, if_neg fun h => hs h.2]
    · rw [printN_bad leaf hr k (by omega), Option.bind_some, if_neg (by simp), if_neg fun h => hr h.1]
  | succ d ih =>
    intro k i hi hk
    obtain ⟨k, rfl⟩ : ∃ m, k = m + 1 := ⟨k - 1, by omega⟩
    have hm : ((i : Int) + 1) % 256 = ((i + 1 : Nat) : Int) := by omega
    have ha : (2 : Int) + 8 * ((i : Nat) : Int) + 4 + 4 = 2 + 8 * ((i + 1 : Nat) : Int) := by omega
    have hb6 : (2 : Int) + 8 * ((i : Nat) : Int) + 4 = 6 + 8 * ((i : Nat) : Int) := by omega
    have hi2 := itemsOf_succ own i
    have hil := itemsOf_len own i
    have ih' := ih k (i + 1) (by omega) (by omega)
    simp only [node_Parse.l0]
    rw [if_pos (by omega), take4 k own _ (by omega) hb (by omega) (by omega) (by omega), Option.bind_some]
    dsimp only
    rw [take4 k own _ (by omega) hb (by omega) (by omega) (by omega), Option.bind_some]
    dsimp only
    rw [if_pos (by omega), hm, ha, hb6, ← hi2, ih']
/-- What any block tells. -/
def parseN (s : ByteArray) : Option (Bool × List S78 × Int) :=
  if isSealed (bytesOf s) = true ∧ rd ((bytesOf s).take 36) 1 ≤ 4 then endN s (rd ((bytesOf s).take 36) 0 == 1) (itemsOf ((bytesOf s).take 36) (rd ((bytesOf s).take 36) 1).toNat) else some (false, [], 2)
theorem own_facts {s : ByteArray} (hs : isSealed (bytesOf s) = true) : ((bytesOf s).take 36).length = 36 ∧ (∀ x ∈ (bytesOf s).take 36, 0 ≤ x ∧ x < 256) := by
  refine ⟨?_, fun x hx => bytesOf_bd s x (List.mem_of_mem_take hx)⟩
  unfold isSealed at hs
  simp only [Bool.and_eq_true, decide_eq_true_eq] at hs
  rw [List.length_take, hs.1]
  rfl
theorem rd_own {own : List Int} (hl : own.length = 36) (hb : ∀ x ∈ own, 0 ≤ x ∧ x < 256) : 0 ≤ rd own 1 ∧ rd own 1 < 256 := by
  have : rd own 1 = own[1] := by simp [rd, hl]
  rw [this]
  exact hb _ (List.getElem_mem _)
theorem parseN_val (s : ByteArray) (k : Nat) (hk : 100 < k) : node_Parse.f k s = parseN s := by
  unfold node_Parse.f parseN
  obtain ⟨k, rfl⟩ : ∃ m, k = m + 1 := ⟨k - 1, by omega⟩
  by_cases hs : isSealed (bytesOf s) = true
  · have ho : num_Open.f s = some ((bytesOf s).take 36, 0) := by unfold num_Open.f; rw [if_pos hs]
    obtain ⟨hl, hb⟩ := own_facts hs
    rw [ho, Option.bind_some, if_pos rfl]
    generalize (bytesOf s).take 36 = own at hl hb ⊢
    obtain ⟨h0, h1⟩ := rd_own hl hb
    rw [if_pos (by show 1 < (own.length : Int); omega)]
    simp only [node_Parse.j0]
    by_cases h4 : rd own 1 ≤ 4
    · rw [decide_eq_false (by omega), if_neg (by simp), if_pos (by omega), if_pos (by omega), if_pos ⟨hs, h4⟩]
      have := parse04_l0 s own (rd own 0 == 1) hl hb (rd own 1).toNat (by omega) (rd own 1).toNat k 0 (by omega) (by omega)
      rw [Int.toNat_of_nonneg h0] at this
      exact this
    · rw [decide_eq_true (by omega), if_pos rfl, if_neg fun h => h4 h.2]
  · have ho : num_Open.f s = some ([], 2) := by unfold num_Open.f; rw [if_neg hs]
    rw [ho, Option.bind_some, if_neg (by simp), if_neg fun h => hs h.1]
    simp only [node_Parse.j0]
    rw [if_pos trivial]
theorem parseN_cases (s : ByteArray) : parseN s = some (false, [], 2) ∨ ∃ leaf it, RtN it ∧ blkN leaf it = s ∧ parseN s = some (leaf, it, 0) := by
  unfold parseN
  split
  · unfold endN
    split
    · rename_i h
      exact .inr ⟨_, _, h.1, toListN_inj h.2, rfl⟩
    · exact .inl rfl
  · exact .inl rfl
theorem open_blkN (leaf : Bool) {l : List S78} (h : l.length ≤ 4) : num_Open.f (blkN leaf l) = some (pad (rowN leaf l), 0) := open_seal (by rw [rowN_len]; omega) (rowN_bd leaf l)
theorem sealed_blkN (leaf : Bool) {l : List S78} (h : l.length ≤ 4) : isSealed (bytesOf (blkN leaf l)) = true ∧ (bytesOf (blkN leaf l)).take 36 = pad (rowN leaf l) := by
  have := open_blkN leaf h
  unfold num_Open.f at this
  by_cases hs : isSealed (bytesOf (blkN leaf l)) = true
  · rw [if_pos hs] at this
    simp only [Option.some.injEq, Prod.mk.injEq] at this
    exact ⟨hs, this.1⟩
  · rw [if_neg hs] at this
    simp at this
theorem blkN_size (leaf : Bool) {l : List S78} (h : l.length ≤ 4) : (blkN leaf l).size = 40 := seal_size (by rw [rowN_len]; omega)
theorem le4_back (n : Int) (h0 : 0 ≤ n) (h1 : n ≤ 2147483647) : n % 256 + 256 * (n / 256 % 256) + 65536 * (n / 65536 % 256) + 16777216 * (n / 16777216 % 256) = n := by omega
theorem items_row (leaf : Bool) (l : List S78) (h : l.length ≤ 4) (hf : Fit4 l) : itemsOf (pad (rowN leaf l)) l.length = l := by
  unfold Fit4 at hf
  match l, h with
  | [], _ => rfl
  | [a], _ =>
    obtain ⟨a0, a1, a2, a3⟩ := hf a (by simp)
    cases a with | mk x y =>
    simp only at a0 a1 a2 a3
    simp [itemsOf, rowN, bodyN, le, le4, pad, lev, rd, List.range_succ, le4_back _ a0 a1, le4_back _ a2 a3]
  | [a, b], _ =>
    obtain ⟨a0, a1, a2, a3⟩ := hf a (by simp)
    obtain ⟨b0, b1, b2, b3⟩ := hf b (by simp)
    cases a with | mk x y =>
    cases b with | mk x' y' =>
    simp only at a0 a1 a2 a3 b0 b1 b2 b3
    simp [itemsOf, rowN, bodyN, le, le4, pad, lev, rd, List.range_succ, le4_back _ a0 a1, le4_back _ a2 a3, le4_back _ b0 b1, le4_back _ b2 b3]
  | [a, b, c], _ =>
    obtain ⟨a0, a1, a2, a3⟩ := hf a (by simp)
    obtain ⟨b0, b1, b2, b3⟩ := hf b (by simp)
    obtain ⟨c0, c1, c2, c3⟩ := hf c (by simp)
    cases a with | mk x y =>
    cases b with | mk x' y' =>
    cases c with | mk x'' y'' =>
    simp only at a0 a1 a2 a3 b0 b1 b2 b3 c0 c1 c2 c3
    simp [itemsOf, rowN, bodyN, le, le4, pad, lev, rd, List.range_succ, le4_back _ a0 a1, le4_back _ a2 a3, le4_back _ b0 b1, le4_back _ b2 b3, le4_back _ c0 c1, le4_back _ c2 c3]
  | [a, b, c, d], _ =>
    obtain ⟨a0, a1, a2, a3⟩ := hf a (by simp)
    obtain ⟨b0, b1, b2, b3⟩ := hf b (by simp)
    obtain ⟨c0, c1, c2, c3⟩ := hf c (by simp)
    obtain ⟨d0, d1, d2, d3⟩ := hf d (by simp)
    cases a with | mk x y =>
    cases b with | mk x' y' =>
    cases c with | mk x'' y'' =>
    cases d with | mk u v =>
    simp only at a0 a1 a2 a3 b0 b1 b2 b3 c0 c1 c2 c3 d0 d1 d2 d3
    simp [itemsOf, rowN, bodyN, le, le4, pad, lev, rd, List.range_succ, le4_back _ a0 a1, le4_back _ a2 a3, le4_back _ b0 b1, le4_back _ b2 b3, le4_back _ c0 c1, le4_back _ c2 c3, le4_back _ d0 d1, le4_back _ d2 d3]
  | _ :: _ :: _ :: _ :: _ :: l, h => simp at h
theorem parseN_blk (leaf : Bool) {l : List S78} (h : RtN l) : parseN (blkN leaf l) = some (leaf, l, 0) := by
  have hlen := h.2.1
  obtain ⟨hs, ht⟩ := sealed_blkN leaf hlen
  have r0 : (rd (pad (rowN leaf l)) 0 == 1) = leaf := by
    cases leaf <;> simp [rowN, pad, rd]
  have r1 : rd (pad (rowN leaf l)) 1 = (l.length : Int) := by
    simp [rowN, pad, rd]
    omega
  unfold parseN
  rw [if_pos ⟨hs, by rw [ht, r1]; omega⟩, ht, r0, r1, Int.toNat_natCast, items_row leaf l hlen (fit4_right h)]
  unfold endN
  rw [if_pos ⟨h, rfl⟩]
theorem blkN_inj {leaf leaf' : Bool} {l l' : List S78} (h : RtN l) (h' : RtN l') (e : blkN leaf l = blkN leaf' l') : leaf = leaf' ∧ l = l' := by
  have h1 := parseN_blk leaf h
  rw [e, parseN_blk leaf' h'] at h1
  simp only [Option.some.injEq, Prod.mk.injEq] at h1
  exact ⟨h1.1.symm, h1.2.1.symm⟩
end Go.Proofs.Ythjnkapkhphpeaa.P
end
section
/- NodeBack: what is printed is parsed; what is parsed is right, and has that block; two right nodes have the same block just if they are the same. -/
namespace Go.Proofs.Ythjnkapkhphpeaa.Pure
open Go.RowKit Go.Proofs.Ythjnkapkhphpeaa.P Go.Proofs.YthjnkapkhphpeaaW.PrintWords Go.Proofs.YthjnkapkhphpeaaW.PrintLast Go.Proofs.YthjnkapkhphpeaaW.PrintMore

theorem refSame04_val (k : Nat) (a b : Bool) (l m : List S78) (hl : l.length ≤ 1000) (hk : 1000 < k) : assartref04_Same.f k a l b m = some ((a == b) && decide (l = m)) := by
  unfold assartref04_Same.f
  cases h : (a == b) with
  | true => rw [if_pos rfl, items_val l m (by omega) k (by omega)]; rfl
  | false => rw [if_neg (by simp)]; rfl
theorem back_j2 (k : Nat) (a b : Bool) (la lb : List S78) (x : Bool) (hx : x = false → RtN la ∧ RtN lb) (hk : 2000 < k) : assartlaw04_NodeBack.j2 k true x a la b lb = some true := by
  obtain ⟨k, rfl⟩ : ∃ n, k = n + 1 := ⟨k - 1, by omega⟩
  simp only [assartlaw04_NodeBack.j2]
  cases x with
  | true => rw [if_pos rfl]
  | false =>
    obtain ⟨ha, hb⟩ := hx rfl
    have hla := ha.2.1
    rw [if_neg (by simp), printN_ok a ha k (by omega), Option.bind_some, printN_ok b hb k (by omega), Option.bind_some]
    dsimp only
    rw [parseN_val _ k (by omega), parseN_blk a ha, Option.bind_some]
    dsimp only
    rw [if_pos rfl, if_pos rfl, if_pos rfl, if_pos trivial, blkN_size a hla, if_pos (show (((40 : Nat) : Int)) = 40 from rfl), refSame04_val k a a la la (by omega) (by omega), Option.bind_some]
    rw [show ((a == a) && decide (la = la)) = true by simp, if_pos rfl, refSame04_val k a b la lb (by omega) (by omega), Option.bind_some]
    congr 1
    rw [beq_iff_eq]
    by_cases h : a = b ∧ la = lb
    · obtain ⟨rfl, rfl⟩ := h
      simp
    · have h1 : ((blkN a la).toList == (blkN b lb).toList) = false := by
        rw [beq_eq_false_iff_ne]
        exact fun e => h (blkN_inj ha hb (toListN_inj e))
      rw [h1]
      by_cases h2 : a = b
      · have : ¬ la = lb := fun e => h ⟨h2, e⟩
        simp [this]
      · simp [h2]
theorem back_j1 (k : Nat) (a b : Bool) (la lb : List S78) (hk : 2001 < k) : assartlaw04_NodeBack.j1 k true false a la b lb = some true := by
  obtain ⟨k, rfl⟩ : ∃ n, k = n + 1 := ⟨k - 1, by omega⟩
  simp only [assartlaw04_NodeBack.j1]
  rw [if_neg (by simp), refRight04_val a la k (by omega), Option.bind_some, refRight04_val b lb k (by omega)]
  by_cases ha : RtN la
  · rw [if_pos (decide_eq_true ha), Option.bind_some]
    refine back_j2 k a b la lb _ (fun h => ⟨ha, ?_⟩) (by omega)
    simpa using h
  · rw [if_neg (by simpa using ha)]
    exact back_j2 k a b la lb true (fun h => by cases h) (by omega)
theorem NodeBack : assartlaw04_NodeBack.QPure := by
  intro a la b lb s _ _ _
  refine ⟨4000, ?_⟩
  unfold assartlaw04_NodeBack.f
  rw [show assartlaw04_shown.f = some true from rfl, Option.bind_some]
  have out : ∀ x : Bool, assartlaw04_NodeBack.j0 4000 s true x a la b lb = some true := by
    intro x
    rw [show (4000 : Nat) = 3999 + 1 from rfl]
    simp only [assartlaw04_NodeBack.j0]
    cases x with
    | true => rw [if_pos rfl]
    | false =>
      rw [if_neg (by simp), parseN_val s 3999 (by omega)]
      rcases parseN_cases s with hp | ⟨leaf, it, hr, hb, hp⟩
      · have hnil : ¬ RtN [] := fun h => by have := h.1; simp at this
        rw [hp, Option.bind_some]
        dsimp only
        rw [printN_bad false hnil 3999 (by omega), Option.bind_some, if_neg (by simp)]
        exact back_j1 3999 a b la lb (by omega)
      · rw [hp, Option.bind_some]
        dsimp only
        rw [printN_ok leaf hr 3999 (by omega), Option.bind_some, if_pos rfl, if_pos rfl, if_pos (by rw [hb]), refRight04_val leaf it 3999 (by omega), Option.bind_some, decide_eq_true hr]
        exact back_j1 3999 a b la lb (by omega)
  by_cases h1 : (la.length : Int) > 20
  · rw [if_pos h1]; exact out _
  · rw [if_neg h1]
    by_cases h2 : (lb.length : Int) > 20
    · rw [if_pos h2]; exact out _
    · rw [if_neg h2]; exact out _
end Go.Proofs.Ythjnkapkhphpeaa.Pure
end
section
namespace Go.Proofs.Ythjnkapkhphpeaa.nodeBack
open Go.ChangeShapes Go.WideShapes Go.ChangeAt Go.RowKit Go.Proofs.Ythjnkapkhphpeaa.P Go.Proofs.YthjnkapkhphpeaaW.PrintWords Go.Proofs.YthjnkapkhphpeaaW.PrintLast Go.Proofs.YthjnkapkhphpeaaW.PrintMore
open Go.ChangeMaps (open_string shut_string)
set_option linter.unusedVariables false
set_option linter.unusedSimpArgs false
theorem own : ownKnob Try.prog.godebug = none := by kernel_rfl
theorem laidOut : laidOutB Try.prog = true := by kernel_rfl
set_option maxHeartbeats 1000000 in
set_option maxRecDepth 100000 in
theorem lifted (os : Os) (started : os.Started) (H : Type) (enc : TypeId × Value → H) :
    ReturnsInHanded {} Try.checked os 10 .any (Rows.nodeBackSpec.pre6 enc Try.prog Try.f10 Rows.nodeBackRow.domain false) (Rows.nodeBackSpec.post enc Try.prog Try.f10 false true false false) := by
  refine returnsInHanded_of_change_sized (C := Try.checked) own started (by kernel_rfl) Try.func10
    (ChangeSpec.witness6 (enc := enc) (C := Try.checked) false ⟨#[], #[.agg #[.bool false, .slice none 0 0], .agg #[.bool false, .slice none 0 0], .string ByteArray.empty], []⟩ 8 (by kernel_rfl) (by kernel_rfl) (by kernel_rfl) (by kernel_rfl)) ?_
  intro W base args ds gs before hval0 hW hcnd hsz0 _
  have hsz : (DataW.weightsEach Try.prog (Try.f10.params.toList ++ Rows.nodeBackSpec.plain.varTypes Try.prog) (ds ++ gs)).all (· ≤ reachBytes) = true := hsz0
  have hval : ∀ (j : Nat) t v, Try.f10.params[j]? = some t → args[j]? = some v → Value.okWide Try.prog W .any base t v := hval0
  have hW' := hW
  obtain ⟨p, q, hA0, hV, rfl, hfz, hnd⟩ := hW
  have hA : DataW.TrodAll enc Try.prog W 0 (fun _ => true) true Try.f10.params.toList args.toList ds p := hA0
  rw [Try.params10] at hA hval hsz
  obtain ⟨v0, vs0, d0, ds0, p0, q0, hargs, rfl, rfl, h0, r0⟩ := trodAll_cons hA
  obtain ⟨v1, vs1, d1, ds1, p1, q1, rfl, rfl, rfl, h1, r1⟩ := trodAll_cons r0
  obtain ⟨v2, vs2, d2, ds2, p2, q2, rfl, rfl, rfl, h2, r2⟩ := trodAll_cons r1
  obtain ⟨rfl, rfl, rfl⟩ := trodAll_nil r2
  obtain rfl : args = #[v0, v1, v2] := by cases args; simp_all
  obtain ⟨rfl, rfl⟩ := trodVars_none hV
  have k0 := h0
  have lt0 : ∀ x ∈ p0, x.block < W.heap.size := by obtain ⟨m, hm⟩ := k0; exact DataW.trod_lt m _ _ _ hm
  have wt0 := weights_at hsz (j := 0) (t := 56) (d := d0) rfl rfl
  obtain ⟨fuel0, hf0⟩ := h0
  obtain ⟨x0, hK0, hok0⟩ := (Opens.struct (f := id) (g := id) (fun _ => rfl) Try.underlying56 rfl (by kernel_rfl) (OpensFs.cons rfl rfl (Opens.bool Try.underlying4 (by kernel_rfl)) rfl (OpensFs.one rfl rfl (Opens.slice (B := 16) Try.underlying54 (by kernel_rfl) (by kernel_rfl) opens78)))).op hf0 wt0
  obtain ⟨cs0, rfl, hsz0⟩ := okWide_struct Try.underlying56 (hval 0 56 v0 rfl rfl)
  obtain ⟨a0_0, l0_1⟩ := x0
  obtain ⟨L0, hL0⟩ : ∃ L, (Value.agg cs0).cells.toList = L := ⟨_, rfl⟩
  rw [hL0] at hK0
  obtain ⟨_, _, rfl, rfl, ⟨A0_1, c0_1, rfl, hc0_1, hr0_1⟩⟩ := hK0
  obtain rfl : cs0 = #[.bool a0_0, .slice A0_1 l0_1.length c0_1] := by have h := hL0; simp [Value.cells] at h; cases cs0; simp_all
  obtain ⟨o0_0, o0_1⟩ := hok0
  have k1 := h1
  have lt1 : ∀ x ∈ p1, x.block < W.heap.size := by obtain ⟨m, hm⟩ := k1; exact DataW.trod_lt m _ _ _ hm
  have wt1 := weights_at hsz (j := 1) (t := 56) (d := d1) rfl rfl
  obtain ⟨fuel1, hf1⟩ := h1
  obtain ⟨x1, hK1, hok1⟩ := (Opens.struct (f := id) (g := id) (fun _ => rfl) Try.underlying56 rfl (by kernel_rfl) (OpensFs.cons rfl rfl (Opens.bool Try.underlying4 (by kernel_rfl)) rfl (OpensFs.one rfl rfl (Opens.slice (B := 16) Try.underlying54 (by kernel_rfl) (by kernel_rfl) opens78)))).op hf1 wt1
  obtain ⟨cs1, rfl, hsz1⟩ := okWide_struct Try.underlying56 (hval 1 56 v1 rfl rfl)
  obtain ⟨a1_0, l1_1⟩ := x1
  obtain ⟨L1, hL1⟩ : ∃ L, (Value.agg cs1).cells.toList = L := ⟨_, rfl⟩
  rw [hL1] at hK1
  obtain ⟨_, _, rfl, rfl, ⟨A1_1, c1_1, rfl, hc1_1, hr1_1⟩⟩ := hK1
  obtain rfl : cs1 = #[.bool a1_0, .slice A1_1 l1_1.length c1_1] := by have h := hL1; simp [Value.cells] at h; cases cs1; simp_all
  obtain ⟨o1_0, o1_1⟩ := hok1
  have k2 := h2
  have lt2 : ∀ x ∈ p2, x.block < W.heap.size := by obtain ⟨m, hm⟩ := k2; exact DataW.trod_lt m _ _ _ hm
  have wt2 := weights_at hsz (j := 2) (t := 9) (d := d2) rfl rfl
  have ok2 := (Opens.string (P := Try.prog) Try.underlying9 (by kernel_rfl)).op h2.choose_spec wt2
  obtain ⟨a2, rfl, _, _, _⟩ := open_string Try.underlying9 (hval 2 9 v2 rfl rfl) h2
  obtain ⟨z2, hz2, o2⟩ := ok2
  obtain rfl : a2 = z2 := by have h := hz2; simp [Kd.string, Kd.scalar, Value.cells] at h; exact h
  clear hA0 hval0 hsz0 hsz
  obtain ⟨k, h⟩ := Pure.NodeBack a0_0 l0_1 a1_0 l1_1 a2 o0_1 o1_1 o2
  refine (assartlaw04_NodeBack.calls k a0_0 _ _ l0_1 a1_0 _ _ l1_1 a2 true W hr0_1 hc0_1 hr1_1 hc1_1 h).mono fun e W' ⟨he, bel0⟩ => ?_
  have bel := bel0
  subst he
  exact ⟨_, rfl, _, _, _, [], _, [], hW', trodAll_mk1 (shut_bool Try.underlying4 _), (trodAll_cons_mk (Below.trod laidOut (by kernel_rfl) (of_decide_eq_true (by kernel_rfl)) k0 bel lt0) (trodAll_cons_mk (Below.trod laidOut (by kernel_rfl) (of_decide_eq_true (by kernel_rfl)) k1 bel lt1) (trodAll_cons_mk (Below.trod laidOut (by kernel_rfl) (of_decide_eq_true (by kernel_rfl)) k2 bel lt2) trodAll_mk0))), rfl, bel.frame _, fun h => by cases h⟩
theorem over : Rows.nodeBackRow.holds Try.pinned (OpenSpec.ofChange Rows.nodeBackSpec) :=
  OpenClaim.holds_of_wide 10 Try.f10 rfl rfl rfl rfl rfl rfl rfl ⟨rfl, rfl, rfl, rfl, rfl⟩ rfl rfl rfl rfl rfl (by kernel_rfl) Try.func10 (by kernel_rfl)
    (of_decide_eq_true (by kernel_rfl)) (by unfold Func.isWrapper; first | (rw [if_pos (by decide +kernel)]; kernel_rfl) | (rw [if_neg (by decide +kernel)]; exact ⟨rfl, rfl⟩))
    (fun os started H enc _ => lifted os started H enc)
theorem proved : Rows.NodeBackSaid := over
#print axioms proved
end Go.Proofs.Ythjnkapkhphpeaa.nodeBack
namespace Go.Proofs.Ythjnkapkhphpeaa
/-- The row, under a short name, for the claim. -/
theorem nodeBack_holds : Rows.NodeBackSaid := nodeBack.proved
end Go.Proofs.Ythjnkapkhphpeaa
end
