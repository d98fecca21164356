/- Texts of this claim's proof put together: P0, HFl, F28, F11, F14, HTodo1, HTodo2, HTodo3, HTodoOn, HRow, QTodoOn, PureTodoOn, LawTodoOn. -/
import Derived.Test.YtiklkokjoemokaaProg
import Derived.Below
import Derived.Deep.Draws
import Derived.Deep.AppendLies
import Derived.Maps.AppendAt
import Derived.OwnWalk
import Derived.Laws.BytesArg
import Derived.Laws.MakeOwn
import Derived.Laws.OwnMore
import Derived.Deep.OwnRows
import Derived.Tactics
import Derived.Lib.ConvBytes
import Derived.Laws.Slices
import Derived.WalkKit
import Derived.KernelRfl
import Derived.RowKit3
import Derived.Deep.LoopGhost
import Derived.Deep.QuietTactic
import Derived.BigQuiet
import Derived.WideLaws
import Derived.Deep.DeepCutAuto
import Derived.Deep.CutBlock
import Derived.Deep.RegionHeld3
import Derived.Laws.Rows
import Derived.Lib.AppendStr
import Derived.ArgAppend
import Derived.Laws.IdiomCopy
import Derived.OrdersHeld
import Derived.Laws.BitsLemmas
import Derived.RowKit
import Derived.Test.YtiklkokjoemokaaWWords
import Derived.Test.YtiklkokjoemokaaWLast
import Derived.Test.YtiklkokjoemokaaWTab
import Derived.Test.YtiklkokjoemokaaWFour
import Derived.Test.YtiklkokjoemokaaWQPut
import Derived.Test.YtiklkokjoemokaaWApart
import Derived.Test.YtiklkokjoemokaaWArr
import Derived.Test.YtiklkokjoemokaaWZeros
import Derived.Test.YtiklkokjoemokaaWFoot
import Derived.Test.YtiklkokjoemokaaWKept
import Derived.Test.YtiklkokjoemokaaWShare
import Derived.Test.YtiklkokjoemokaaWN
import Derived.Test.YtiklkokjoemokaaWFootNe
import Derived.Test.YtiklkokjoemokaaWAt
import Derived.Test.YtiklkokjoemokaaWEqStruct
import Derived.Test.YtiklkokjoemokaaWRepsOne
import Derived.Test.YtiklkokjoemokaaWInv
import Derived.Test.YtiklkokjoemokaaWInvWords
import Derived.Test.YtiklkokjoemokaaWGuard
import Derived.Test.YtiklkokjoemokaaWNEv
import Derived.Test.YtiklkokjoemokaaWMore
import Derived.WalkLawsBesides
import Derived.Shelf.RegionOpenPlain
import Derived.ChangeArms
import Derived.DataReads
import Derived.DataElems
import Derived.SizedLaws
import Derived.Test.YtiklkokjoemokaaRows
import Derived.ProofKit
import Derived.OpenShut
import Derived.ShutString
import Derived.ChangeOld
section
namespace Go.Proofs.Ytiklkokjoemokaa.P
open Go.RowKit Go.Proofs.YtiklkokjoemokaaW.PrintWords Go.Proofs.YtiklkokjoemokaaW.PrintLast Go.Proofs.YtiklkokjoemokaaW.PrintMore
attribute [local go_sem] max2_int min2_int max_two min_two max_three min_three max_four min_four
set_option linter.unusedVariables false
set_option linter.unusedSimpArgs false



def errW : Option Int → Value
  | none => .nilIface
  | some c => .iface 0 (.int .i64 c)
theorem errW_none : errW none = .nilIface := rfl
theorem errW_some (c : Int) : errW (some c) = .iface 0 (.int .i64 c) := rfl

theorem info5 : (Try.prog.info? 5).map (fun i => (i.zero, i.size, i.bytes)) = some (some (.int .u8 0), 1, 1) := by kernel_rfl
-- the values' own types

end Go.Proofs.Ytiklkokjoemokaa.P
end
section
/- Whole numbers as floats: what they are again, one more, nothing more. -/
namespace Go.Proofs.Ytiklkokjoemokaa.P
open Go.RowKit Go.Proofs.YtiklkokjoemokaaW.PrintWords Go.Proofs.YtiklkokjoemokaaW.PrintLast Go.Proofs.YtiklkokjoemokaaW.PrintMore
set_option linter.unusedVariables false
set_option linter.unusedSimpArgs false
def fl (n : Nat) : Nat := floatOfInt .f64 (n : Int)
set_option maxHeartbeats 8000000 in
set_option maxRecDepth 100000 in
theorem fl_back : ∀ p, p < 2000 → floatToIntVal .f64 (fl p) .i64 = some (p : Int) := by decide +kernel
set_option maxHeartbeats 8000000 in
set_option maxRecDepth 100000 in
theorem add0_c0 : ∀ p, p < 100 → floatBits .add .f64 (fl (100 * 0 + p)) 0 = some (fl (100 * 0 + p)) := by decide +kernel
set_option maxHeartbeats 8000000 in
set_option maxRecDepth 100000 in
theorem add0_c1 : ∀ p, p < 100 → floatBits .add .f64 (fl (100 * 1 + p)) 0 = some (fl (100 * 1 + p)) := by decide +kernel
set_option maxHeartbeats 8000000 in
set_option maxRecDepth 100000 in
theorem add0_c2 : ∀ p, p < 100 → floatBits .add .f64 (fl (100 * 2 + p)) 0 = some (fl (100 * 2 + p)) := by decide +kernel
set_option maxHeartbeats 8000000 in
set_option maxRecDepth 100000 in
theorem add0_c3 : ∀ p, p < 100 → floatBits .add .f64 (fl (100 * 3 + p)) 0 = some (fl (100 * 3 + p)) := by decide +kernel
set_option maxHeartbeats 8000000 in
set_option maxRecDepth 100000 in
theorem add0_c4 : ∀ p, p < 100 → floatBits .add .f64 (fl (100 * 4 + p)) 0 = some (fl (100 * 4 + p)) := by decide +kernel
set_option maxHeartbeats 8000000 in
set_option maxRecDepth 100000 in
theorem add0_c5 : ∀ p, p < 100 → floatBits .add .f64 (fl (100 * 5 + p)) 0 = some (fl (100 * 5 + p)) := by decide +kernel
set_option maxHeartbeats 8000000 in
set_option maxRecDepth 100000 in
theorem add0_c6 : ∀ p, p < 100 → floatBits .add .f64 (fl (100 * 6 + p)) 0 = some (fl (100 * 6 + p)) := by decide +kernel
set_option maxHeartbeats 8000000 in
set_option maxRecDepth 100000 in
theorem add0_c7 : ∀ p, p < 100 → floatBits .add .f64 (fl (100 * 7 + p)) 0 = some (fl (100 * 7 + p)) := by decide +kernel
set_option maxHeartbeats 8000000 in
set_option maxRecDepth 100000 in
theorem add0_c8 : ∀ p, p < 100 → floatBits .add .f64 (fl (100 * 8 + p)) 0 = some (fl (100 * 8 + p)) := by decide +kernel
set_option maxHeartbeats 8000000 in
set_option maxRecDepth 100000 in
theorem add0_c9 : ∀ p, p < 100 → floatBits .add .f64 (fl (100 * 9 + p)) 0 = some (fl (100 * 9 + p)) := by decide +kernel
set_option maxHeartbeats 8000000 in
set_option maxRecDepth 100000 in
theorem add0_c10 : ∀ p, p < 100 → floatBits .add .f64 (fl (100 * 10 + p)) 0 = some (fl (100 * 10 + p)) := by decide +kernel
set_option maxHeartbeats 8000000 in
set_option maxRecDepth 100000 in
theorem add0_c11 : ∀ p, p < 100 → floatBits .add .f64 (fl (100 * 11 + p)) 0 = some (fl (100 * 11 + p)) := by decide +kernel
set_option maxHeartbeats 8000000 in
set_option maxRecDepth 100000 in
theorem add0_c12 : ∀ p, p < 100 → floatBits .add .f64 (fl (100 * 12 + p)) 0 = some (fl (100 * 12 + p)) := by decide +kernel
set_option maxHeartbeats 8000000 in
set_option maxRecDepth 100000 in
theorem add0_c13 : ∀ p, p < 100 → floatBits .add .f64 (fl (100 * 13 + p)) 0 = some (fl (100 * 13 + p)) := by decide +kernel
set_option maxHeartbeats 8000000 in
set_option maxRecDepth 100000 in
theorem add0_c14 : ∀ p, p < 100 → floatBits .add .f64 (fl (100 * 14 + p)) 0 = some (fl (100 * 14 + p)) := by decide +kernel
set_option maxHeartbeats 8000000 in
set_option maxRecDepth 100000 in
theorem add0_c15 : ∀ p, p < 100 → floatBits .add .f64 (fl (100 * 15 + p)) 0 = some (fl (100 * 15 + p)) := by decide +kernel
set_option maxHeartbeats 8000000 in
set_option maxRecDepth 100000 in
theorem add0_c16 : ∀ p, p < 100 → floatBits .add .f64 (fl (100 * 16 + p)) 0 = some (fl (100 * 16 + p)) := by decide +kernel
set_option maxHeartbeats 8000000 in
set_option maxRecDepth 100000 in
theorem add0_c17 : ∀ p, p < 100 → floatBits .add .f64 (fl (100 * 17 + p)) 0 = some (fl (100 * 17 + p)) := by decide +kernel
set_option maxHeartbeats 8000000 in
set_option maxRecDepth 100000 in
theorem add0_c18 : ∀ p, p < 100 → floatBits .add .f64 (fl (100 * 18 + p)) 0 = some (fl (100 * 18 + p)) := by decide +kernel
set_option maxHeartbeats 8000000 in
set_option maxRecDepth 100000 in
theorem add0_c19 : ∀ p, p < 100 → floatBits .add .f64 (fl (100 * 19 + p)) 0 = some (fl (100 * 19 + p)) := by decide +kernel
theorem fl_add0 : ∀ p, p < 2000 → floatBits .add .f64 (fl p) 0 = some (fl p) := by
  intro p hp
  have e : p = 100 * (p / 100) + p % 100 := (Nat.div_add_mod p 100).symm
  have hr : p % 100 < 100 := Nat.mod_lt _ (by decide)
  have hc : p / 100 < 20 := by omega
  rw [e]
  generalize p / 100 = c at hc ⊢
  generalize p % 100 = r at hr ⊢
  match c, hc with
  | 0, _ => exact add0_c0 r hr
  | 1, _ => exact add0_c1 r hr
  | 2, _ => exact add0_c2 r hr
  | 3, _ => exact add0_c3 r hr
  | 4, _ => exact add0_c4 r hr
  | 5, _ => exact add0_c5 r hr
  | 6, _ => exact add0_c6 r hr
  | 7, _ => exact add0_c7 r hr
  | 8, _ => exact add0_c8 r hr
  | 9, _ => exact add0_c9 r hr
  | 10, _ => exact add0_c10 r hr
  | 11, _ => exact add0_c11 r hr
  | 12, _ => exact add0_c12 r hr
  | 13, _ => exact add0_c13 r hr
  | 14, _ => exact add0_c14 r hr
  | 15, _ => exact add0_c15 r hr
  | 16, _ => exact add0_c16 r hr
  | 17, _ => exact add0_c17 r hr
  | 18, _ => exact add0_c18 r hr
  | 19, _ => exact add0_c19 r hr
  | c + 20, hc => omega
set_option maxHeartbeats 8000000 in
set_option maxRecDepth 100000 in
theorem fl_add1 : ∀ p, p < 600 → floatBits .add .f64 (fl p) 4607182418800017408 = some (fl (p + 1)) := by decide +kernel
set_option maxHeartbeats 8000000 in
set_option maxRecDepth 100000 in
theorem fl_self : ∀ p, p < 2000 → FloatKind.f64.format.order (fl p) (fl p) = some .eq := by decide +kernel
end Go.Proofs.Ytiklkokjoemokaa.P
end
section
namespace Go.Proofs.Ytiklkokjoemokaa.P
open Go.RowKit Go.Proofs.YtiklkokjoemokaaW.PrintWords Go.Proofs.YtiklkokjoemokaaW.PrintLast Go.Proofs.YtiklkokjoemokaaW.PrintMore
attribute [local go_sem] max2_int min2_int max_two min_two max_three min_three max_four min_four
set_option linter.unusedVariables false
set_option linter.unusedSimpArgs false

/-! ### num_isWide: function 28 -/
def num_isWide.f (a0 : Int) : Option (Bool) := if a0 ≥ 1 then (some (decide (a0 ≤ 4))) else (some false)
set_option maxHeartbeats 8000000 in
set_option maxRecDepth 100000 in
theorem num_isWide.calls (a0 : Int) (r : Bool) (w : World) (h : num_isWide.f a0 = some r) :
    Calls Try.prog 28 #[.int .i64 a0] w fun e w' => e = .returned (.bool r) ∧ Drawn0 w w' := by
  have H : (if a0 ≥ 1 then (some (decide (a0 ≤ 4))) else (some false)) = some r := h
  clear h
  by_cases c2 : a0 ≥ 1
  · rw [if_pos c2] at H
    have c2b0 : decide (1 ≤ a0) = true := decide_eq_true c2
    clear c2
    obtain rfl := Option.some.inj H
    go_enter Try.func28, Try.ntmps28
    go_wp2
    go_ret
    exact ⟨by first | rfl | (simp; done) | (simp [*]; done), by repeat (first | exact Drawn0.refl _ | apply Drawn0.step)⟩
  · rw [if_neg c2] at H
    have c2b0 : decide (1 ≤ a0) = false := decide_eq_false c2
    clear c2
    obtain rfl := Option.some.inj H
    go_enter Try.func28, Try.ntmps28
    go_wp2
    go_ret
    exact ⟨by first | rfl | (simp; done) | (simp [*]; done), by repeat (first | exact Drawn0.refl _ | apply Drawn0.step)⟩

end Go.Proofs.Ytiklkokjoemokaa.P
end
section
namespace Go.Proofs.Ytiklkokjoemokaa.P
open Go.RowKit Go.Proofs.YtiklkokjoemokaaW.PrintWords Go.Proofs.YtiklkokjoemokaaW.PrintLast Go.Proofs.YtiklkokjoemokaaW.PrintMore
attribute [local go_sem] max2_int min2_int max_two min_two max_three min_three max_four min_four
set_option linter.unusedVariables false
set_option linter.unusedSimpArgs false

/-! ### num_Take: function 11 -/
mutual
def num_Take.j0 : Nat → List Int → Int → Int → Bool → Option (Int × Int × Int)
  | 0, _, _, _, _ => none
  | k + 1, x0, x1, x2, x31 => if x31 = true then (some (0, 0, 2)) else (num_Take.l0 k x0 x1 x2 0 x2 0)
def num_Take.l0 : Nat → List Int → Int → Int → Int → Int → Int → Option (Int × Int × Int)
  | 0, _, _, _, _, _, _ => none
  | k + 1, x0, x1, x2, x9, x32, x33 => if x33 < x32 then (if 0 ≤ (wrap64 (x1 + x33)) then (if (wrap64 (x1 + x33)) < (x0.length : Int) then (if 0 ≤ (wrap64 (8 * x33)) then (num_Take.l0 k x0 x1 x2 (Go.bits .or .i64 x9 (shl .i64 (wrap64 (rd x0 (wrap64 (x1 + x33)))) (wrap64 (8 * x33)))) x32 (wrap64 (x33 + 1))) else (none)) else (none)) else (none)) else (some (x9, wrap64 (x1 + x2), 0))
end
def num_Take.f (k : Nat) (l0 : List Int) (a1 : Int) (a2 : Int) : Option (Int × Int × Int) := (num_isWide.f a2).bind fun t106 => (if t106 = true then (if a1 < 0 then (num_Take.j0 k l0 a1 a2 true) else (if a1 > (l0.length : Int) then (num_Take.j0 k l0 a1 a2 true) else (num_Take.j0 k l0 a1 a2 (decide (a2 > (wrap64 ((l0.length : Int) - a1))))))) else (num_Take.j0 k l0 a1 a2 true))
theorem num_Take.mono_l : ∀ k, (∀ y0 y1 y2 y3, LeO (num_Take.j0 k y0 y1 y2 y3) (num_Take.j0 (k + 1) y0 y1 y2 y3)) ∧ (∀ y0 y1 y2 y3 y4 y5, LeO (num_Take.l0 k y0 y1 y2 y3 y4 y5) (num_Take.l0 (k + 1) y0 y1 y2 y3 y4 y5))
  | 0 => ⟨fun _ _ _ _ r h => by simp [num_Take.j0] at h, fun _ _ _ _ _ _ r h => by simp [num_Take.l0] at h⟩
  | k + 1 => by
    obtain ⟨ih0, ih1⟩ := num_Take.mono_l k
    refine ⟨?_, ?_⟩
    · intro y0 y1 y2 y3
      unfold num_Take.j0
      repeat' first
      | (with_reducible exact ih0 _ _ _ _)
      | (with_reducible exact ih1 _ _ _ _ _ _)
      | (with_reducible exact LeO.refl _)
      | (with_reducible exact LeO.none _)
      | (with_reducible refine LeO.ite ?_ ?_)
      | (with_reducible refine LeO.bind ?_ (fun _ => ?_))
      | exact ih0 _ _ _ _
      | exact ih1 _ _ _ _ _ _
      | exact LeO.none _
      | refine LeO.ite ?_ ?_
      | refine LeO.bind ?_ (fun _ => ?_)
    · intro y0 y1 y2 y3 y4 y5
      unfold num_Take.l0
      repeat' first
      | (with_reducible exact ih0 _ _ _ _)
      | (with_reducible exact ih1 _ _ _ _ _ _)
      | (with_reducible exact LeO.refl _)
      | (with_reducible exact LeO.none _)
      | (with_reducible refine LeO.ite ?_ ?_)
      | (with_reducible refine LeO.bind ?_ (fun _ => ?_))
      | exact ih0 _ _ _ _
      | exact ih1 _ _ _ _ _ _
      | exact LeO.none _
      | refine LeO.ite ?_ ?_
      | refine LeO.bind ?_ (fun _ => ?_)
theorem num_Take.mono : ∀ a0 a1 a2 k, LeO (num_Take.f k a0 a1 a2) (num_Take.f (k + 1) a0 a1 a2) := by
  intro a0 a1 a2 k
  obtain ⟨ih0, ih1⟩ := num_Take.mono_l k
  unfold num_Take.f
  repeat' first
      | (with_reducible exact ih0 _ _ _ _)
      | (with_reducible exact ih1 _ _ _ _ _ _)
      | (with_reducible exact LeO.refl _)
      | (with_reducible exact LeO.none _)
      | (with_reducible refine LeO.ite ?_ ?_)
      | (with_reducible refine LeO.bind ?_ (fun _ => ?_))
      | exact ih0 _ _ _ _
      | exact ih1 _ _ _ _ _ _
      | exact LeO.none _
      | refine LeO.ite ?_ ?_
      | refine LeO.bind ?_ (fun _ => ?_)
set_option maxHeartbeats 8000000 in
set_option maxRecDepth 100000 in
theorem num_Take.calls (k : Nat) (A0 : Option Addr) (c0 : Nat) (l0 : List Int) (a1 : Int) (a2 : Int) (r1 : Int) (r2 : Int) (r3 : Int) (w : World) (hr0 : Kd.C (Kd.int .u8) w A0 l0.length l0) (hc0 : l0.length ≤ c0) (h : num_Take.f k l0 a1 a2 = some (r1, r2, r3)) :
    Calls Try.prog 11 #[.slice A0 l0.length c0, .int .i64 a1, .int .i64 a2] w fun e w' => e = .returned (.tuple #[.int .i64 r1, .int .i64 r2, .int .i64 r3]) ∧ Drawn0 w w' := by
  have HR0 := Aside0.mk hr0
  have HC0 := Aside0.mk hc0
  clear hr0 hc0
  have H : ((num_isWide.f a2).bind fun t106 => (if t106 = true then (if a1 < 0 then (num_Take.j0 k l0 a1 a2 true) else (if a1 > (l0.length : Int) then (num_Take.j0 k l0 a1 a2 true) else (num_Take.j0 k l0 a1 a2 (decide (a2 > (wrap64 ((l0.length : Int) - a1))))))) else (num_Take.j0 k l0 a1 a2 true))) = some (r1, r2, r3) := h
  clear h
  have HC4 := Aside0.mk H
  clear H
  go_enter Try.func11, Try.ntmps11
  go_upto_region 1 with (fail)
  go_cut [31] (fun v31 wc => ∃ (kq : Nat) (x31_3 : Bool), v31 = .bool x31_3 ∧ Aside0 (num_Take.j0 kq l0 a1 a2 x31_3 = some (r1, r2, r3)) ∧ Aside0 (kq ≤ k) ∧ Drawn0 w wc)
  case first =>
    have H := HC4.out
    clear HC4
    replace H := Option.bind_eq_some_iff.mp H
    obtain ⟨t106, A50, H⟩ := H
    replace H : (if t106 = true then (if a1 < 0 then (num_Take.j0 k l0 a1 a2 true) else (if a1 > (l0.length : Int) then (num_Take.j0 k l0 a1 a2 true) else (num_Take.j0 k l0 a1 a2 (decide (a2 > (wrap64 ((l0.length : Int) - a1))))))) else (num_Take.j0 k l0 a1 a2 true)) = some (r1, r2, r3) := H
    have A5 := Aside0.mk A50
    clear A50
    by_cases c6 : t106 = true
    · subst c6
      have H1 : (if a1 < 0 then (num_Take.j0 k l0 a1 a2 true) else (if a1 > (l0.length : Int) then (num_Take.j0 k l0 a1 a2 true) else (num_Take.j0 k l0 a1 a2 (decide (a2 > (wrap64 ((l0.length : Int) - a1))))))) = some (r1, r2, r3) := by rw [if_pos rfl] at H; exact H
      clear H
      have H := H1
      clear H1
      by_cases c7 : a1 < 0
      · rw [if_pos c7] at H
        have c7b0 : decide (a1 < 0) = true := decide_eq_true c7
        clear c7
        (first | rw [c7b0] | (simp only [i64_w, i32_w]; rw [c7b0]) | skip)
        have H' := Aside0.mk H
        clear H
        go_wp2_with (first | ((with_reducible refine gate_callee (f := 28) rfl ?_); refine goesL_ (some 12) rfl rfl Try.func28 (by kernel_rfl) rfl #[.int .i64 a2] rfl (by (try simp only [List.map_toArray, List.map_cons, List.map_nil]); first | done | rfl | (simp only [List.length_drop, List.length_take]; rfl)) ?_; (with_reducible refine (num_isWide.calls a2 true _ A5.out).mono ?_); rintro e w' ⟨rfl, ⟨nd, rfl⟩⟩; refine ⟨_, rfl, ?_⟩))
        go_meet
        case rel => exact ⟨_, (true), (by first | rfl | (simp; done) | (simp [*]; done)), H', ⟨by first | omega | exact Nat.le_refl _⟩, by repeat (first | exact Drawn0.refl _ | apply Drawn0.step)⟩
      · rw [if_neg c7] at H
        have c7b0 : decide (a1 < 0) = false := decide_eq_false c7
        clear c7
        (first | rw [c7b0] | (simp only [i64_w, i32_w]; rw [c7b0]) | skip)
        by_cases c8 : a1 > (l0.length : Int)
        · rw [if_pos c8] at H
          have c8b0 : decide ((l0.length : Int) < a1) = true := decide_eq_true c8
          clear c8
          have H' := Aside0.mk H
          clear H
          go_wp2_with (first | ((with_reducible refine gate_callee (f := 28) rfl ?_); refine goesL_ (some 12) rfl rfl Try.func28 (by kernel_rfl) rfl #[.int .i64 a2] rfl (by (try simp only [List.map_toArray, List.map_cons, List.map_nil]); first | done | rfl | (simp only [List.length_drop, List.length_take]; rfl)) ?_; (with_reducible refine (num_isWide.calls a2 true _ A5.out).mono ?_); rintro e w' ⟨rfl, ⟨nd, rfl⟩⟩; refine ⟨_, rfl, ?_⟩))
          go_meet
          case rel => exact ⟨_, (true), (by first | rfl | (simp; done) | (simp [*]; done)), H', ⟨by first | omega | exact Nat.le_refl _⟩, by repeat (first | exact Drawn0.refl _ | apply Drawn0.step)⟩
        · rw [if_neg c8] at H
          have c8b0 : decide ((l0.length : Int) < a1) = false := decide_eq_false c8
          clear c8
          have H' := Aside0.mk H
          clear H
          go_wp2_with (first | ((with_reducible refine gate_callee (f := 28) rfl ?_); refine goesL_ (some 12) rfl rfl Try.func28 (by kernel_rfl) rfl #[.int .i64 a2] rfl (by (try simp only [List.map_toArray, List.map_cons, List.map_nil]); first | done | rfl | (simp only [List.length_drop, List.length_take]; rfl)) ?_; (with_reducible refine (num_isWide.calls a2 true _ A5.out).mono ?_); rintro e w' ⟨rfl, ⟨nd, rfl⟩⟩; refine ⟨_, rfl, ?_⟩))
          go_meet
          case rel => exact ⟨_, (decide (a2 > (wrap64 ((l0.length : Int) - a1)))), (by first | rfl | (simp; done) | (simp [*]; done)), H', ⟨by first | omega | exact Nat.le_refl _⟩, by repeat (first | exact Drawn0.refl _ | apply Drawn0.step)⟩
    · replace c6 := Bool.eq_false_iff.mpr c6
      subst c6
      have H1 : (num_Take.j0 k l0 a1 a2 true) = some (r1, r2, r3) := by rw [if_neg (show ¬ (false = true) by decide)] at H; exact H
      clear H
      have H := H1
      clear H1
      have H' := Aside0.mk H
      clear H
      go_wp2_with (first | ((with_reducible refine gate_callee (f := 28) rfl ?_); refine goesL_ (some 12) rfl rfl Try.func28 (by kernel_rfl) rfl #[.int .i64 a2] rfl (by (try simp only [List.map_toArray, List.map_cons, List.map_nil]); first | done | rfl | (simp only [List.length_drop, List.length_take]; rfl)) ?_; (with_reducible refine (num_isWide.calls a2 false _ A5.out).mono ?_); rintro e w' ⟨rfl, ⟨nd, rfl⟩⟩; refine ⟨_, rfl, ?_⟩))
      go_meet
      case rel => exact ⟨_, (true), (by first | rfl | (simp; done) | (simp [*]; done)), H', ⟨by first | omega | exact Nat.le_refl _⟩, by repeat (first | exact Drawn0.refl _ | apply Drawn0.step)⟩
  case rest =>
    clear HC4
    try clear c1
    try clear c2
    try clear p2
    try clear c6
    try clear p6
    try clear c7
    try clear c7b0
    try clear c8
    try clear c8b0
    obtain ⟨kq, x31_3, rfl, HA, HJ3, ⟨mc3, rfl⟩⟩ := hcut
    cases kq with
    | zero => exact absurd HA.out (by simp [num_Take.j0])
    | succ kj3 =>
      have H := HA.out
      clear HA
      simp only [num_Take.j0] at H
      by_cases c9 : x31_3 = true
      · subst c9
        have H1 : (some (0, 0, 2)) = some (r1, r2, r3) := by rw [if_pos rfl] at H; exact H
        clear H
        have H := H1
        clear H1
        simp only [Option.some.injEq, Prod.mk.injEq] at H
        obtain ⟨rfl, rfl, rfl⟩ := H
        go_wp2
        go_ret3
        exact ⟨by first | rfl | (simp; done) | (simp [*]; done), by repeat (first | exact Drawn0.refl _ | apply Drawn0.step)⟩
      · replace c9 := Bool.eq_false_iff.mpr c9
        subst c9
        have H1 : (num_Take.l0 kj3 l0 a1 a2 0 a2 0) = some (r1, r2, r3) := by rw [if_neg (show ¬ (false = true) by decide)] at H; exact H
        clear H
        have H := H1
        clear H1
        have H' := Aside0.mk H
        clear H
        go_wp2
        go_loopg [9, 33] kj3 (fun kq v9 v33 w' => ∃ (x9_2 : Int) (x33_2 : Int), v9 = .int .i64 x9_2 ∧ v33 = .int .i64 x33_2 ∧ Aside0 (num_Take.l0 kq l0 a1 a2 x9_2 a2 x33_2 = some (r1, r2, r3)) ∧ Aside0 (kq ≤ kj3) ∧ Drawn0 w w')
        case atStart => exact ⟨(0), (0), (by first | rfl | (simp; done) | (simp [*]; done)), (by first | rfl | (simp; done) | (simp [*]; done)), H', ⟨Nat.le_refl _⟩, by repeat (first | exact Drawn0.refl _ | apply Drawn0.step)⟩
        case round =>
          clear H'
          try clear c1
          try clear c2
          try clear p2
          try clear c3
          try clear c6
          try clear p6
          try clear c7
          try clear c7b0
          try clear c8
          try clear c8b0
          try clear c9
          try clear p2
          try clear p6
          obtain ⟨x9_2, x33_2, rfl, rfl, HA, HK2, ⟨m2, rfl⟩⟩ := hrel
          cases gk with
          | zero => exact absurd HA.out (by simp [num_Take.l0])
          | succ k2 =>
            have H := HA.out
            clear HA
            simp only [num_Take.l0] at H
            by_cases c10 : x33_2 < a2
            · rw [if_pos c10] at H
              have c10b0 : decide (x33_2 < a2) = true := decide_eq_true c10
              clear c10
              obtain ⟨ji11, hji11⟩ : ∃ j_ : Int, (wrap64 (a1 + x33_2)) = j_ := ⟨_, rfl⟩
              replace H : (if 0 ≤ (ji11) then (if (ji11) < (l0.length : Int) then (if 0 ≤ (wrap64 (8 * x33_2)) then (num_Take.l0 k2 l0 a1 a2 (Go.bits .or .i64 x9_2 (shl .i64 (wrap64 (rd l0 (ji11))) (wrap64 (8 * x33_2)))) a2 (wrap64 (x33_2 + 1))) else (none)) else (none)) else (none)) = some (r1, r2, r3) := by first | (rw [hji11] at H; exact H) | (simp only [hji11] at H ⊢; exact H)
              have hji11w : (IntKind.i64.wrap (a1 + x33_2)) = ji11 := (i64_w _).trans hji11
              by_cases c12 : 0 ≤ (ji11)
              · rw [if_pos c12] at H
                have c12b0 : decide (0 ≤ (ji11)) = true := decide_eq_true c12
                clear c12
                by_cases c13 : (ji11) < (l0.length : Int)
                · rw [if_pos c13] at H
                  have c13b0 : decide ((ji11) < (l0.length : Int)) = true := decide_eq_true c13
                  clear c13
                  obtain ⟨ji14, hji14⟩ : ∃ j_ : Int, (wrap64 (8 * x33_2)) = j_ := ⟨_, rfl⟩
                  replace H : (if 0 ≤ (ji14) then (num_Take.l0 k2 l0 a1 a2 (Go.bits .or .i64 x9_2 (shl .i64 (wrap64 (rd l0 (ji11))) (ji14))) a2 (wrap64 (x33_2 + 1))) else (none)) = some (r1, r2, r3) := by first | (rw [hji14] at H; exact H) | (simp only [hji14] at H ⊢; exact H)
                  have hji14w : (IntKind.i64.wrap (8 * x33_2)) = ji14 := (i64_w _).trans hji14
                  by_cases c15 : 0 ≤ (ji14)
                  · rw [if_pos c15] at H
                    have c15b0 := eq_true c15
                    have c15b1 : decide (0 ≤ (ji14)) = true := decide_eq_true c15
                    clear c15
                    obtain ⟨ji16, hji16⟩ : ∃ j_ : Int, (shl .i64 (wrap64 (rd l0 (ji11))) (ji14)) = j_ := ⟨_, rfl⟩
                    replace H : (num_Take.l0 k2 l0 a1 a2 (Go.bits .or .i64 x9_2 (ji16)) a2 (wrap64 (x33_2 + 1))) = some (r1, r2, r3) := by first | (rw [hji16] at H; exact H) | (simp only [hji16] at H ⊢; exact H)
                    have hji16_ : (IntKind.i64.wrap ((wrap64 (rd l0 (ji11))) * 2 ^ min (ji14).toNat 64)) = ji16 := hji16
                    have hji16z : (ji14) ≤ 64 → (IntKind.i64.wrap ((wrap64 (rd l0 (ji11))) * 2 ^ (ji14).toNat)) = ji16 := shl_small hji16
                    have hji16y : (wrap64 ((wrap64 (rd l0 (ji11))) * 2 ^ min (ji14).toNat 64)) = ji16 := (i64_w _).symm.trans hji16_
                    have hji16x : (ji14) ≤ 64 → (wrap64 ((wrap64 (rd l0 (ji11))) * 2 ^ (ji14).toNat)) = ji16 := fun h_ => (i64_w _).symm.trans (hji16z h_)
                    have H' := Aside0.mk H
                    clear H
                    have p107 : 0 ≤ ((ji11) : Int) := of_decide_eq_true (by first | (with_reducible assumption) | assumption)
                    have q107 : (ji11) < (l0.length : Int) := of_decide_eq_true (by first | (with_reducible assumption) | assumption)
                    obtain ⟨ad107, e107, hx107_0⟩ := Kd.at_int HR0.out (ji11) p107 q107
                    cases e107
                    replace p107 := eq_true p107
                    replace q107 := eq_true q107
                    go_wp2
                    go_roundg k2
                    case measure => have := HJ3.out; have := HK2.out; omega
                    case rel => exact ⟨(Go.bits .or .i64 x9_2 (ji16)), (wrap64 (x33_2 + 1)), (by first | rfl | (simp; done) | (simp only [← hji16] <;> (first | rfl | simp)) | (simp [*]; done)), (by first | rfl | (simp; done) | (simp [*]; done)), H', ⟨by have := HJ3.out; have := HK2.out; omega⟩, by repeat (first | exact Drawn0.refl _ | apply Drawn0.step)⟩
                  · rw [if_neg c15] at H
                    exact absurd H (by simp)
                · rw [if_neg c13] at H
                  exact absurd H (by simp)
              · rw [if_neg c12] at H
                exact absurd H (by simp)
            · rw [if_neg c10] at H
              have c10b0 : decide (x33_2 < a2) = false := decide_eq_false c10
              clear c10
              simp only [Option.some.injEq, Prod.mk.injEq] at H
              obtain ⟨rfl, rfl, rfl⟩ := H
              go_wp2
              go_ret3
              exact ⟨by first | rfl | (simp; done) | (simp [*]; done), by repeat (first | exact Drawn0.refl _ | apply Drawn0.step)⟩

end Go.Proofs.Ytiklkokjoemokaa.P
end
section
namespace Go.Proofs.Ytiklkokjoemokaa.P
open Go.RowKit Go.Proofs.YtiklkokjoemokaaW.PrintWords Go.Proofs.YtiklkokjoemokaaW.PrintLast Go.Proofs.YtiklkokjoemokaaW.PrintMore
attribute [local go_sem] max2_int min2_int max_two min_two max_three min_three max_four min_four
set_option linter.unusedVariables false
set_option linter.unusedSimpArgs false

/-! ### num_Put: function 14 -/
mutual
def num_Put.j0 : Nat → Int → Int → Bool → Option (List Int)
  | 0, _, _, _ => none
  | k + 1, x0, x1, x20 => if x20 = true then (some ([] : List Int)) else (if 0 ≤ x1 then (if (x1 : Int).toNat ≤ 281474976710656 then (num_Put.l0 k x0 (List.replicate (x1 : Int).toNat 0) x1 0) else (none)) else (none))
def num_Put.l0 : Nat → Int → List Int → Int → Int → Option (List Int)
  | 0, _, _, _, _ => none
  | k + 1, x0, x5, x23, x24 => if x24 < x23 then (if 0 ≤ (wrap64 (8 * x24)) then (if 0 ≤ x24 then (if x24 < (x5.length : Int) then (num_Put.l0 k x0 (x5.set (x24 : Int).toNat ((shr .i64 x0 (wrap64 (8 * x24))) % 256)) x23 (wrap64 (x24 + 1))) else (none)) else (none)) else (none)) else (some x5)
end
def num_Put.f (k : Nat) (a0 : Int) (a1 : Int) : Option (List Int) := (num_isWide.f a1).bind fun t101 => (if t101 = true then (if a0 < 0 then (num_Put.j0 k a0 a1 true) else (if 0 ≤ (wrap64 (8 * a1)) then (num_Put.j0 k a0 a1 (decide ((shr .i64 a0 (wrap64 (8 * a1))) > 0))) else (none))) else (num_Put.j0 k a0 a1 true))
theorem num_Put.mono_l : ∀ k, (∀ y0 y1 y2, LeO (num_Put.j0 k y0 y1 y2) (num_Put.j0 (k + 1) y0 y1 y2)) ∧ (∀ y0 y1 y2 y3, LeO (num_Put.l0 k y0 y1 y2 y3) (num_Put.l0 (k + 1) y0 y1 y2 y3))
  | 0 => ⟨fun _ _ _ r h => by simp [num_Put.j0] at h, fun _ _ _ _ r h => by simp [num_Put.l0] at h⟩
  | k + 1 => by
    obtain ⟨ih0, ih1⟩ := num_Put.mono_l k
    refine ⟨?_, ?_⟩
    · intro y0 y1 y2
      unfold num_Put.j0
      repeat' first
      | (with_reducible exact ih0 _ _ _)
      | (with_reducible exact ih1 _ _ _ _)
      | (with_reducible exact LeO.refl _)
      | (with_reducible exact LeO.none _)
      | (with_reducible refine LeO.ite ?_ ?_)
      | (with_reducible refine LeO.bind ?_ (fun _ => ?_))
      | exact ih0 _ _ _
      | exact ih1 _ _ _ _
      | exact LeO.none _
      | refine LeO.ite ?_ ?_
      | refine LeO.bind ?_ (fun _ => ?_)
    · intro y0 y1 y2 y3
      unfold num_Put.l0
      repeat' first
      | (with_reducible exact ih0 _ _ _)
      | (with_reducible exact ih1 _ _ _ _)
      | (with_reducible exact LeO.refl _)
      | (with_reducible exact LeO.none _)
      | (with_reducible refine LeO.ite ?_ ?_)
      | (with_reducible refine LeO.bind ?_ (fun _ => ?_))
      | exact ih0 _ _ _
      | exact ih1 _ _ _ _
      | exact LeO.none _
      | refine LeO.ite ?_ ?_
      | refine LeO.bind ?_ (fun _ => ?_)
theorem num_Put.mono : ∀ a0 a1 k, LeO (num_Put.f k a0 a1) (num_Put.f (k + 1) a0 a1) := by
  intro a0 a1 k
  obtain ⟨ih0, ih1⟩ := num_Put.mono_l k
  unfold num_Put.f
  repeat' first
      | (with_reducible exact ih0 _ _ _)
      | (with_reducible exact ih1 _ _ _ _)
      | (with_reducible exact LeO.refl _)
      | (with_reducible exact LeO.none _)
      | (with_reducible refine LeO.ite ?_ ?_)
      | (with_reducible refine LeO.bind ?_ (fun _ => ?_))
      | exact ih0 _ _ _
      | exact ih1 _ _ _ _
      | exact LeO.none _
      | refine LeO.ite ?_ ?_
      | refine LeO.bind ?_ (fun _ => ?_)
set_option maxHeartbeats 8000000 in
set_option maxRecDepth 100000 in
theorem num_Put.calls (k : Nat) (a0 : Int) (a1 : Int) (r : List Int) (w : World) (h : num_Put.f k a0 a1 = some r) :
    Calls Try.prog 14 #[.int .i64 a0, .int .i64 a1] w fun e w' => ∃ v0_ : Value, e = .returned (v0_) ∧ Kd.R (Kd.int .u8) 5 w' w.heap.size (fun _ => True) v0_ r ∧ Below w.heap.size w w' := by
  have HB := Aside0.mk (Below.refl w.heap.size w)
  have H : ((num_isWide.f a1).bind fun t101 => (if t101 = true then (if a0 < 0 then (num_Put.j0 k a0 a1 true) else (if 0 ≤ (wrap64 (8 * a1)) then (num_Put.j0 k a0 a1 (decide ((shr .i64 a0 (wrap64 (8 * a1))) > 0))) else (none))) else (num_Put.j0 k a0 a1 true))) = some r := h
  clear h
  have HC3 := Aside0.mk H
  clear H
  go_enter Try.func14, Try.ntmps14
  go_upto_region 1 with (fail)
  go_cut [20] (fun v20 wc => ∃ (kq : Nat) (x20_2 : Bool), v20 = .bool x20_2 ∧ Aside0 (num_Put.j0 kq a0 a1 x20_2 = some r) ∧ Aside0 (kq ≤ k) ∧ Aside0 (Below w.heap.size w wc))
  case first =>
    have H := HC3.out
    clear HC3
    replace H := Option.bind_eq_some_iff.mp H
    obtain ⟨t101, A40, H⟩ := H
    replace H : (if t101 = true then (if a0 < 0 then (num_Put.j0 k a0 a1 true) else (if 0 ≤ (wrap64 (8 * a1)) then (num_Put.j0 k a0 a1 (decide ((shr .i64 a0 (wrap64 (8 * a1))) > 0))) else (none))) else (num_Put.j0 k a0 a1 true)) = some r := H
    have A4 := Aside0.mk A40
    clear A40
    by_cases c5 : t101 = true
    · subst c5
      have H1 : (if a0 < 0 then (num_Put.j0 k a0 a1 true) else (if 0 ≤ (wrap64 (8 * a1)) then (num_Put.j0 k a0 a1 (decide ((shr .i64 a0 (wrap64 (8 * a1))) > 0))) else (none))) = some r := by rw [if_pos rfl] at H; exact H
      clear H
      have H := H1
      clear H1
      by_cases c6 : a0 < 0
      · rw [if_pos c6] at H
        have c6b0 : decide (a0 < 0) = true := decide_eq_true c6
        clear c6
        (first | rw [c6b0] | (simp only [i64_w, i32_w]; rw [c6b0]) | skip)
        have H' := Aside0.mk H
        clear H
        go_wp2_with (first | ((with_reducible refine gate_callee (f := 28) rfl ?_); refine goesL_ (some 8) rfl rfl Try.func28 (by kernel_rfl) rfl #[.int .i64 a1] rfl (by (try simp only [List.map_toArray, List.map_cons, List.map_nil]); first | done | rfl | (simp only [List.length_drop, List.length_take]; rfl)) ?_; (with_reducible refine (num_isWide.calls a1 true _ A4.out).mono ?_); rintro e w' ⟨rfl, ⟨nd, rfl⟩⟩; refine ⟨_, rfl, ?_⟩))
        go_meet
        case rel => exact ⟨_, (true), (by first | rfl | (simp; done) | (simp [*]; done)), H', ⟨by first | omega | exact Nat.le_refl _⟩, ⟨by repeat (first | (with_reducible first | exact HB.out | apply below_alloc | apply pw_below_drewN | apply below_drew1) | exact HB.out)⟩⟩
      · rw [if_neg c6] at H
        have c6b0 : decide (a0 < 0) = false := decide_eq_false c6
        clear c6
        (first | rw [c6b0] | (simp only [i64_w, i32_w]; rw [c6b0]) | skip)
        obtain ⟨ji7, hji7⟩ : ∃ j_ : Int, (wrap64 (8 * a1)) = j_ := ⟨_, rfl⟩
        replace H : (if 0 ≤ (ji7) then (num_Put.j0 k a0 a1 (decide ((shr .i64 a0 (ji7)) > 0))) else (none)) = some r := by first | (rw [hji7] at H; exact H) | (simp only [hji7] at H ⊢; exact H)
        (try rw [hji7] at A4)
        have hji7w : (IntKind.i64.wrap (8 * a1)) = ji7 := (i64_w _).trans hji7
        by_cases c8 : 0 ≤ (ji7)
        · rw [if_pos c8] at H
          have c8b0 := eq_true c8
          have c8b1 : decide (0 ≤ (ji7)) = true := decide_eq_true c8
          clear c8
          obtain ⟨ji9, hji9⟩ : ∃ j_ : Int, (shr .i64 a0 (ji7)) = j_ := ⟨_, rfl⟩
          replace H : (num_Put.j0 k a0 a1 (decide ((ji9) > 0))) = some r := by first | (rw [hji9] at H; exact H) | (simp only [hji9] at H ⊢; exact H)
          (try rw [hji9] at A4)
          have hji9_ : (a0 / 2 ^ min (ji7).toNat 64) = ji9 := hji9
          have hji9z : (ji7) ≤ 64 → (a0 / 2 ^ (ji7).toNat) = ji9 := shr_small hji9
          have H' := Aside0.mk H
          clear H
          go_wp2_with (first | ((with_reducible refine gate_callee (f := 28) rfl ?_); refine goesL_ (some 8) rfl rfl Try.func28 (by kernel_rfl) rfl #[.int .i64 a1] rfl (by (try simp only [List.map_toArray, List.map_cons, List.map_nil]); first | done | rfl | (simp only [List.length_drop, List.length_take]; rfl)) ?_; (with_reducible refine (num_isWide.calls a1 true _ A4.out).mono ?_); rintro e w' ⟨rfl, ⟨nd, rfl⟩⟩; refine ⟨_, rfl, ?_⟩))
          go_meet
          case rel => exact ⟨_, (decide ((ji9) > 0)), (by first | rfl | (simp; done) | (simp only [← hji9] <;> (first | rfl | simp)) | (simp [*]; done)), H', ⟨by first | omega | exact Nat.le_refl _⟩, ⟨by repeat (first | (with_reducible first | exact HB.out | apply below_alloc | apply pw_below_drewN | apply below_drew1) | exact HB.out)⟩⟩
        · rw [if_neg c8] at H
          exact absurd H (by simp)
    · replace c5 := Bool.eq_false_iff.mpr c5
      subst c5
      have H1 : (num_Put.j0 k a0 a1 true) = some r := by rw [if_neg (show ¬ (false = true) by decide)] at H; exact H
      clear H
      have H := H1
      clear H1
      have H' := Aside0.mk H
      clear H
      go_wp2_with (first | ((with_reducible refine gate_callee (f := 28) rfl ?_); refine goesL_ (some 8) rfl rfl Try.func28 (by kernel_rfl) rfl #[.int .i64 a1] rfl (by (try simp only [List.map_toArray, List.map_cons, List.map_nil]); first | done | rfl | (simp only [List.length_drop, List.length_take]; rfl)) ?_; (with_reducible refine (num_isWide.calls a1 false _ A4.out).mono ?_); rintro e w' ⟨rfl, ⟨nd, rfl⟩⟩; refine ⟨_, rfl, ?_⟩))
      go_meet
      case rel => exact ⟨_, (true), (by first | rfl | (simp; done) | (simp [*]; done)), H', ⟨by first | omega | exact Nat.le_refl _⟩, ⟨by repeat (first | (with_reducible first | exact HB.out | apply below_alloc | apply pw_below_drewN | apply below_drew1) | exact HB.out)⟩⟩
  case rest =>
    clear HC3
    try clear c1
    try clear c2
    try clear p2
    try clear c5
    try clear c6
    try clear c6b0
    try clear p6
    try clear c8
    try clear c8b0
    try clear c8b1
    obtain ⟨kq, x20_2, rfl, HA, HJ2, HB⟩ := hcut
    cases kq with
    | zero => exact absurd HA.out (by simp [num_Put.j0])
    | succ kj2 =>
      have H := HA.out
      clear HA
      simp only [num_Put.j0] at H
      by_cases c10 : x20_2 = true
      · subst c10
        have H1 : (some ([] : List Int)) = some r := by rw [if_pos rfl] at H; exact H
        clear H
        have H := H1
        clear H1
        obtain rfl := Option.some.inj H
        go_wp2
        go_ret
        exact ⟨_, by first | rfl | (simp [errW_none, errW_some] <;> rfl) | (simp [*, errW_none, errW_some] <;> rfl), by first | exact Kd.R_nil _ _ _ _ _ | exact Kd.N_nil _ _ _ _ _ | exact Kd.V_nil _ _ _ _ _ | exact Kd.Q_nil _ _ _ _ _ | exact Kd.S_nil _ _ _ _ _, by repeat (first | (with_reducible first | exact HB.out | apply below_alloc | apply pw_below_drewN | apply below_drew1) | exact HB.out)⟩
      · replace c10 := Bool.eq_false_iff.mpr c10
        subst c10
        have H1 : (if 0 ≤ a1 then (if (a1 : Int).toNat ≤ 281474976710656 then (num_Put.l0 kj2 a0 (List.replicate (a1 : Int).toNat 0) a1 0) else (none)) else (none)) = some r := by rw [if_neg (show ¬ (false = true) by decide)] at H; exact H
        clear H
        have H := H1
        clear H1
        by_cases c11 : 0 ≤ a1
        · rw [if_pos c11] at H
          have c11b0 := eq_true c11
          have c11b1 : decide (0 ≤ a1) = true := decide_eq_true c11
          clear c11
          by_cases c12 : (a1 : Int).toNat ≤ 281474976710656
          · rw [if_pos c12] at H
            have c12b0 := eq_true c12
            have c12b1 : decide ((a1 : Int).toNat ≤ 281474976710656) = true := decide_eq_true c12
            clear c12
            obtain ⟨y102, hy102⟩ : ∃ y_ : List Int, y_ = (List.replicate (a1 : Int).toNat 0) := ⟨_, rfl⟩
            replace H : (num_Put.l0 kj2 a0 y102 a1 0) = some r := by first | (rw [hy102]; with_reducible exact H) | (have H2_ := (Option.bind_some _ _).symm.trans H; rw [hy102]; with_reducible exact H2_) | (have H2_ := (Option.bind_some _ _).symm.trans H; with_reducible exact H2_) | with_reducible exact H | (rw [hy102]; exact H) | exact H
            have Ny102 := Aside0.mk hy102
            clear hy102
            have H' := Aside0.mk H
            clear H
            go_wp2_with (first | ((with_reducible refine gate_dst (N := 22) rfl ?_); refine Kd.R_make (Kd.int .u8) _ 5 rfl (N := 22) rfl 22 _ _ rfl a1 rfl rfl Try.underlying22 (.int .u8 0) 1 info5 rfl (by decide) (by omega) 0 (ok := fun _ => True) (okp := fun _ => True) rfl (fun _ hk => hk) trivial (of_decide_eq_true (by first | (with_reducible assumption) | assumption)) (Nat.le_trans (Nat.mul_le_mul_right _ (of_decide_eq_true (by first | (with_reducible assumption) | assumption) : a1.toNat ≤ 281474976710656)) (by omega)) (Below.refl _ _) (Nat.le_refl _) ?_; intro v103 w13 ho14 hb hg_ hnew_; clear hg_ hnew_; (first | rw [← Ny102.out] at ho14 | (simp only [Int.reduceToNat] at ho14; rw [← Ny102.out] at ho14)); have n0_ := Aside0.mk (Kd.R_lower ho14 (below_size (by repeat (first | (with_reducible first | exact HB.out | apply below_alloc | apply pw_below_drewN | apply below_drew1) | exact HB.out)))); have n1_ := Aside0.mk (below_step (by repeat (first | (with_reducible first | exact HB.out | apply below_alloc | apply pw_below_drewN | apply below_drew1) | exact HB.out)) hb); clear HB; have HO104 := n0_; have HB := n1_; clear n0_ n1_; clear hb ho14))
            go_loopg [24] kj2 (fun kq v24 w' => ∃ (x5_2 : List Int) (x24_2 : Int), v24 = .int .i64 x24_2 ∧ Aside0 (num_Put.l0 kq a0 x5_2 a1 x24_2 = some r) ∧ Aside0 (kq ≤ kj2) ∧ Aside0 (Kd.R (Kd.int .u8) 5 w' w.heap.size (fun _ => True) v103 x5_2) ∧ Aside0 (Below w.heap.size w w'))
            case atStart => exact ⟨(y102), (0), (by first | rfl | (simp; done) | (simp [*]; done)), H', ⟨Nat.le_refl _⟩, ⟨by (with_reducible repeat (first | apply Kd.R_alloc | apply Kd.R_drewN | apply Kd.R_drew)); exact HO104.out⟩, ⟨by repeat (first | (with_reducible first | exact HB.out | apply below_alloc | apply pw_below_drewN | apply below_drew1) | exact HB.out)⟩⟩
            case round =>
              clear H'
              try clear c1
              try clear c2
              try clear p2
              try clear c5
              try clear c6
              try clear c6b0
              try clear p6
              try clear c8
              try clear c8b0
              try clear c8b1
              try clear c10
              try clear c11
              try clear c11b0
              try clear c11b1
              try clear c12
              try clear c12b0
              try clear c12b1
              try clear c14
              try clear p2
              try clear p6
              obtain ⟨x5_2, x24_2, rfl, HA, HK2, HO_5, HB⟩ := hrel
              cases gk with
              | zero => exact absurd HA.out (by simp [num_Put.l0])
              | succ k2 =>
                have H := HA.out
                clear HA
                simp only [num_Put.l0] at H
                by_cases c15 : x24_2 < a1
                · rw [if_pos c15] at H
                  have c15b0 : decide (x24_2 < a1) = true := decide_eq_true c15
                  clear c15
                  obtain ⟨ji16, hji16⟩ : ∃ j_ : Int, (wrap64 (8 * x24_2)) = j_ := ⟨_, rfl⟩
                  replace H : (if 0 ≤ (ji16) then (if 0 ≤ x24_2 then (if x24_2 < (x5_2.length : Int) then (num_Put.l0 k2 a0 (x5_2.set (x24_2 : Int).toNat ((shr .i64 a0 (ji16)) % 256)) a1 (wrap64 (x24_2 + 1))) else (none)) else (none)) else (none)) = some r := by first | (rw [hji16] at H; exact H) | (simp only [hji16] at H ⊢; exact H)
                  have hji16w : (IntKind.i64.wrap (8 * x24_2)) = ji16 := (i64_w _).trans hji16
                  by_cases c17 : 0 ≤ (ji16)
                  · rw [if_pos c17] at H
                    have c17b0 := eq_true c17
                    have c17b1 : decide (0 ≤ (ji16)) = true := decide_eq_true c17
                    clear c17
                    obtain ⟨ji18, hji18⟩ : ∃ j_ : Int, (shr .i64 a0 (ji16)) = j_ := ⟨_, rfl⟩
                    replace H : (if 0 ≤ x24_2 then (if x24_2 < (x5_2.length : Int) then (num_Put.l0 k2 a0 (x5_2.set (x24_2 : Int).toNat ((ji18) % 256)) a1 (wrap64 (x24_2 + 1))) else (none)) else (none)) = some r := by first | (rw [hji18] at H; exact H) | (simp only [hji18] at H ⊢; exact H)
                    have hji18_ : (a0 / 2 ^ min (ji16).toNat 64) = ji18 := hji18
                    have hji18z : (ji16) ≤ 64 → (a0 / 2 ^ (ji16).toNat) = ji18 := shr_small hji18
                    by_cases c19 : 0 ≤ x24_2
                    · rw [if_pos c19] at H
                      have c19b0 : decide (0 ≤ x24_2) = true := decide_eq_true c19
                      clear c19
                      by_cases c20 : x24_2 < (x5_2.length : Int)
                      · rw [if_pos c20] at H
                        have c20b0 : decide (x24_2 < (x5_2.length : Int)) = true := decide_eq_true c20
                        clear c20
                        obtain ⟨y105, hy105⟩ : ∃ y_ : List Int, y_ = (x5_2.set (x24_2 : Int).toNat ((ji18) % 256)) := ⟨_, rfl⟩
                        replace H : (num_Put.l0 k2 a0 y105 a1 (wrap64 (x24_2 + 1))) = some r := by first | (rw [hy105]; with_reducible exact H) | (have H2_ := (Option.bind_some _ _).symm.trans H; rw [hy105]; with_reducible exact H2_) | (have H2_ := (Option.bind_some _ _).symm.trans H; with_reducible exact H2_) | with_reducible exact H | (rw [hy105]; exact H) | exact H
                        have Ny105 := Aside0.mk hy105
                        clear hy105
                        have H' := Aside0.mk H
                        clear H
                        have p21 : 0 ≤ (x24_2 : Int) := of_decide_eq_true (by first | (with_reducible assumption) | assumption)
                        have q21 : (x24_2 : Int) < ((x5_2.length : Int) : Int) := of_decide_eq_true (by first | (with_reducible assumption) | assumption)
                        obtain ⟨go21, co21, eo21, gb21, gl21, cl21, HG21⟩ := Kd.R_form HO_5.out (by omega)
                        (first | cases eo21 | (injection eo21 with ea_ en_ ec_; (first | subst ea_ | (injection ea_ with ea_; subst ea_)); subst ec_; clear en_))
                        have GB21 := Aside0.mk gb21
                        have GG21 := Aside0.mk HG21
                        clear gb21 gl21 HG21
                        obtain ⟨hx21_0, hf21_0⟩ := Kd.R_celln 0 HO_5.out (x24_2 : Int) p21 q21
                        replace p21 := eq_true p21
                        replace q21 := eq_true q21
                        have HP22 := Kd.R_putg HO_5.out (x24_2 : Int) ((ji18) % 256)
                        go_wp2_with (first | ((with_reducible refine gate_store (t := 5) (p := 34) rfl ?_); refine store_event (t := 5) (p := 34) (v := ?vo_w23) (w1 := (wr.setCell ⟨go21, (x24_2 : Int).toNat, none⟩ (.int .u8 ((ji18) % 256)))) ?hg ?ho ?hn ?hr ?_; (case ho => rfl); (case hg => rfl); (case hn => rfl); (case hr => first | (go_simp; done) | (go_simp; rfl)); intro w23 hw; have hg : wr.grownBy w23 (some go21) := (by rw [hw]; exact HP22.2); have hp_ : Kd.R (Kd.int .u8) 5 w23 w.heap.size (fun _ => True) (.slice (some ⟨go21, 0, none⟩) x5_2.length co21) y105 := (by rw [hw, Ny105.out]; exact HP22.1); clear HP22; have n0_ := Aside0.mk (hp_); have n1_ := Aside0.mk ((by rw [hw]; exact below_set (HB.out) GB21.out : Below w.heap.size w w23)); clear HO_5; clear HB; have HO_5 := n0_; have HB := n1_; clear n0_ n1_; clear hg hw hp_))
                        go_roundg k2
                        case measure => have := HJ2.out; have := HK2.out; omega
                        case rel => exact ⟨(y105), (wrap64 (x24_2 + 1)), (by first | rfl | (simp; done) | (simp [*]; done)), H', ⟨by have := HJ2.out; have := HK2.out; omega⟩, ⟨by (with_reducible repeat (first | apply Kd.R_alloc | apply Kd.R_drewN | apply Kd.R_drew)); exact HO_5.out⟩, ⟨by repeat (first | (with_reducible first | exact HB.out | apply below_alloc | apply pw_below_drewN | apply below_drew1) | exact HB.out)⟩⟩
                      · rw [if_neg c20] at H
                        exact absurd H (by simp)
                    · rw [if_neg c19] at H
                      exact absurd H (by simp)
                  · rw [if_neg c17] at H
                    exact absurd H (by simp)
                · rw [if_neg c15] at H
                  have c15b0 : decide (x24_2 < a1) = false := decide_eq_false c15
                  clear c15
                  obtain rfl := Option.some.inj H
                  go_wp2
                  go_ret
                  exact ⟨_, by first | rfl | (simp [errW_none, errW_some] <;> rfl) | (simp [*, errW_none, errW_some] <;> rfl), by (with_reducible repeat (first | apply Kd.R_alloc | apply Kd.R_drewN | apply Kd.R_drew)); exact HO_5.out, by repeat (first | (with_reducible first | exact HB.out | apply below_alloc | apply pw_below_drewN | apply below_drew1) | exact HB.out)⟩
          · rw [if_neg c12] at H
            exact absurd H (by simp)
        · rw [if_neg c11] at H
          exact absurd H (by simp)

end Go.Proofs.Ytiklkokjoemokaa.P
end
section
/- todo: the small functions on tasks. -/
namespace Go.Proofs.Ytiklkokjoemokaa.P
open Go.RowKit Go.Proofs.YtiklkokjoemokaaW.PrintWords Go.Proofs.YtiklkokjoemokaaW.PrintLast Go.Proofs.YtiklkokjoemokaaW.PrintMore
set_option linter.unusedVariables false
set_option linter.unusedSimpArgs false

theorem of_walk (p k : Nat) (w : World) : Calls Try.prog 23 #[.int .i64 p, .int .i64 k] w fun e w' => e = .returned (.complex .f64 (fl p) (fl k)) ∧ w' = w := by
  go_enter Try.func23, Try.ntmps23
  go_wp2
  go_ret
  exact ⟨rfl, rfl⟩
theorem on_walk (p k : Nat) (hp : p < 2000) (hk : k < 600) (w : World) : Calls Try.prog 24 #[.complex .f64 (fl p) (fl k)] w fun e w' => e = .returned (.complex .f64 (fl p) (fl (k + 1))) ∧ w' = w := by
  have h : cSumBits .add .f64 (fl p) (fl k) 0 4607182418800017408 = some (fl p, fl (k + 1)) := by
    unfold cSumBits
    rw [fl_add0 p hp, fl_add1 k hk]
    rfl
  have hr := fun w => run_complex_sum (P := Try.prog) (w := w) .add (.inl rfl) 51 .f64 _ _ _ _ _ _ h
  generalize fl p = a at h hr ⊢
  generalize fl k = b at h hr ⊢
  generalize fl (k + 1) = c at h hr ⊢
  go_enter Try.func24, Try.ntmps24
  go_wp2
  go_ret
  exact ⟨rfl, rfl⟩
theorem place_walk (p : Nat) (b : Nat) (hp : p < 2000) (w : World) : Calls Try.prog 26 #[.complex .f64 (fl p) b] w fun e w' => e = .returned (.int .i64 p) ∧ w' = w := by
  have h := fl_back p hp
  have hr := fun w => run_convert_float_int (P := Try.prog) (w := w) 57 3 .f64 .i64 _ _ (by kernel_rfl) Try.underlying3 h
  generalize fl p = a at h hr ⊢
  go_enter Try.func26, Try.ntmps26
  go_wp2
  go_ret
  exact ⟨rfl, rfl⟩
theorem done_walk (k : Nat) (a : Nat) (hk : k < 2000) (w : World) : Calls Try.prog 27 #[.complex .f64 a (fl k)] w fun e w' => e = .returned (.int .i64 k) ∧ w' = w := by
  have h := fl_back k hk
  have hr := fun w => run_convert_float_int (P := Try.prog) (w := w) 57 3 .f64 .i64 _ _ (by kernel_rfl) Try.underlying3 h
  generalize fl k = b at h hr ⊢
  go_enter Try.func27, Try.ntmps27
  go_wp2
  go_ret
  exact ⟨rfl, rfl⟩
end Go.Proofs.Ytiklkokjoemokaa.P
end
section
/- todo: rows of tasks: which are the same, which right. -/
namespace Go.Proofs.Ytiklkokjoemokaa.P
open Go.RowKit Go.Proofs.YtiklkokjoemokaaW.PrintWords Go.Proofs.YtiklkokjoemokaaW.PrintLast Go.Proofs.YtiklkokjoemokaaW.PrintMore
set_option linter.unusedVariables false
set_option linter.unusedSimpArgs false
/-- Row A, n long, of complex numbers xs. -/
def CRow (w : World) (A : Option Addr) (xs : List (Nat × Nat)) : Prop := ∀ j, (h : j < xs.length) → ∃ ad, A = some ad ∧ w.cell? (ad.add j) = some (.complex .f64 xs[j].1 xs[j].2)
theorem crow_below {w w' : World} {A : Option Addr} {xs : List (Nat × Nat)} (h : CRow w A xs) (hb : Below w.heap.size w w') : CRow w' A xs := by
  intro j hj
  obtain ⟨ad, hA, hc⟩ := h j hj
  exact ⟨ad, hA, pw_cell_below hb hc⟩
set_option maxHeartbeats 4000000 in
set_option maxRecDepth 100000 in
theorem equal_walk (A B : Option Addr) (c d : Nat) (xs : List (Nat × Nat)) (w : World) (hl : xs.length < 1000) (ha : CRow w A xs) (hb : CRow w B xs) (hc : xs.length ≤ c) (hd : xs.length ≤ d)
    (hs : ∀ x ∈ xs, (FloatKind.f64.format.order x.1 x.1 == some .eq) = true ∧ (FloatKind.f64.format.order x.2 x.2 == some .eq) = true) :
    Calls Try.prog 34 #[.slice A xs.length c, .slice B xs.length d] w fun e w' => e = .returned (.bool true) ∧ ∃ q, w' = w.drewN q := by
  have HA := Aside0.mk ha
  have HB := Aside0.mk hb
  have HS := Aside0.mk hs
  have mixed : Try.prog.follows .mixedOrders = true := by kernel_rfl
  clear ha hb hs
  go_enter Try.func34, Try.ntmps34
  go_wp2
  go_loopg [13] xs.length (fun kx s wr => ∃ (j q : Nat), s = .int .i64 j ∧ j ≤ xs.length ∧ xs.length - j ≤ kx ∧ wr = w.drewN q)
  case atStart => exact ⟨0, 0, rfl, Nat.zero_le _, by omega, rfl⟩
  case round =>
    obtain ⟨j, q, rfl, hj, hg, rfl⟩ := hrel
    by_cases hlt : j < xs.length
    · obtain ⟨ad, hA, c1⟩ := HA.out j hlt
      obtain ⟨bd, hB, c2⟩ := HB.out j hlt
      subst hA
      subst hB
      obtain ⟨s1, s2⟩ := HS.out xs[j] (List.getElem_mem hlt)
      have p1 : (0 : Int) ≤ j := by omega
      have q1 : (j : Int) < xs.length := by omega
      generalize xs[j].1 = re at c1 c2 s1
      generalize xs[j].2 = im at c1 c2 s2
      go_wp2
      go_region_o
      all_goals go_wp2
      go_roundg (xs.length - (j + 1))
      case measure => omega
      case rel => exact ⟨j + 1, q + 1, by simp, by omega, Nat.le_refl _, rfl⟩
    · obtain rfl : j = xs.length := by omega
      go_wp2
      go_ret
      exact ⟨rfl, q, rfl⟩
theorem same_walk (A B : Option Addr) (c d : Nat) (xs : List (Nat × Nat)) (w : World) (hl : xs.length < 1000) (ha : CRow w A xs) (hb : CRow w B xs) (hc : xs.length ≤ c) (hd : xs.length ≤ d)
    (hs : ∀ x ∈ xs, (FloatKind.f64.format.order x.1 x.1 == some .eq) = true ∧ (FloatKind.f64.format.order x.2 x.2 == some .eq) = true) :
    Calls Try.prog 25 #[.slice A xs.length c, .slice B xs.length d] w fun e w' => e = .returned (.bool true) ∧ ∃ q, w' = w.drewN q := by
  have HE := Aside0.mk (equal_walk A B c d xs w hl ha hb hc hd hs)
  clear ha hb hs
  go_enter Try.func25, Try.ntmps25
  go_wp2_with fail
  refine HE.out.mono ?_
  rintro e w' ⟨rfl, q, rfl⟩
  go_wp2
  go_ret
  exact ⟨rfl, q, rfl⟩
/-- whole: is it a whole number from 0 to another one? -/
theorem whole_walk (x : Nat) (most : Int) (a b c : Bool) (n : Int) (w : World) (h0 : (FloatKind.f64.format.order x 0 == some .gt || FloatKind.f64.format.order x 0 == some .eq) = true) (h1 : (FloatKind.f64.format.order x (floatOfInt .f64 most) == some .lt || FloatKind.f64.format.order x (floatOfInt .f64 most) == some .eq) = b)
    (h2 : b = true → floatToIntVal .f64 x .i64 = some n ∧ (FloatKind.f64.format.order x (floatOfInt .f64 n) == some .eq) = true) :
    Calls Try.prog 36 #[.float .f64 x, .int .i64 most] w fun e w' => e = .returned (.bool b) ∧ w' = w := by
  cases b with
  | false =>
    go_enter Try.func36, Try.ntmps36
    go_wp2
    go_ret
    exact ⟨rfl, rfl⟩
  | true =>
    obtain ⟨h3, h4⟩ := h2 rfl
    have hr := fun w => run_convert_float_int (P := Try.prog) (w := w) 57 3 .f64 .i64 _ _ (by kernel_rfl) Try.underlying3 h3
    go_enter Try.func36, Try.ntmps36
    go_wp2
    go_ret
    exact ⟨rfl, rfl⟩
theorem odd_walk (g : Nat) (re im : Nat) (n m : Int) (b1 b2 : Bool) (w : World) (hm : wrap64 (n - 1) = m) (hc : w.cell? ⟨g, 0, none⟩ = some (.int .i64 n))
    (h1 : Calls Try.prog 36 #[.float .f64 re, .int .i64 m] w fun e w' => e = .returned (.bool b1) ∧ w' = w) (h2 : Calls Try.prog 36 #[.float .f64 im, .int .i64 5] w fun e w' => e = .returned (.bool b2) ∧ w' = w) :
    Calls Try.prog 35 #[.complex .f64 re im, .pointer (some ⟨g, 0, none⟩)] w fun e w' => e = .returned (.bool (!b1 || !b2)) ∧ w' = w := by
  have H1 := Aside0.mk h1
  have H2 := Aside0.mk h2
  clear h1 h2
  go_enter Try.func35, Try.ntmps35
  go_wp2_with fail
  refine H1.out.mono ?_
  rintro e w' ⟨rfl, rfl⟩
  cases b1 with
  | false =>
    go_wp2_with fail
    go_ret
    exact ⟨rfl, rfl⟩
  | true =>
    go_wp2_with fail
    refine H2.out.mono ?_
    rintro e w' ⟨rfl, rfl⟩
    cases b2 <;> go_wp2 <;> go_ret <;> exact ⟨rfl, rfl⟩
set_option maxHeartbeats 4000000 in
set_option maxRecDepth 100000 in
theorem index_none (A : Option Addr) (c g : Nat) (xs : List (Nat × Nat)) (w : World) (hl : xs.length < 1000) (ha : CRow w A xs)
    (hf : ∀ j (h : j < xs.length), Calls Try.prog 35 #[.complex .f64 xs[j].1 xs[j].2, .pointer (some ⟨g, 0, none⟩)] w fun e w' => e = .returned (.bool false) ∧ w' = w) :
    Calls Try.prog 38 #[.slice A xs.length c, .func (.func 35) #[] #[.pointer (some ⟨g, 0, none⟩)]] w fun e w' => e = .returned (.int .i64 (-1)) ∧ w' = w := by
  have HA := Aside0.mk ha
  have HF := Aside0.mk hf
  clear ha hf
  go_enter Try.func38, Try.ntmps38
  go_wp2
  go_loopg [8] xs.length (fun kx s wr => ∃ (j : Nat), s = .int .i64 j ∧ j ≤ xs.length ∧ xs.length - j ≤ kx ∧ w = wr)
  case atStart => exact ⟨0, rfl, Nat.zero_le _, by omega, rfl⟩
  case round =>
    obtain ⟨j, rfl, hj, hg, rfl⟩ := hrel
    by_cases hlt : j < xs.length
    · obtain ⟨ad, hA, c1⟩ := HA.out j hlt
      subst hA
      have hc := HF.out j hlt
      have p1 : (0 : Int) ≤ j := by omega
      have q1 : (j : Int) < xs.length := by omega
      generalize xs[j].1 = re at c1 hc
      generalize xs[j].2 = im at c1 hc
      have HC := Aside0.mk hc
      clear hc
      go_wp2_with fail
      refine HC.out.mono ?_
      rintro e w' ⟨rfl, rfl⟩
      go_wp2
      go_roundg (xs.length - (j + 1))
      case measure => omega
      case rel => exact ⟨j + 1, by simp, by omega, Nat.le_refl _, rfl⟩
    · obtain rfl : j = xs.length := by omega
      go_wp2
      go_ret
      exact ⟨rfl, rfl⟩
set_option maxHeartbeats 4000000 in
set_option maxRecDepth 100000 in
theorem index_zero (A : Option Addr) (c g : Nat) (xs : List (Nat × Nat)) (w : World) (hl : xs.length < 1000) (h0 : 0 < xs.length) (ha : CRow w A xs)
    (hf : Calls Try.prog 35 #[.complex .f64 xs[0].1 xs[0].2, .pointer (some ⟨g, 0, none⟩)] w fun e w' => e = .returned (.bool true) ∧ w' = w) :
    Calls Try.prog 38 #[.slice A xs.length c, .func (.func 35) #[] #[.pointer (some ⟨g, 0, none⟩)]] w fun e w' => e = .returned (.int .i64 0) ∧ w' = w := by
  have HA := Aside0.mk ha
  have HF := Aside0.mk hf
  clear ha hf
  go_enter Try.func38, Try.ntmps38
  go_wp2
  go_loopg [8] 5 (fun kx s wr => s = .int .i64 0 ∧ w = wr)
  case atStart => exact ⟨rfl, rfl⟩
  case round =>
    obtain ⟨rfl, rfl⟩ := hrel
    obtain ⟨ad, hA, c1⟩ := HA.out 0 h0
    subst hA
    have hc := HF.out
    have q1 : (0 : Int) < xs.length := by omega
    rw [Addr.add_zero'] at c1
    generalize xs[0].1 = re at c1 hc
    generalize xs[0].2 = im at c1 hc
    have HC := Aside0.mk hc
    clear hc
    go_wp2_with fail
    refine HC.out.mono ?_
    rintro e w' ⟨rfl, rfl⟩
    go_wp2
    go_ret
    exact ⟨rfl, rfl⟩
theorem contains_walk (A : Option Addr) (c g : Nat) (n : Nat) (i : Int) (b : Bool) (hb : decide (0 ≤ i) = b) (w : World)
    (h : Calls Try.prog 38 #[.slice A n c, .func (.func 35) #[] #[.pointer (some ⟨g, 0, none⟩)]] w fun e w' => e = .returned (.int .i64 i) ∧ w' = w) :
    Calls Try.prog 37 #[.slice A n c, .func (.func 35) #[] #[.pointer (some ⟨g, 0, none⟩)]] w fun e w' => e = .returned (.bool b) ∧ w' = w := by
  have H := Aside0.mk h
  clear h
  go_enter Try.func37, Try.ntmps37
  go_wp2_with fail
  refine H.out.mono ?_
  rintro e w' ⟨rfl, rfl⟩
  go_wp2
  go_ret
  exact ⟨rfl, rfl⟩
theorem right_walk (A : Option Addr) (c : Nat) (n : Int) (len : Nat) (b : Bool) (w : World) (hl : len < 400)
    (h : ∀ (g : Nat) (w1 : World), Below w.heap.size w w1 → w1.cell? ⟨g, 0, none⟩ = some (.int .i64 n) → Calls Try.prog 37 #[.slice A len c, .func (.func 35) #[] #[.pointer (some ⟨g, 0, none⟩)]] w1 fun e w' => e = .returned (.bool (!b)) ∧ w' = w1) :
    Calls Try.prog 33 #[.slice A len c, .int .i64 n] w fun e w' => e = .returned (.bool b) ∧ Below w.heap.size w w' := by
  have H := Aside0.mk h
  have hd : decide ((len : Int) ≤ 500) = true := decide_eq_true (by omega)
  clear h
  go_enter Try.func33, Try.ntmps33
  go_wp2_with (first | ((with_reducible refine gate_dst (N := 3) rfl ?_); refine box_event ?hg (N := 3) ?hd (cs := #[.int .i64 n]) (t := 3) ?hr ?_; (case hd => rfl); (case hg => rfl); (case hr => first | (go_simp; done) | (go_simp; rfl)); intro g3 hg w3 hbox hb; have HB3 := Aside0.mk hb; have k3 : w3.cell? ⟨g3, 0, none⟩ = some (.int .i64 n) := (blk_cell hbox 0).trans rfl; clear hb hbox hg) | fail)
  refine (H.out g3 w3 HB3.out k3).mono ?_
  rintro e w' ⟨rfl, rfl⟩
  cases b <;> go_wp2 <;> go_ret <;> exact ⟨rfl, HB3.out⟩
end Go.Proofs.Ytiklkokjoemokaa.P
end
section
/- todo: the document's example: printed, parsed, told. -/
namespace Go.Proofs.Ytiklkokjoemokaa.P
open Go.RowKit Go.Proofs.YtiklkokjoemokaaW.PrintWords Go.Proofs.YtiklkokjoemokaaW.PrintLast Go.Proofs.YtiklkokjoemokaaW.PrintMore
set_option linter.unusedVariables false
set_option linter.unusedSimpArgs false
def tasks : List (Nat × Nat) := [(fl 3, fl 2), (fl 3, fl 3)]
theorem w33 (w : World) : Calls Try.prog 36 #[.float .f64 (fl 3), .int .i64 3] w fun e w' => e = .returned (.bool true) ∧ w' = w :=
  whole_walk (fl 3) 3 true true true 3 w (by decide +kernel) (by decide +kernel) (fun _ => ⟨by decide +kernel, by decide +kernel⟩)
theorem w32 (w : World) : Calls Try.prog 36 #[.float .f64 (fl 3), .int .i64 2] w fun e w' => e = .returned (.bool false) ∧ w' = w :=
  whole_walk (fl 3) 2 true false true 3 w (by decide +kernel) (by decide +kernel) (fun h => by cases h)
theorem w25 (w : World) : Calls Try.prog 36 #[.float .f64 (fl 2), .int .i64 5] w fun e w' => e = .returned (.bool true) ∧ w' = w :=
  whole_walk (fl 2) 5 true true true 2 w (by decide +kernel) (by decide +kernel) (fun _ => ⟨by decide +kernel, by decide +kernel⟩)
theorem w35 (w : World) : Calls Try.prog 36 #[.float .f64 (fl 3), .int .i64 5] w fun e w' => e = .returned (.bool true) ∧ w' = w :=
  whole_walk (fl 3) 5 true true true 3 w (by decide +kernel) (by decide +kernel) (fun _ => ⟨by decide +kernel, by decide +kernel⟩)
theorem right4 (A : Option Addr) (c : Nat) (w : World) (ha : CRow w A tasks) : Calls Try.prog 33 #[.slice A 2 c, .int .i64 4] w fun e w' => e = .returned (.bool true) ∧ Below w.heap.size w w' := by
  refine right_walk A c 4 2 true w (by omega) fun g w1 hb hc => ?_
  refine contains_walk A c g 2 (-1) false (by decide) w1 ?_
  refine index_none A c g tasks w1 (by decide) (crow_below ha hb) fun j h => ?_
  have h2 : tasks.length = 2 := rfl
  match j, h with
  | 0, _ => exact odd_walk g (fl 3) (fl 2) 4 3 true true w1 (by unfold wrap64; omega) hc (w33 w1) (w25 w1)
  | 1, _ => exact odd_walk g (fl 3) (fl 3) 4 3 true true w1 (by unfold wrap64; omega) hc (w33 w1) (w35 w1)
  | j + 2, h => omega
theorem right3 (A : Option Addr) (c : Nat) (w : World) (ha : CRow w A tasks) : Calls Try.prog 33 #[.slice A 2 c, .int .i64 3] w fun e w' => e = .returned (.bool false) ∧ Below w.heap.size w w' := by
  refine right_walk A c 3 2 false w (by omega) fun g w1 hb hc => ?_
  refine contains_walk A c g 2 0 true (by decide) w1 ?_
  exact index_zero A c g tasks w1 (by decide) (by decide) (crow_below ha hb) (odd_walk g (fl 3) (fl 2) 3 2 false true w1 (by unfold wrap64; omega) hc (w32 w1) (w25 w1))
theorem put2 : num_Put.f 6 2 2 = some ([2, 0] : List Int) := by decide +kernel
theorem put3 : num_Put.f 6 3 2 = some ([3, 0] : List Int) := by decide +kernel
set_option maxHeartbeats 4000000 in
set_option maxRecDepth 100000 in
theorem print_walk (A : Option Addr) (c : Nat) (w : World) (ha : CRow w A [(fl 3, fl 2), (fl 3, fl 3)]) :
    Calls Try.prog 31 #[.slice A 2 c] w fun e w' => ∃ v : Value, e = .returned v ∧ Kd.R (Kd.int .u8) 5 w' w.heap.size (fun _ => True) v ([2, 0, 3, 0, 2, 3, 0, 3] : List Int) ∧ Below w.heap.size w w' := by
  have HA := Aside0.mk ha
  have HP2 := Aside0.mk put2
  clear ha
  go_enter Try.func31, Try.ntmps31
  go_wp2_with fail
  refine (num_Put.calls 6 _ _ _ _ HP2.out).mono ?_
  rintro e wq ⟨v0, rfl, hr, hbq⟩
  have HRq := Aside0.mk hr
  have HBq := Aside0.mk hbq
  clear hr hbq
  go_wp2_with fail
  go_loopg [3, 11] 2 (fun kx v s wr => (s = .int .i64 0 ∧ kx = 2 ∧ Aside0 (Kd.R (Kd.int .u8) 5 wr w.heap.size (fun _ => True) v ([2, 0] : List Int)) ∧ Aside0 (Below w.heap.size w wr)) ∨ (s = .int .i64 1 ∧ kx = 1 ∧ Aside0 (Kd.R (Kd.int .u8) 5 wr w.heap.size (fun _ => True) v ([2, 0, 3, 0, 2] : List Int)) ∧ Aside0 (Below w.heap.size w wr)) ∨ (s = .int .i64 2 ∧ kx = 0 ∧ Aside0 (Kd.R (Kd.int .u8) 5 wr w.heap.size (fun _ => True) v ([2, 0, 3, 0, 2, 3, 0, 3] : List Int)) ∧ Aside0 (Below w.heap.size w wr)))
  case atStart => exact .inl ⟨rfl, rfl, HRq, HBq⟩
  case round =>
    rcases hrel with ⟨rfl, rfl, HRr, HBr⟩ | ⟨rfl, rfl, HRr, HBr⟩ | ⟨rfl, rfl, HRr, HBr⟩
    · skip
      have HCj := Aside0.mk (crow_below HA.out HBr.out)
      obtain ⟨ad, hA, c1⟩ := HCj.out 0 (by simp)
      subst hA
      have c1' : wr.cell? (ad.add 0) = some (.complex .f64 (fl 3) (fl 2)) := c1
      clear c1
      rw [Addr.add_zero'] at c1'
      have HP := Aside0.mk put3
      go_wp2_with fail
      refine (place_walk 3 (fl 2) (by omega) _).mono ?_
      rintro e w' ⟨rfl, rfl⟩
      go_wp2_with fail
      refine (num_Put.calls 6 _ _ _ _ HP.out).mono ?_
      rintro e we ⟨v0, rfl, hr, hbe⟩
      obtain ⟨A1, cc1, rfl, hcc, hC⟩ := Kd.R_reads hr
      have HC := Aside0.mk hC
      have HRe := Aside0.mk (Kd.R_below HRr.out hbe)
      have HBe : Aside0 (Below w.heap.size w we) := ⟨HBr.out.trans (hbe.mono HBr.out.size)⟩
      clear hr hbe hC hcc HRr HBr c1'
      go_wp2_with ((with_reducible refine gate_builtin (b := .append) (xs := #[.tmp 15, .tmp 18]) rfl ?_); at_builtin; refine Kd.R_append_rows (Kd.int .u8) (w0 := w) w.heap.size rfl (.tmp 15) (.tmp 18) 22 5 (.int .u8 0) 1 rfl Try.underlying22 info5 rfl (by decide) (by omega) _ ([2, 0] : List Int) ([3, 0] : List Int) A1 ([3, 0] : List Int).length cc1 (fun _ => True) (fun _ => False) rfl rfl ?aO ?aR (fun _ _ h => h) (fun _ h => h.elim) (fun _ _ => trivial) ?aB ?aS ?aL ?_)
      case aO => exact HRe.out
      case aR => exact HC.out
      case aB => exact HBe.out
      case aS => exact HBe.out.size
      case aL => decide
      intro v1 w1 hR hB hg hv
      have HR1 := Aside0.mk hR
      have HB1 := Aside0.mk hB
      clear hR hB hg hv HC HRe HBe
      go_wp2_with fail
      refine (done_walk 2 (fl 3) (by omega) _).mono ?_
      rintro e w' ⟨rfl, rfl⟩
      go_wp2_with ((with_reducible refine gate_builtin (b := .append) (xs := #[.tmp 19, .tmp 23]) rfl ?_); at_builtin; refine Kd.R_append (Kd.int .u8) (w0 := w) w.heap.size rfl (.tmp 19) (.tmp 23) 22 5 (.int .u8 0) 1 rfl Try.underlying22 info5 rfl (by decide) (by omega) v1 ([2, 0] ++ [3, 0] : List Int) (2 : Int) [.int .u8 2] (fun _ => True) (fun _ => False) rfl rfl ?aP (fun _ hk => hk.elim) ?aF ?aO ?aB ?aS ?aL ?_)
      case aP => exact rfl
      case aF => exact fun _ _ => trivial
      case aO => exact HR1.out
      case aB => exact HB1.out
      case aS => exact HB1.out.size
      case aL => decide
      intro v2 w2 hR hB hg hv
      have HR2 := Aside0.mk hR
      have HB2 := Aside0.mk hB
      clear hR hB hg hv HR1 HB1
      go_wp2
      go_roundg 1
      case measure => omega
      case rel => exact .inr (.inl ⟨rfl, rfl, HR2, HB2⟩)
    · skip
      have HCj := Aside0.mk (crow_below HA.out HBr.out)
      obtain ⟨ad, hA, c1⟩ := HCj.out 1 (by simp)
      subst hA
      have c1' : wr.cell? (ad.add 1) = some (.complex .f64 (fl 3) (fl 3)) := c1
      clear c1
      simp only [Nat.reduceMul, Nat.reduceEqDiff, Go.Addr.add, ↓reduceIte] at c1'
      have HP := Aside0.mk put3
      go_wp2_with fail
      refine (place_walk 3 (fl 3) (by omega) _).mono ?_
      rintro e w' ⟨rfl, rfl⟩
      go_wp2_with fail
      refine (num_Put.calls 6 _ _ _ _ HP.out).mono ?_
      rintro e we ⟨v0, rfl, hr, hbe⟩
      obtain ⟨A1, cc1, rfl, hcc, hC⟩ := Kd.R_reads hr
      have HC := Aside0.mk hC
      have HRe := Aside0.mk (Kd.R_below HRr.out hbe)
      have HBe : Aside0 (Below w.heap.size w we) := ⟨HBr.out.trans (hbe.mono HBr.out.size)⟩
      clear hr hbe hC hcc HRr HBr c1'
      go_wp2_with ((with_reducible refine gate_builtin (b := .append) (xs := #[.tmp 15, .tmp 18]) rfl ?_); at_builtin; refine Kd.R_append_rows (Kd.int .u8) (w0 := w) w.heap.size rfl (.tmp 15) (.tmp 18) 22 5 (.int .u8 0) 1 rfl Try.underlying22 info5 rfl (by decide) (by omega) _ ([2, 0, 3, 0, 2] : List Int) ([3, 0] : List Int) A1 ([3, 0] : List Int).length cc1 (fun _ => True) (fun _ => False) rfl rfl ?aO ?aR (fun _ _ h => h) (fun _ h => h.elim) (fun _ _ => trivial) ?aB ?aS ?aL ?_)
      case aO => exact HRe.out
      case aR => exact HC.out
      case aB => exact HBe.out
      case aS => exact HBe.out.size
      case aL => decide
      intro v1 w1 hR hB hg hv
      have HR1 := Aside0.mk hR
      have HB1 := Aside0.mk hB
      clear hR hB hg hv HC HRe HBe
      go_wp2_with fail
      refine (done_walk 3 (fl 3) (by omega) _).mono ?_
      rintro e w' ⟨rfl, rfl⟩
      go_wp2_with ((with_reducible refine gate_builtin (b := .append) (xs := #[.tmp 19, .tmp 23]) rfl ?_); at_builtin; refine Kd.R_append (Kd.int .u8) (w0 := w) w.heap.size rfl (.tmp 19) (.tmp 23) 22 5 (.int .u8 0) 1 rfl Try.underlying22 info5 rfl (by decide) (by omega) v1 ([2, 0, 3, 0, 2] ++ [3, 0] : List Int) (3 : Int) [.int .u8 3] (fun _ => True) (fun _ => False) rfl rfl ?aP (fun _ hk => hk.elim) ?aF ?aO ?aB ?aS ?aL ?_)
      case aP => exact rfl
      case aF => exact fun _ _ => trivial
      case aO => exact HR1.out
      case aB => exact HB1.out
      case aS => exact HB1.out.size
      case aL => decide
      intro v2 w2 hR hB hg hv
      have HR2 := Aside0.mk hR
      have HB2 := Aside0.mk hB
      clear hR hB hg hv HR1 HB1
      go_wp2
      go_roundg 0
      case measure => omega
      case rel => exact .inr (.inr ⟨rfl, rfl, HR2, HB2⟩)
    · go_wp2
      go_ret
      exact ⟨_, rfl, HRr.out, HBr.out⟩
def kc : Kd (Nat × Nat) := Kd.scalar (fun c => Value.complex .f64 c.1 c.2) (fun _ => rfl)
theorem info51 : (Try.prog.info? 51).map (fun i => (i.zero, i.size, i.bytes)) = some (some (.complex .f64 0 0), 1, 16) := by kernel_rfl
theorem crow_of {w : World} {A : Option Addr} {xs : List (Nat × Nat)} (h : Kd.C kc w A xs.length xs) : CRow w A xs := by
  intro j hj
  obtain ⟨ad, c, e, _, hK, hc0⟩ := Kd.C_get h (0, 0) (j : Int) (by omega) (by omega)
  have hc : ∀ i u, c[i]? = some u → w.cell? (ad.add ((j : Int).toNat * 1 + i)) = some u := hc0
  rw [Int.toNat_natCast] at hK hc
  have hd : xs.getD j (0, 0) = xs[j] := by simp [hj]
  rw [hd] at hK
  have hK2 : c = [.complex .f64 xs[j].1 xs[j].2] := hK
  subst hK2
  refine ⟨ad, e, ?_⟩
  have := hc 0 _ rfl
  rwa [Nat.mul_one, Nat.add_zero] at this
theorem take02 : num_Take.f 6 ([2, 0, 3, 0, 2, 3, 0, 3] : List Int) 0 2 = some (2, 2, 0) := by decide +kernel
theorem take22 : num_Take.f 6 ([2, 0, 3, 0, 2, 3, 0, 3] : List Int) 2 2 = some (3, 4, 0) := by decide +kernel
theorem take41 : num_Take.f 6 ([2, 0, 3, 0, 2, 3, 0, 3] : List Int) 4 1 = some (2, 5, 0) := by decide +kernel
theorem take52 : num_Take.f 6 ([2, 0, 3, 0, 2, 3, 0, 3] : List Int) 5 2 = some (3, 7, 0) := by decide +kernel
theorem take71 : num_Take.f 6 ([2, 0, 3, 0, 2, 3, 0, 3] : List Int) 7 1 = some (3, 8, 0) := by decide +kernel
set_option maxHeartbeats 4000000 in
set_option maxRecDepth 100000 in
theorem parse_walk (A : Option Addr) (c : Nat) (w : World) (ha : Kd.C (Kd.int .u8) w A 8 ([2, 0, 3, 0, 2, 3, 0, 3] : List Int)) (hc8 : 8 ≤ c) :
    Calls Try.prog 32 #[.slice A 8 c, .int .i64 0, .int .i64 4] w fun e w' => ∃ (D : Option Addr) (d : Nat), e = .returned (.tuple #[.slice D 2 d, .int .i64 8, .int .i64 0]) ∧ CRow w' D tasks ∧ 2 ≤ d ∧ Below w.heap.size w w' := by
  have HA := Aside0.mk ha
  have HC0 : Aside0 (([2, 0, 3, 0, 2, 3, 0, 3] : List Int).length ≤ c) := ⟨hc8⟩
  have HT := Aside0.mk take02
  clear ha hc8
  go_enter Try.func32, Try.ntmps32
  go_wp2_with fail
  refine (num_Take.calls 6 _ _ ([2, 0, 3, 0, 2, 3, 0, 3] : List Int) _ _ _ _ _ _ HA.out HC0.out HT.out).mono ?_
  rintro e wq ⟨rfl, hd⟩
  have HBq := Aside0.mk hd.below
  clear hd
  go_wp2_with fail
  go_loopg [1, 10, 11, 12] 2 (fun kx a e10 v i wr => (a = .int .i64 2 ∧ e10 = .int .i64 0 ∧ i = .int .i64 0 ∧ kx = 2 ∧ Aside0 (Kd.R kc 51 wr w.heap.size (fun _ => True) v ([] : List (Nat × Nat))) ∧ Aside0 (Below w.heap.size w wr)) ∨ (a = .int .i64 5 ∧ e10 = .int .i64 0 ∧ i = .int .i64 1 ∧ kx = 1 ∧ Aside0 (Kd.R kc 51 wr w.heap.size (fun _ => True) v ([(fl 3, fl 2)] : List (Nat × Nat))) ∧ Aside0 (Below w.heap.size w wr)) ∨ (a = .int .i64 8 ∧ e10 = .int .i64 0 ∧ i = .int .i64 2 ∧ kx = 0 ∧ Aside0 (Kd.R kc 51 wr w.heap.size (fun _ => True) v (tasks : List (Nat × Nat))) ∧ Aside0 (Below w.heap.size w wr)))
  case atStart => exact .inl ⟨rfl, rfl, rfl, rfl, ⟨Kd.R_nil _ _ _ _ _⟩, HBq⟩
  case round =>
    rcases hrel with ⟨rfl, rfl, rfl, rfl, HRr, HBr⟩ | ⟨rfl, rfl, rfl, rfl, HRr, HBr⟩ | ⟨rfl, rfl, rfl, rfl, HRr, HBr⟩
    · skip
      obtain ⟨A1, cc1, rfl, hcc, hC⟩ := Kd.R_reads HRr.out
      have HTa := Aside0.mk take22
      have HTb := Aside0.mk take41
      clear hcc hC
      go_wp2_with fail
      refine (num_Take.calls 6 _ _ ([2, 0, 3, 0, 2, 3, 0, 3] : List Int) _ _ _ _ _ _ (Kd.C_below HA.out HBr.out) HC0.out HTa.out).mono ?_
      rintro e wa ⟨rfl, hd⟩
      have hb := hd.below
      have HRa := Aside0.mk (Kd.R_below HRr.out hb)
      have HBa : Aside0 (Below w.heap.size w wa) := ⟨HBr.out.trans (hb.mono HBr.out.size)⟩
      clear hd hb HRr HBr
      go_wp2_with fail
      refine (num_Take.calls 6 _ _ ([2, 0, 3, 0, 2, 3, 0, 3] : List Int) _ _ _ _ _ _ (Kd.C_below HA.out HBa.out) HC0.out HTb.out).mono ?_
      rintro e wb ⟨rfl, hd⟩
      have hb := hd.below
      have HRb := Aside0.mk (Kd.R_below HRa.out hb)
      have HBb : Aside0 (Below w.heap.size w wb) := ⟨HBa.out.trans (hb.mono HBa.out.size)⟩
      clear hd hb HRa HBa
      go_wp2_with fail
      refine (of_walk 3 2 _).mono ?_
      rintro e w' ⟨rfl, rfl⟩
      go_wp2_with ((with_reducible refine gate_builtin (b := .append) (xs := #[.tmp 55, .tmp 59]) rfl ?_); at_builtin; refine Kd.R_append kc (w0 := w) w.heap.size rfl (.tmp 55) (.tmp 59) 55 51 (.complex .f64 0 0) 16 rfl Try.underlying55 info51 rfl (by decide) (by omega) _ ([] : List (Nat × Nat)) ((fl 3, fl 2) : Nat × Nat) [.complex .f64 (fl 3) (fl 2)] (fun _ => True) (fun _ => False) rfl rfl ?aP (fun _ hk => hk.elim) ?aF ?aO ?aB ?aS ?aL ?_)
      case aP => exact rfl
      case aF => exact fun _ _ => trivial
      case aO => exact HRb.out
      case aB => exact HBb.out
      case aS => exact HBb.out.size
      case aL => decide
      intro v2 w2 hR hB hg hv
      have HR2 := Aside0.mk hR
      have HB2 := Aside0.mk hB
      clear hR hB hg hv HRb HBb
      go_wp2
      go_roundg 1
      case measure => omega
      case rel => exact .inr (.inl ⟨rfl, rfl, rfl, rfl, HR2, HB2⟩)
    · skip
      obtain ⟨A1, cc1, rfl, hcc, hC⟩ := Kd.R_reads HRr.out
      have HTa := Aside0.mk take52
      have HTb := Aside0.mk take71
      clear hcc hC
      go_wp2_with fail
      refine (num_Take.calls 6 _ _ ([2, 0, 3, 0, 2, 3, 0, 3] : List Int) _ _ _ _ _ _ (Kd.C_below HA.out HBr.out) HC0.out HTa.out).mono ?_
      rintro e wa ⟨rfl, hd⟩
      have hb := hd.below
      have HRa := Aside0.mk (Kd.R_below HRr.out hb)
      have HBa : Aside0 (Below w.heap.size w wa) := ⟨HBr.out.trans (hb.mono HBr.out.size)⟩
      clear hd hb HRr HBr
      go_wp2_with fail
      refine (num_Take.calls 6 _ _ ([2, 0, 3, 0, 2, 3, 0, 3] : List Int) _ _ _ _ _ _ (Kd.C_below HA.out HBa.out) HC0.out HTb.out).mono ?_
      rintro e wb ⟨rfl, hd⟩
      have hb := hd.below
      have HRb := Aside0.mk (Kd.R_below HRa.out hb)
      have HBb : Aside0 (Below w.heap.size w wb) := ⟨HBa.out.trans (hb.mono HBa.out.size)⟩
      clear hd hb HRa HBa
      go_wp2_with fail
      refine (of_walk 3 3 _).mono ?_
      rintro e w' ⟨rfl, rfl⟩
      go_wp2_with ((with_reducible refine gate_builtin (b := .append) (xs := #[.tmp 55, .tmp 59]) rfl ?_); at_builtin; refine Kd.R_append kc (w0 := w) w.heap.size rfl (.tmp 55) (.tmp 59) 55 51 (.complex .f64 0 0) 16 rfl Try.underlying55 info51 rfl (by decide) (by omega) _ [(fl 3, fl 2)] ((fl 3, fl 3) : Nat × Nat) [.complex .f64 (fl 3) (fl 3)] (fun _ => True) (fun _ => False) rfl rfl ?aP (fun _ hk => hk.elim) ?aF ?aO ?aB ?aS ?aL ?_)
      case aP => exact rfl
      case aF => exact fun _ _ => trivial
      case aO => exact HRb.out
      case aB => exact HBb.out
      case aS => exact HBb.out.size
      case aL => decide
      intro v2 w2 hR hB hg hv
      have HR2 := Aside0.mk hR
      have HB2 := Aside0.mk hB
      clear hR hB hg hv HRb HBb
      go_wp2
      go_roundg 0
      case measure => omega
      case rel => exact .inr (.inr ⟨rfl, rfl, rfl, rfl, HR2, HB2⟩)
    · obtain ⟨A1, cc1, rfl, hcc, hC⟩ := Kd.R_reads HRr.out
      have HCR := Aside0.mk (crow_of hC)
      have HCC := Aside0.mk hcc
      clear hcc hC
      go_wp2_with fail
      refine (right4 A1 cc1 _ HCR.out).mono ?_
      rintro e wz ⟨rfl, hb⟩
      have HBz : Aside0 (Below w.heap.size w wz) := ⟨HBr.out.trans (hb.mono HBr.out.size)⟩
      have HCz := Aside0.mk (crow_below HCR.out hb)
      clear hb
      go_wp2
      go_ret3
      exact ⟨A1, cc1, rfl, HCz.out, HCC.out, HBz.out⟩
theorem tasks_self : ∀ x ∈ tasks, (FloatKind.f64.format.order x.1 x.1 == some .eq) = true ∧ (FloatKind.f64.format.order x.2 x.2 == some .eq) = true := by decide +kernel
set_option maxHeartbeats 4000000 in
set_option maxRecDepth 100000 in
theorem shown06_walk (w : World) : Calls Try.prog 22 #[] w fun e w' => e = .returned (.bool true) ∧ Below w.heap.size w w' := by
  have HF3 := Aside0.mk (show (FloatKind.f64.format.order (fl 3) 4613937818241073152 == some .eq) = true by decide +kernel)
  go_enter Try.func22, Try.ntmps22
  go_wp2_with fail
  refine (of_walk 3 2 _).mono ?_
  rintro e w' ⟨rfl, hw⟩
  obtain rfl := hw.symm
  go_wp2_with fail
  refine (on_walk 3 2 (by omega) (by omega) _).mono ?_
  rintro e w' ⟨rfl, hw⟩
  obtain rfl := hw.symm
  go_wp2_with (first | ((with_reducible refine gate_dst (N := 11) rfl ?_); refine Kd.R_lit kc _ 51 ?hg (N := 11) ?hd (xs := tasks) (inner := [.complex .f64 (fl 3) (fl 2), .complex .f64 (fl 3) (fl 3)]) (ok := fun _ => True) (okp := fun _ => True) ?hr ?hp (fun _ hk => hk) trivial (Below.refl _ _) (Nat.le_refl _) (by decide) ?_; (case hd => rfl); (case hg => rfl); (case hr => first | (go_simp; done) | (go_simp; rfl)); (case hp => exact (Reps.one (show Kd.M kc _ _ _ (fl 3, fl 2) [.complex .f64 (fl 3) (fl 2)] from rfl) (Reps.one (show Kd.M kc _ _ _ (fl 3, fl 3) [.complex .f64 (fl 3) (fl 3)] from rfl) (Reps.none _ _)))); intro v11 w1 ho hb hg_ hnew_; have HO := Aside0.mk ho; have HB1 := Aside0.mk hb; clear ho hb hg_ hnew_; obtain ⟨A, c, hv, hc, hC⟩ := Kd.R_reads HO.out; subst hv; have HL1 := Aside0.mk (crow_of hC); have HCC := Aside0.mk hc; clear hc hC) | fail)
  refine (print_walk A c _ HL1.out).mono ?_
  rintro e w2 ⟨v, rfl, hr, hb⟩
  obtain ⟨B, d, rfl, hd, hC⟩ := Kd.R_reads hr
  have HB2 : Aside0 (Below w.heap.size w w2) := ⟨HB1.out.trans (hb.mono HB1.out.size)⟩
  have HL2 := Aside0.mk (crow_below HL1.out hb)
  have HD := Aside0.mk hd
  have HC2 := Aside0.mk hC
  clear hr hb hd hC HL1
  go_wp2_with fail
  refine (parse_walk B d _ HC2.out HD.out).mono ?_
  rintro e w3 ⟨E, f, rfl, hE, hf, hb⟩
  have HB3 : Aside0 (Below w.heap.size w w3) := ⟨HB2.out.trans (hb.mono HB2.out.size)⟩
  have HL3 := Aside0.mk (crow_below HL2.out hb)
  have HE := Aside0.mk hE
  have HEF := Aside0.mk hf
  clear hb hE hf HL2
  obtain ⟨ad, hA, c1⟩ := HL3.out 1 (by decide)
  subst hA
  have c1' : w3.cell? (ad.add 1) = some (.complex .f64 (fl 3) (fl 3)) := c1
  clear c1
  simp only [Nat.reduceMul, Nat.reduceEqDiff, Go.Addr.add, ↓reduceIte] at c1'
  go_wp2_with fail
  refine (place_walk 3 (fl 2) (by omega) _).mono ?_
  rintro e w' ⟨rfl, hw⟩
  obtain rfl := hw.symm
  go_wp2_with fail
  refine (done_walk 2 (fl 3) (by omega) _).mono ?_
  rintro e w' ⟨rfl, hw⟩
  obtain rfl := hw.symm
  go_wp2_with fail
  refine (done_walk 3 (fl 3) (by omega) _).mono ?_
  rintro e w' ⟨rfl, hw⟩
  obtain rfl := hw.symm
  go_wp2_with fail
  refine (same_walk (some ad) E c f tasks _ (by decide) HL3.out HE.out HCC.out HEF.out tasks_self).mono ?_
  rintro e w4 ⟨rfl, q, hw⟩
  have HB4 : Aside0 (Below w.heap.size w w4) := ⟨hw ▸ pw_below_drewN HB3.out q⟩
  have HL4 : Aside0 (CRow w4 (some ad) tasks) := ⟨hw ▸ (HL3.out : CRow (w3.drewN q) (some ad) tasks)⟩
  clear hw
  clear c1' HL3 HE
  go_wp2_with fail
  refine (right4 (some ad) c _ HL4.out).mono ?_
  rintro e w5 ⟨rfl, hb⟩
  have HB5 : Aside0 (Below w.heap.size w w5) := ⟨HB4.out.trans (hb.mono HB4.out.size)⟩
  have HL5 := Aside0.mk (crow_below HL4.out hb)
  clear hb HL4
  go_wp2_with fail
  refine (right3 (some ad) c _ HL5.out).mono ?_
  rintro e w6 ⟨rfl, hb⟩
  have HB6 : Aside0 (Below w.heap.size w w6) := ⟨HB5.out.trans (hb.mono HB5.out.size)⟩
  have hf3 := HF3.out
  clear hb HL5
  go_wp2
  go_ret
  exact ⟨rfl, HB6.out⟩
end Go.Proofs.Ytiklkokjoemokaa.P
end
section
/- TodoOn: a task goes on step by step: the walk. -/
namespace Go.Proofs.Ytiklkokjoemokaa.P
open Go.RowKit Go.Proofs.YtiklkokjoemokaaW.PrintWords Go.Proofs.YtiklkokjoemokaaW.PrintLast Go.Proofs.YtiklkokjoemokaaW.PrintMore
set_option linter.unusedVariables false
set_option linter.unusedSimpArgs false
set_option maxHeartbeats 4000000 in
set_option maxRecDepth 100000 in
theorem todoOn_walk (p k n : Nat) (hp : p < 65536) (hk : k < 256) (hn : n < 256) (w : World) :
    Calls Try.prog 9 #[.int .u16 p, .int .u8 k, .int .u8 n] w fun e w' => e = .returned (.bool true) ∧ Below w.heap.size w w' := by
  have hP : p % 2000 < 2000 := Nat.mod_lt _ (by decide)
  have eP : ((p : Int) % 2000) = ((p % 2000 : Nat) : Int) := by omega
  have HEP := Aside0.mk eP
  have HP := Aside0.mk hP
  clear eP hP
  go_enter Try.func9, Try.ntmps9
  go_wp2_with fail
  refine (shown06_walk _).mono ?_
  rintro e ws ⟨rfl, hb⟩
  have HBs := Aside0.mk hb
  clear hb
  go_wp2_with fail
  rw [HEP.out]
  have HP2 := HP.out
  clear HEP HP
  generalize p % 2000 = P at HP2 ⊢
  have HP := Aside0.mk HP2
  have HSF := Aside0.mk (show (FloatKind.f64.format.order (fl P) (floatOfInt .f64 (P : Int)) == some .eq) = true from by
    have := fl_self P HP2
    rw [show floatOfInt .f64 (P : Int) = fl P from rfl, this]; rfl)
  clear HP2
  refine (of_walk P k _).mono ?_
  rintro e w' ⟨rfl, hw⟩
  obtain rfl := hw.symm
  go_wp2_with fail
  go_loopg [9, 10] n (fun kx t i wr => ∃ j : Nat, i = .int .i64 j ∧ j ≤ n ∧ n - j ≤ kx ∧ t = .complex .f64 (fl P) (fl (k + j)) ∧ ws = wr)
  case atStart => exact ⟨0, rfl, Nat.zero_le _, Nat.le_refl _, rfl, rfl⟩
  case round =>
    obtain ⟨j, rfl, hj, hg, rfl, rfl⟩ := hrel
    by_cases hlt : j < n
    · have d1 : decide ((j : Int) < (n : Int)) = true := decide_eq_true (by omega)
      go_wp2_with fail
      refine (on_walk P (k + j) HP.out (by omega) _).mono ?_
      rintro e w' ⟨rfl, hw⟩
      obtain rfl := hw.symm
      go_wp2
      go_roundg (n - (j + 1))
      case measure => omega
      case rel => exact ⟨j + 1, by simp, by omega, Nat.le_refl _, rfl, rfl⟩
    · obtain rfl : j = n := by omega
      have d1 : decide ((j : Int) < (j : Int)) = false := decide_eq_false (by omega)
      have HSK := Aside0.mk (fl_self (k + j) (by omega))
      have HKJ : Aside0 (k + j < 2000) := ⟨by omega⟩
      have eK : ((k : Int) + (j : Int)) = ((k + j : Nat) : Int) := by omega
      have HEK := Aside0.mk eK
      clear eK
      go_wp2_with (first | ((with_reducible refine gate_dst (N := 29) rfl ?_); refine Kd.R_lit kc _ 51 ?hg (N := 29) ?hd (xs := [(fl P, fl (k + j))]) (inner := [.complex .f64 (fl P) (fl (k + j))]) (ok := fun _ => True) (okp := fun _ => True) ?hr ?hp (fun _ hk => hk) trivial (Below.refl _ _) (Nat.le_refl _) (by simp) ?_; (case hd => rfl); (case hg => rfl); (case hr => first | (go_simp; done) | (go_simp; rfl)); (case hp => exact (Reps.one (show Kd.M kc _ _ _ (fl P, fl (k + j)) [.complex .f64 (fl P) (fl (k + j))] from rfl) (Reps.none _ _))); intro v29 w1 ho hb hg_ hnew_; have HB1 : Aside0 (Below w.heap.size w w1) := ⟨HBs.out.trans (hb.mono HBs.out.size)⟩; have HO := Aside0.mk ho; clear ho hb hg_ hnew_; obtain ⟨A, c, hv, hc, hC⟩ := Kd.R_reads HO.out; subst hv; have HL1 := Aside0.mk (crow_of hC); have HCC := Aside0.mk hc; clear hc hC) | fail)
      rw [HEK.out]
      refine (of_walk P (k + j) _).mono ?_
      rintro e w' ⟨rfl, hw⟩
      obtain rfl := hw.symm
      go_wp2_with (first | ((with_reducible refine gate_dst (N := 37) rfl ?_); refine Kd.R_lit kc _ 51 ?hg (N := 37) ?hd (xs := [(fl P, fl (k + j))]) (inner := [.complex .f64 (fl P) (fl (k + j))]) (ok := fun _ => True) (okp := fun _ => True) ?hr ?hp (fun _ hk => hk) trivial (Below.refl _ _) (Nat.le_refl _) (by simp) ?_; (case hd => rfl); (case hg => rfl); (case hr => first | (go_simp; done) | (go_simp; rfl)); (case hp => exact (Reps.one (show Kd.M kc _ _ _ (fl P, fl (k + j)) [.complex .f64 (fl P) (fl (k + j))] from rfl) (Reps.none _ _))); intro v37 w2 ho hb hg_ hnew_; have HB2 : Aside0 (Below w.heap.size w w2) := ⟨HB1.out.trans (hb.mono HB1.out.size)⟩; have HL2 := Aside0.mk (crow_below HL1.out hb); have HO2 := Aside0.mk ho; clear ho hb hg_ hnew_; obtain ⟨B, d, hv, hc, hC⟩ := Kd.R_reads HO2.out; subst hv; have HM2 := Aside0.mk (crow_of hC); have HDD := Aside0.mk hc; clear hc hC) | fail)
      refine (same_walk A B c d [(fl P, fl (k + j))] _ (by simp) HL2.out HM2.out HCC.out HDD.out (fun x hx => by
        simp only [List.mem_singleton] at hx
        subst hx
        have h1 := fl_self P HP.out
        have h2 := HSK.out
        simp only [h1, h2]
        exact ⟨rfl, rfl⟩)).mono ?_
      rintro e w3 ⟨rfl, q, hw⟩
      have HB3 : Aside0 (Below w.heap.size w w3) := ⟨hw ▸ pw_below_drewN HB2.out q⟩
      clear hw
      go_wp2_with fail
      refine (place_walk P (fl (k + j)) HP.out _).mono ?_
      rintro e w' ⟨rfl, hw⟩
      obtain rfl := hw.symm
      go_wp2_with fail
      refine (done_walk (k + j) (fl P) HKJ.out _).mono ?_
      rintro e w' ⟨rfl, hw⟩
      obtain rfl := hw.symm
      have hsf := HSF.out
      go_wp2
      go_ret
      exact ⟨rfl, HB3.out⟩
def assartlaw06_TodoOn.f (a0 : Int) (a1 : Int) (a2 : Int) : Option Bool := if 0 ≤ a0 ∧ a0 < 65536 ∧ 0 ≤ a1 ∧ a1 < 256 ∧ 0 ≤ a2 ∧ a2 < 256 then some true else none
theorem assartlaw06_TodoOn.calls (a0 : Int) (a1 : Int) (a2 : Int) (r : Bool) (w : World) (h : assartlaw06_TodoOn.f a0 a1 a2 = some r) :
    Calls Try.prog 9 #[.int .u16 a0, .int .u8 a1, .int .u8 a2] w fun e w' => e = .returned (.bool r) ∧ Below w.heap.size w w' := by
  unfold assartlaw06_TodoOn.f at h
  by_cases hc : 0 ≤ a0 ∧ a0 < 65536 ∧ 0 ≤ a1 ∧ a1 < 256 ∧ 0 ≤ a2 ∧ a2 < 256
  · rw [if_pos hc] at h
    obtain rfl := Option.some.inj h
    obtain ⟨p, rfl⟩ := Int.eq_ofNat_of_zero_le hc.1
    obtain ⟨k, rfl⟩ := Int.eq_ofNat_of_zero_le hc.2.2.1
    obtain ⟨n, rfl⟩ := Int.eq_ofNat_of_zero_le hc.2.2.2.2.1
    exact todoOn_walk p k n (by omega) (by omega) (by omega) w
  · rw [if_neg hc] at h
    cases h
end Go.Proofs.Ytiklkokjoemokaa.P
end
section
/- Arguments that read as data, opened kind by kind: what the printed functions ask of their parameters. -/
namespace Go.Proofs.Ytiklkokjoemokaa.P
open Go.RowKit Go.Proofs.YtiklkokjoemokaaW.PrintWords Go.Proofs.YtiklkokjoemokaaW.PrintLast Go.Proofs.YtiklkokjoemokaaW.PrintMore
set_option linter.unusedVariables false
set_option linter.unusedSimpArgs false
/-- Whatever reads at type t is a value of kind d, and such as ok says. -/
structure Opens {α : Type} (P : Program) (t : TypeId) (d : Kd α) (ok : α → Prop) : Prop where
  sz : P.cellsOf t = d.sz
  op : ∀ {H : Type} {enc : TypeId × Value → H} {W : World} {base : Nat} {spare : Nat → Bool} {held : Bool} {fuel : Nat} {cs : List Value} {y : DataW H × List MemPlace}, DataW.trod enc P W base spare held fuel t cs = some y → (DataW.weights P t y.1).all (· ≤ reachBytes) = true → ∃ x, d.K W x cs ∧ ok x
theorem Opens.int {P : Program} {t : TypeId} {k : IntKind} (h : P.underlying t = some (.int k)) (hs : P.cellsOf t = 1) : Opens P t (Kd.int k) (fun n => (Lit.int k n).wf = true) :=
  ⟨hs, fun hy _ => by
    obtain ⟨n, rfl, _, hw⟩ := DataW.trod_int h hy
    exact ⟨n, rfl, hw⟩⟩
theorem Opens.bool {P : Program} {t : TypeId} (h : P.underlying t = some .bool) (hs : P.cellsOf t = 1) : Opens P t Kd.bool (fun _ => True) :=
  ⟨hs, fun hy _ => by
    obtain ⟨b, rfl, _⟩ := DataW.trod_bool h hy
    exact ⟨b, rfl, trivial⟩⟩
theorem Opens.string {P : Program} {t : TypeId} (h : P.underlying t = some .string) (hs : P.cellsOf t = 1) : Opens P t Kd.string (fun s => s.size ≤ 140737488351232) :=
  ⟨hs, fun hy hw => by
    obtain ⟨s, rfl, rfl, _⟩ := DataW.trod_string h hy
    refine ⟨s, rfl, ?_⟩
    have := hw
    simp [DataW.weights, reachBytes] at this
    exact of_decide_eq_true this⟩
theorem choose_row {α : Type} {R : Nat → α → Prop} : ∀ n, (∀ i, i < n → ∃ x, R i x) → ∃ xs : List α, xs.length = n ∧ ∀ i x, xs[i]? = some x → R i x
  | 0, _ => ⟨[], rfl, fun i x h => by simp at h⟩
  | n + 1, h => by
    obtain ⟨xs, hl, hx⟩ := choose_row n (fun i hi => h i (by omega))
    obtain ⟨x, hr⟩ := h n (by omega)
    refine ⟨xs ++ [x], by simp [hl], fun i z hz => ?_⟩
    by_cases hi : i < n
    · rw [List.getElem?_append_left (by omega)] at hz
      exact hx i z hz
    · rw [List.getElem?_append_right (by omega)] at hz
      have : i - xs.length = 0 := by
        rcases Nat.eq_zero_or_pos (i - xs.length) with h0 | h0
        · exact h0
        · rw [List.getElem?_eq_none (by simp; omega)] at hz; cases hz
      rw [this] at hz
      simp at hz
      subst hz
      have : i = n := by omega
      rw [this]; exact hr
theorem weightsAll_mem {H : Type} {P : Program} {e : TypeId} : ∀ {ds : List (DataW H)}, (DataW.weightsAll P e ds).all (· ≤ reachBytes) = true → ∀ d ∈ ds, (DataW.weights P e d).all (· ≤ reachBytes) = true
  | [], _, d, hd => by cases hd
  | a :: ds, h, d, hd => by
    simp only [DataW.weightsAll, List.all_append, Bool.and_eq_true] at h
    rcases List.mem_cons.1 hd with rfl | hd
    · exact h.1
    · exact weightsAll_mem h.2 d hd
theorem Opens.slice {α : Type} {P : Program} {t e : TypeId} {d : Kd α} {ok : α → Prop} {B : Nat} (h : P.underlying t = some (.slice e)) (hs : P.cellsOf t = 1) (hB : P.bytesOf e = B) (he : Opens P e d ok) : Opens P t (Kd.slice e d) (fun xs => xs.length * B ≤ 140737488351232 ∧ ∀ x ∈ xs, ok x) :=
  ⟨hs, fun {H enc W base spare held fuel cs y} hy hw => by
    rcases DataW.trod_slice h hy with ⟨rfl, rfl⟩ | ⟨a, len, cap, elems, rest, n, rfl, rfl, rfl, hb, hl, hc, hel, hi, _, _⟩
    · exact ⟨[], ⟨none, 0, rfl, Nat.le_refl _, Kd.C_nil _ _⟩, by simp⟩
    · unfold DataW.weights at hw
      rw [h] at hw
      simp only [List.all_cons, List.all_append, Bool.and_eq_true, decide_eq_true_eq, hB, List.length_map] at hw
      obtain ⟨hw0, hw1, _⟩ := hw
      have hx : ∀ i, i < len → ∃ x, ok x ∧ ∃ c, c.length = d.sz ∧ d.K W x c ∧ W.cells? base (a.add (i * d.sz)) d.sz = some c := by
        intro i hlt
        have h1 := hi i hlt
        rw [List.getElem?_eq_getElem (by omega)] at h1
        obtain ⟨c, hc1, hc2⟩ := Option.bind_eq_some_iff.1 h1
        obtain ⟨x, hK, hok⟩ := he.op hc2 (weightsAll_mem hw1 _ (List.mem_map_of_mem (List.getElem_mem _)))
        rw [he.sz] at hc1
        exact ⟨x, hok, c, d.K_len hK, hK, hc1⟩
      obtain ⟨xs, hxl, hxs⟩ := choose_row len hx
      refine ⟨xs, ⟨some a, cap, by rw [hxl], by omega, rfl, ?_, fun hpos => ⟨a, rfl, fun j p hj => ?_⟩⟩, ?_, ?_⟩
      · simp only [maxLen] at hc; omega
      · obtain ⟨_, c, hcl, hK, hcc⟩ := hxs j p hj
        refine ⟨c, hcl, hK, fun i u hu => ?_⟩
        obtain ⟨_, _, hcell⟩ := World.cells?_some hcc
        have hi : i < d.sz := by rw [← hcl]; exact (List.getElem?_eq_some_iff.1 hu).1
        have := hcell i hi
        rw [Addr.add_add] at this
        rw [this, hu]
      · rw [hxl, ← hel]
        refine Nat.le_trans (Nat.mul_le_mul_right _ (Nat.le_add_right _ _)) hw0
      · intro x hx
        obtain ⟨i, hlt, rfl⟩ := List.getElem_of_mem hx
        exact (hxs i _ (List.getElem?_eq_getElem hlt)).1⟩
theorem weights_at {H : Type} {P : Program} : ∀ {ts : List TypeId} {ds : List (DataW H)} {j : Nat} {t : TypeId} {d : DataW H}, (DataW.weightsEach P ts ds).all (· ≤ reachBytes) = true → ts[j]? = some t → ds[j]? = some d → (DataW.weights P t d).all (· ≤ reachBytes) = true
  | [], _, _, _, _, _, ht, _ => by simp at ht
  | _ :: _, [], _, _, _, _, _, hd => by simp at hd
  | t0 :: ts, d0 :: ds, 0, _, _, h, ht, hd => by
    simp only [List.getElem?_cons_zero, Option.some.injEq] at ht hd
    subst ht; subst hd
    simp only [DataW.weightsEach, List.all_append, Bool.and_eq_true] at h
    exact h.1
  | t0 :: ts, d0 :: ds, j + 1, _, _, h, ht, hd => by
    simp only [List.getElem?_cons_succ] at ht hd
    simp only [DataW.weightsEach, List.all_append, Bool.and_eq_true] at h
    exact weights_at h.2 ht hd
/-- A struct's fields from a place on. -/
structure OpensFs {α : Type} (P : Program) (fs : List Field) (off : Nat) (d : Kd α) (ok : α → Prop) : Prop where
  op : ∀ {H : Type} {enc : TypeId × Value → H} {W : World} {base : Nat} {spare : Nat → Bool} {held : Bool} {fuel : Nat} {cs : List Value} {ys : List (DataW H × List MemPlace)},
    (∀ (i : Nat) (f : Field), fs[i]? = some f → DataW.trod enc P W base spare held fuel f.type ((cs.drop f.offset).take (P.cellsOf f.type)) = ys[i]?) → ys.length = fs.length →
    (DataW.weightsEach P (fs.map (·.type)) (ys.map (·.1))).all (· ≤ reachBytes) = true → cs.length = off + d.sz → ∃ x, d.K W x (cs.drop off) ∧ ok x
theorem OpensFs.one {α : Type} {P : Program} {f : Field} {t : TypeId} {off : Nat} {d : Kd α} {ok : α → Prop} (ht : f.type = t) (hoff : f.offset = off) (h : Opens P t d ok) : OpensFs P [f] off d ok :=
  ⟨fun {H enc W base spare held fuel cs ys} hy hl hw hcs => by
    obtain ⟨y, rfl⟩ : ∃ y, ys = [y] := by
      cases ys with
      | nil => simp at hl
      | cons y ys => cases ys with
        | nil => exact ⟨y, rfl⟩
        | cons => simp at hl
    have h0 := hy 0 f rfl
    simp only [List.getElem?_cons_zero] at h0
    simp only [List.map_cons, List.map_nil, DataW.weightsEach, List.append_nil] at hw
    rw [ht] at h0 hw
    obtain ⟨x, hK, hok⟩ := h.op h0 hw
    rw [hoff, List.take_of_length_le (by rw [List.length_drop, h.sz]; omega)] at hK
    exact ⟨x, hK, hok⟩⟩
theorem OpensFs.cons {α β : Type} {P : Program} {f : Field} {fs : List Field} {t : TypeId} {off n : Nat} {d : Kd α} {d' : Kd β} {ok : α → Prop} {ok' : β → Prop} (ht : f.type = t) (hoff : f.offset = off) (h : Opens P t d ok) (hn : off + d.sz = n) (hr : OpensFs P fs n d' ok') :
    OpensFs P (f :: fs) off (Kd.pair d d') (fun x => ok x.1 ∧ ok' x.2) :=
  ⟨fun {H enc W base spare held fuel cs ys} hy hl hw hcs => by
    cases ys with
    | nil => simp at hl
    | cons y ys =>
      have h0 := hy 0 f rfl
      simp only [List.getElem?_cons_zero] at h0
      simp only [List.map_cons, DataW.weightsEach, List.all_append, Bool.and_eq_true] at hw
      have hw0 := hw.1
      rw [ht] at h0 hw0
      obtain ⟨x, hK, hok⟩ := h.op h0 hw0
      have hsz : (Kd.pair d d').sz = d.sz + d'.sz := rfl
      rw [hsz] at hcs
      obtain ⟨x', hK', hok'⟩ := hr.op (fun i g hg => hy (i + 1) g (by simpa using hg)) (by simpa using hl) hw.2 (by omega)
      refine ⟨(x, x'), ⟨_, _, ?_, hK, hK'⟩, hok, hok'⟩
      rw [hoff, h.sz, ← hn, ← List.drop_drop]
      exact (List.take_append_drop _ _).symm⟩
theorem Opens.struct {α β : Type} {P : Program} {t : TypeId} {fs : Array Field} {fl : List Field} {d : Kd α} {ok : α → Prop} (f : β → α) (g : α → β) (hfg : ∀ x, f (g x) = x) (h : P.underlying t = some (.struct fs)) (hfl : fs.toList = fl) (hs : P.cellsOf t = d.sz) (ho : OpensFs P fl 0 d ok) :
    Opens P t (Kd.iso d f) (fun x => ok (f x)) :=
  ⟨hs, fun {H enc W base spare held fuel cs y} hy hw => by
    obtain ⟨xs, n, rfl, rfl, hcl, hxl, hx⟩ := DataW.trod_struct h hy
    unfold DataW.weights at hw
    rw [h] at hw
    simp only [hfl] at hw
    subst hfl
    obtain ⟨x, hK, hok⟩ := ho.op (ys := xs) (fun i f hf => hx i f (by simpa using hf)) (by simpa using hxl) hw (by omega)
    rw [List.drop_zero] at hK
    refine ⟨g x, ?_, ?_⟩
    · show d.K W (f (g x)) cs
      rw [hfg]; exact hK
    · rw [hfg]; exact hok⟩
end Go.Proofs.Ytiklkokjoemokaa.P
end
section
namespace Go.Proofs.Ytiklkokjoemokaa.P
open Go.RowKit Go.Proofs.YtiklkokjoemokaaW.PrintWords Go.Proofs.YtiklkokjoemokaaW.PrintLast Go.Proofs.YtiklkokjoemokaaW.PrintMore
attribute [local go_sem] max2_int min2_int max_two min_two max_three min_three max_four min_four
set_option linter.unusedVariables false
set_option linter.unusedSimpArgs false

def assartlaw06_TodoOn.QPure : Prop := ∀ (a0 : Int) (a1 : Int) (a2 : Int), ((Lit.int .u16 a0).wf = true) → ((Lit.int .u8 a1).wf = true) → ((Lit.int .u8 a2).wf = true) → assartlaw06_TodoOn.f a0 a1 a2 = some true
end Go.Proofs.Ytiklkokjoemokaa.P
end
section
/- TodoOn: a task goes on step by step: behind k steps it is the task of its place with k more; both parts, one by one, are what it was made of. -/
namespace Go.Proofs.Ytiklkokjoemokaa.Pure
open Go.RowKit Go.Proofs.Ytiklkokjoemokaa.P Go.Proofs.YtiklkokjoemokaaW.PrintWords Go.Proofs.YtiklkokjoemokaaW.PrintLast

theorem TodoOn : assartlaw06_TodoOn.QPure := by
  intro a b c ha hb hc
  simp [Lit.wf, IntKind.min, IntKind.max, IntKind.signed, IntKind.bits] at ha hb hc
  unfold assartlaw06_TodoOn.f
  rw [if_pos]
  omega
end Go.Proofs.Ytiklkokjoemokaa.Pure
end
section
namespace Go.Proofs.Ytiklkokjoemokaa.todoOn
open Go.ChangeShapes Go.WideShapes Go.ChangeAt Go.RowKit Go.Proofs.Ytiklkokjoemokaa.P Go.Proofs.YtiklkokjoemokaaW.PrintWords Go.Proofs.YtiklkokjoemokaaW.PrintLast Go.Proofs.YtiklkokjoemokaaW.PrintMore
open Go.ChangeMaps (open_string shut_string)
set_option linter.unusedVariables false
set_option linter.unusedSimpArgs false
theorem own : ownKnob Try.prog.godebug = none := by kernel_rfl
theorem laidOut : laidOutB Try.prog = true := by kernel_rfl
set_option maxHeartbeats 1000000 in
set_option maxRecDepth 100000 in
theorem lifted (os : Os) (started : os.Started) (H : Type) (enc : TypeId × Value → H) :
    ReturnsInHanded {} Try.checked os 9 .any (Rows.todoOnSpec.pre6 enc Try.prog Try.f9 Rows.todoOnRow.domain false) (Rows.todoOnSpec.post enc Try.prog Try.f9 false true false false) := by
  refine returnsInHanded_of_change_sized (C := Try.checked) own started (by kernel_rfl) Try.func9
    (ChangeSpec.witness6 (enc := enc) (C := Try.checked) false ⟨#[], #[.int .u16 0, .int .u8 0, .int .u8 0], []⟩ 8 (by kernel_rfl) (by kernel_rfl) (by kernel_rfl) (by kernel_rfl)) ?_
  intro W base args ds gs before hval0 hW hcnd hsz0 _
  have hsz : (DataW.weightsEach Try.prog (Try.f9.params.toList ++ Rows.todoOnSpec.plain.varTypes Try.prog) (ds ++ gs)).all (· ≤ reachBytes) = true := hsz0
  have hval : ∀ (j : Nat) t v, Try.f9.params[j]? = some t → args[j]? = some v → Value.okWide Try.prog W .any base t v := hval0
  have hW' := hW
  obtain ⟨p, q, hA0, hV, rfl, hfz, hnd⟩ := hW
  have hA : DataW.TrodAll enc Try.prog W 0 (fun _ => true) true Try.f9.params.toList args.toList ds p := hA0
  rw [Try.params9] at hA hval hsz
  obtain ⟨v0, vs0, d0, ds0, p0, q0, hargs, rfl, rfl, h0, r0⟩ := trodAll_cons hA
  obtain ⟨v1, vs1, d1, ds1, p1, q1, rfl, rfl, rfl, h1, r1⟩ := trodAll_cons r0
  obtain ⟨v2, vs2, d2, ds2, p2, q2, rfl, rfl, rfl, h2, r2⟩ := trodAll_cons r1
  obtain ⟨rfl, rfl, rfl⟩ := trodAll_nil r2
  obtain rfl : args = #[v0, v1, v2] := by cases args; simp_all
  obtain ⟨rfl, rfl⟩ := trodVars_none hV
  have k0 := h0
  have lt0 : ∀ x ∈ p0, x.block < W.heap.size := by obtain ⟨m, hm⟩ := k0; exact DataW.trod_lt m _ _ _ hm
  have wt0 := weights_at hsz (j := 0) (t := 47) (d := d0) rfl rfl
  obtain ⟨a0, rfl, _, _, o0⟩ := open_int Try.underlying47 (hval 0 47 v0 rfl rfl) h0
  have k1 := h1
  have lt1 : ∀ x ∈ p1, x.block < W.heap.size := by obtain ⟨m, hm⟩ := k1; exact DataW.trod_lt m _ _ _ hm
  have wt1 := weights_at hsz (j := 1) (t := 5) (d := d1) rfl rfl
  obtain ⟨a1, rfl, _, _, o1⟩ := open_int Try.underlying5 (hval 1 5 v1 rfl rfl) h1
  have k2 := h2
  have lt2 : ∀ x ∈ p2, x.block < W.heap.size := by obtain ⟨m, hm⟩ := k2; exact DataW.trod_lt m _ _ _ hm
  have wt2 := weights_at hsz (j := 2) (t := 5) (d := d2) rfl rfl
  obtain ⟨a2, rfl, _, _, o2⟩ := open_int Try.underlying5 (hval 2 5 v2 rfl rfl) h2
  clear hA0 hval0 hsz0 hsz
  have h := Pure.TodoOn a0 a1 a2 o0 o1 o2
  refine (assartlaw06_TodoOn.calls a0 a1 a2 true W h).mono fun e W' ⟨he, bel0⟩ => ?_
  have bel := bel0
  subst he
  exact ⟨_, rfl, _, _, _, [], _, [], hW', trodAll_mk1 (shut_bool Try.underlying4 _), (trodAll_cons_mk (Below.trod laidOut (by kernel_rfl) (of_decide_eq_true (by kernel_rfl)) k0 bel lt0) (trodAll_cons_mk (Below.trod laidOut (by kernel_rfl) (of_decide_eq_true (by kernel_rfl)) k1 bel lt1) (trodAll_cons_mk (Below.trod laidOut (by kernel_rfl) (of_decide_eq_true (by kernel_rfl)) k2 bel lt2) trodAll_mk0))), rfl, bel.frame _, fun h => by cases h⟩
theorem over : Rows.todoOnRow.holds Try.pinned (OpenSpec.ofChange Rows.todoOnSpec) :=
  OpenClaim.holds_of_wide 9 Try.f9 rfl rfl rfl rfl rfl rfl rfl ⟨rfl, rfl, rfl, rfl, rfl⟩ rfl rfl rfl rfl rfl (by kernel_rfl) Try.func9 (by kernel_rfl)
    (of_decide_eq_true (by kernel_rfl)) (by unfold Func.isWrapper; first | (rw [if_pos (by decide +kernel)]; kernel_rfl) | (rw [if_neg (by decide +kernel)]; exact ⟨rfl, rfl⟩))
    (fun os started H enc _ => lifted os started H enc)
theorem proved : Rows.TodoOnSaid := over
#print axioms proved
end Go.Proofs.Ytiklkokjoemokaa.todoOn
namespace Go.Proofs.Ytiklkokjoemokaa
/-- The row, under a short name, for the claim. -/
theorem todoOn_holds : Rows.TodoOnSaid := todoOn.proved
end Go.Proofs.Ytiklkokjoemokaa
end
