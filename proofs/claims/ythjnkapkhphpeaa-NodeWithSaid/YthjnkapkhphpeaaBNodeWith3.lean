/- Texts of this claim's proof put together: F13. -/
import Derived.Test.YthjnkapkhphpeaaBNodeWith0
import Derived.Test.YthjnkapkhphpeaaBNodeWith2
section
namespace Go.Proofs.Ythjnkapkhphpeaa.P
open Go.RowKit Go.Proofs.YthjnkapkhphpeaaW.PrintWords Go.Proofs.YthjnkapkhphpeaaW.PrintLast Go.Proofs.YthjnkapkhphpeaaW.PrintMore
attribute [local go_sem] max2_int min2_int max_two min_two max_three min_three max_four min_four
set_option linter.unusedVariables false
set_option linter.unusedSimpArgs false

/-! ### assartlaw04_NodeWith: function 13 -/
mutual
def assartlaw04_NodeWith.j0 : Nat → List (S78) → Int → Int → List (S78) → Bool → Bool → Option (Bool)
  | 0, _, _, _, _, _, _ => none
  | k + 1, x3, x4, x5, x6, x7, x28 => if x28 = true then (some x7) else (if (wrap64 ((x3.length : Int) + 1)) = 0 then (none) else (if (wrap64 ((wrap64 ((x3.length : Int) - (Int.tmod (wrap64 (x4)) (wrap64 ((x3.length : Int) + 1))))) + 1)) = 0 then (none) else ((node_With.f x3 (Int.tmod (wrap64 (x4)) (wrap64 ((x3.length : Int) + 1))) (Int.tmod (wrap64 (x5)) (wrap64 ((wrap64 ((x3.length : Int) - (Int.tmod (wrap64 (x4)) (wrap64 ((x3.length : Int) + 1))))) + 1))) x6).bind fun t431 => (if (t431.length : Int) = (wrap64 ((wrap64 ((x3.length : Int) - (Int.tmod (wrap64 (x5)) (wrap64 ((wrap64 ((x3.length : Int) - (Int.tmod (wrap64 (x4)) (wrap64 ((x3.length : Int) + 1))))) + 1))))) + (x6.length : Int))) then ((node_With.f x3 (Int.tmod (wrap64 (x4)) (wrap64 ((x3.length : Int) + 1))) 0 ([] : List (S78))).bind fun t434 => ((assartref04_Items.f k t434 x3).bind fun t437 => (assartlaw04_NodeWith.j1 k x3 x6 x7 (Int.tmod (wrap64 (x4)) (wrap64 ((x3.length : Int) + 1))) (Int.tmod (wrap64 (x5)) (wrap64 ((wrap64 ((x3.length : Int) - (Int.tmod (wrap64 (x4)) (wrap64 ((x3.length : Int) + 1))))) + 1))) t431 (!t437)))) else (assartlaw04_NodeWith.j1 k x3 x6 x7 (Int.tmod (wrap64 (x4)) (wrap64 ((x3.length : Int) + 1))) (Int.tmod (wrap64 (x5)) (wrap64 ((wrap64 ((x3.length : Int) - (Int.tmod (wrap64 (x4)) (wrap64 ((x3.length : Int) + 1))))) + 1))) t431 true)))))
def assartlaw04_NodeWith.j1 : Nat → List (S78) → List (S78) → Bool → Int → Int → List (S78) → Bool → Option (Bool)
  | 0, _, _, _, _, _, _, _ => none
  | k + 1, x3, x6, x7, x8, x9, x10, x66 => if x66 = true then (some false) else (if 0 ≤ x8 then (if x8 ≤ (wrap64 (x8 + x9)) then (if (wrap64 (x8 + x9)) ≤ (x3.length : Int) then ((node_With.f x10 x8 (x6.length : Int) ((x3.take ((wrap64 (x8 + x9)) : Int).toNat).drop (x8 : Int).toNat)).bind fun t442 => (if x7 = true then ((assartref04_Items.f k t442 x3).bind fun t445 => (if t445 = true then (if x8 ≤ (x10.length : Int) then (if x8 ≤ (x3.length : Int) then ((assartref04_Items.f k (x10.take (x8 : Int).toNat) (x3.take (x8 : Int).toNat)).bind fun t454 => (if t454 = true then (if x8 ≤ (wrap64 (x8 + (x6.length : Int))) then (if (wrap64 (x8 + (x6.length : Int))) ≤ (x10.length : Int) then ((assartref04_Items.f k ((x10.take ((wrap64 (x8 + (x6.length : Int))) : Int).toNat).drop (x8 : Int).toNat) x6).bind fun t459 => (if t459 = true then (if 0 ≤ (wrap64 (x8 + (x6.length : Int))) then (if 0 ≤ (wrap64 (x8 + x9)) then ((assartref04_Items.f k (x10.drop ((wrap64 (x8 + (x6.length : Int))) : Int).toNat) (x3.drop ((wrap64 (x8 + x9)) : Int).toNat)).bind fun t468 => (some t468)) else (none)) else (none)) else (some false))) else (none)) else (none)) else (some false))) else (none)) else (none)) else (some false))) else (some false))) else (none)) else (none)) else (none))
end
def assartlaw04_NodeWith.f (k : Nat) (l0_0 : List (S78)) (a0_1 : Int) (a0_2 : Int) (l0_3 : List (S78)) : Option (Bool) := (assartlaw04_shown.f).bind fun t430 => (if (l0_0.length : Int) > 20 then (assartlaw04_NodeWith.j0 k l0_0 a0_1 a0_2 l0_3 t430 true) else (assartlaw04_NodeWith.j0 k l0_0 a0_1 a0_2 l0_3 t430 (decide ((l0_3.length : Int) > 20))))
theorem assartlaw04_NodeWith.mono_l : ∀ k, (∀ y0 y1 y2 y3 y4 y5, LeO (assartlaw04_NodeWith.j0 k y0 y1 y2 y3 y4 y5) (assartlaw04_NodeWith.j0 (k + 1) y0 y1 y2 y3 y4 y5)) ∧ (∀ y0 y1 y2 y3 y4 y5 y6, LeO (assartlaw04_NodeWith.j1 k y0 y1 y2 y3 y4 y5 y6) (assartlaw04_NodeWith.j1 (k + 1) y0 y1 y2 y3 y4 y5 y6))
  | 0 => ⟨fun _ _ _ _ _ _ r h => by simp [assartlaw04_NodeWith.j0] at h, fun _ _ _ _ _ _ _ r h => by simp [assartlaw04_NodeWith.j1] at h⟩
  | k + 1 => by
    obtain ⟨ih0, ih1⟩ := assartlaw04_NodeWith.mono_l k
    refine ⟨?_, ?_⟩
    · intro y0 y1 y2 y3 y4 y5
      unfold assartlaw04_NodeWith.j0
      repeat' first
      | (with_reducible exact ih0 _ _ _ _ _ _)
      | (with_reducible exact ih1 _ _ _ _ _ _ _)
      | (with_reducible exact assartref04_Items.mono _ _ _)
      | (with_reducible exact LeO.refl _)
      | (with_reducible exact LeO.none _)
      | (with_reducible refine LeO.ite ?_ ?_)
      | (with_reducible refine LeO.bind ?_ (fun _ => ?_))
      | exact ih0 _ _ _ _ _ _
      | exact ih1 _ _ _ _ _ _ _
      | exact assartref04_Items.mono _ _ _
      | exact LeO.none _
      | refine LeO.ite ?_ ?_
      | refine LeO.bind ?_ (fun _ => ?_)
    · intro y0 y1 y2 y3 y4 y5 y6
      unfold assartlaw04_NodeWith.j1
      repeat' first
      | (with_reducible exact ih0 _ _ _ _ _ _)
      | (with_reducible exact ih1 _ _ _ _ _ _ _)
      | (with_reducible exact assartref04_Items.mono _ _ _)
      | (with_reducible exact LeO.refl _)
      | (with_reducible exact LeO.none _)
      | (with_reducible refine LeO.ite ?_ ?_)
      | (with_reducible refine LeO.bind ?_ (fun _ => ?_))
      | exact ih0 _ _ _ _ _ _
      | exact ih1 _ _ _ _ _ _ _
      | exact assartref04_Items.mono _ _ _
      | exact LeO.none _
      | refine LeO.ite ?_ ?_
      | refine LeO.bind ?_ (fun _ => ?_)
theorem assartlaw04_NodeWith.mono : ∀ a0 a1 a2 a3 k, LeO (assartlaw04_NodeWith.f k a0 a1 a2 a3) (assartlaw04_NodeWith.f (k + 1) a0 a1 a2 a3) := by
  intro a0 a1 a2 a3 k
  obtain ⟨ih0, ih1⟩ := assartlaw04_NodeWith.mono_l k
  unfold assartlaw04_NodeWith.f
  repeat' first
      | (with_reducible exact ih0 _ _ _ _ _ _)
      | (with_reducible exact ih1 _ _ _ _ _ _ _)
      | (with_reducible exact assartref04_Items.mono _ _ _)
      | (with_reducible exact LeO.refl _)
      | (with_reducible exact LeO.none _)
      | (with_reducible refine LeO.ite ?_ ?_)
      | (with_reducible refine LeO.bind ?_ (fun _ => ?_))
      | exact ih0 _ _ _ _ _ _
      | exact ih1 _ _ _ _ _ _ _
      | exact assartref04_Items.mono _ _ _
      | exact LeO.none _
      | refine LeO.ite ?_ ?_
      | refine LeO.bind ?_ (fun _ => ?_)
def assartlaw04_NodeWith.T14 : Bool × List (List Nat × List Nat) := (true, [([], []), ([0], [0]), ([1], [1]), ([1], [1]), ([2, 3, 1, 1], [1, 2, 3]), ([1, 4], [1, 4]), ([5, 4], [5]), ([6], [6]), ([6], [6]), ([7, 8, 6], [6, 7, 8]), ([6], [6]), ([6], [6]), ([10, 11, 6], [6, 10, 11]), ([9, 12, 6, 6], [6, 9, 12]), ([6, 13], [6, 13]), ([14, 13], [14]), ([15], [15]), ([15], [15]), ([15], [15]), ([15], [15]), ([19, 15], [15, 19]), ([18, 20, 15], [15, 18, 20]), ([16, 17, 21, 15], [15, 16, 17, 21]), ([15], [15]), ([22, 23, 15, 15], [15, 22, 23]), ([15, 24], [15, 24]), ([25, 24], [25]), ([26], [26]), ([26], [26]), ([26], [26]), ([29, 26], [26, 29]), ([28, 30, 26], [26, 28, 30]), ([27, 31, 26], [26, 27, 31]), ([26], [26]), ([26], [26]), ([26], [26]), ([34, 35, 26], [26, 34, 35]), ([33, 36, 26], [26, 33, 36]), ([32, 37, 26, 26], [26, 32, 37]), ([26, 38], [26, 38]), ([39, 38, 0, 1, 2, 3, 4, 5, 6, 7, 8, 9, 10, 11, 12, 13, 14, 15, 16, 17, 18, 19, 20, 21, 22, 23, 24, 25, 26, 27, 28, 29, 30, 31, 32, 33, 34, 35, 36, 37, 38, 39], [39])])
def assartlaw04_NodeWith.B14 : List Nat := [0, 1, 3, 3, 15, 31, 63, 127, 127, 511, 127, 127, 3199, 8191, 16383, 32767, 65535, 65535, 65535, 65535, 589823, 1900543, 4194303, 65535, 16777215, 33554431, 67108863, 134217727, 134217727, 134217727, 671088639, 2013265919, 4294967295, 134217727, 134217727, 134217727, 51673825279, 128983236607, 274877906943, 549755813887, 1099511627775]
theorem assartlaw04_NodeWith.tab14 : rtab .any (opsOf Try.f13 14) = assartlaw04_NodeWith.T14 := by kernel_rfl
theorem assartlaw04_NodeWith.bits14 : waitsOk assartlaw04_NodeWith.T14.2 assartlaw04_NodeWith.B14 = true := by kernel_rfl
set_option maxHeartbeats 8000000 in
set_option maxRecDepth 100000 in
theorem assartlaw04_NodeWith.calls (k : Nat) (A0_0 : Option Addr) (c0_0 : Nat) (l0_0 : List (S78)) (a0_1 : Int) (a0_2 : Int) (A0_3 : Option Addr) (c0_3 : Nat) (l0_3 : List (S78)) (r : Bool) (w : World) (hr0_0 : Kd.C k78 w A0_0 l0_0.length l0_0) (hc0_0 : l0_0.length ≤ c0_0) (hr0_3 : Kd.C k78 w A0_3 l0_3.length l0_3) (hc0_3 : l0_3.length ≤ c0_3) (h : assartlaw04_NodeWith.f k l0_0 a0_1 a0_2 l0_3 = some r) :
    Calls Try.prog 13 #[.agg #[.slice A0_0 l0_0.length c0_0, .int .u8 a0_1, .int .u8 a0_2, .slice A0_3 l0_3.length c0_3]] w fun e w' => e = .returned (.bool r) ∧ Below w.heap.size w w' := by
  have hu81 := Try.underlying81
  have HR0_0 := Aside0.mk hr0_0
  have HC0_0 := Aside0.mk hc0_0
  clear hr0_0 hc0_0
  have HR0_3 := Aside0.mk hr0_3
  have HC0_3 := Aside0.mk hc0_3
  clear hr0_3 hc0_3
  have HB := Aside0.mk (Below.refl w.heap.size w)
  have H : ((assartlaw04_shown.f).bind fun t430 => (if (l0_0.length : Int) > 20 then (assartlaw04_NodeWith.j0 k l0_0 a0_1 a0_2 l0_3 t430 true) else (assartlaw04_NodeWith.j0 k l0_0 a0_1 a0_2 l0_3 t430 (decide ((l0_3.length : Int) > 20))))) = some r := h
  clear h
  replace H := Option.bind_eq_some_iff.mp H
  obtain ⟨t430, A20, H⟩ := H
  replace H : (if (l0_0.length : Int) > 20 then (assartlaw04_NodeWith.j0 k l0_0 a0_1 a0_2 l0_3 t430 true) else (assartlaw04_NodeWith.j0 k l0_0 a0_1 a0_2 l0_3 t430 (decide ((l0_3.length : Int) > 20)))) = some r := H
  have A2 := Aside0.mk A20
  clear A20
  have HC3 := Aside0.mk H
  clear H
  go_enter Try.func13, Try.ntmps13
  go_upto_region 6 with (first | ((with_reducible refine gate_dst (N := 1) rfl ?_); (try (refine gate_guard (by rfl) ?_; dsimp only)); refine box_event ?hg (N := 1) ?hd (cs := #[.slice A0_0 l0_0.length c0_0, .int .u8 a0_1, .int .u8 a0_2, .slice A0_3 l0_3.length c0_3]) (t := 81) ?hr ?_; (case hd => rfl); (case hg => rfl); (case hr => first | (go_simp; done) | (go_simp; rfl)); intro gb429 hg w4 hbox hb; have n0 := Aside0.mk (below_step (by repeat (first | (with_reducible first | exact HB.out | apply below_alloc | apply pw_below_drewN | apply below_drew1) | exact HB.out)) hb); have n1 := Aside0.mk (hbox); have n2 := Aside0.mk ((by rw [hg]; exact (below_size (by repeat (first | (with_reducible first | exact HB.out | apply below_alloc | apply pw_below_drewN | apply below_drew1) | exact HB.out))) : w.heap.size ≤ gb429)); have n3 := Aside0.mk ((by rw [hg]; exact (below_size (by repeat (first | (with_reducible first | exact HB.out | apply below_alloc | apply pw_below_drewN | apply below_drew1) | exact HB.out))) : w.heap.size ≤ gb429)); clear HB; have HB := n0; have BK429 := n1; have GW429 := n2; have GE429 := n3; clear n0 n1 n2 n3; clear hb hbox hg; have hcz5_0 : w4.cell? ⟨gb429, 0, none⟩ = some (.slice A0_0 l0_0.length c0_0) := (blk_cell BK429.out 0).trans rfl; have hcz5_1 : w4.cell? ⟨gb429, 1, none⟩ = some (.int .u8 a0_1) := (blk_cell BK429.out 1).trans rfl; have hcz5_2 : w4.cell? ⟨gb429, 2, none⟩ = some (.int .u8 a0_2) := (blk_cell BK429.out 2).trans rfl; have hcz5_3 : w4.cell? ⟨gb429, 3, none⟩ = some (.slice A0_3 l0_3.length c0_3) := (blk_cell BK429.out 3).trans rfl; have hfz5_0 := blk_frozen BK429.out 0; have hfz5_1 := blk_frozen BK429.out 1; have hfz5_2 := blk_frozen BK429.out 2; have hfz5_3 := blk_frozen BK429.out 3) | ((with_reducible refine gate_callee (f := 26) rfl ?_); refine goesL_ (some 20) rfl rfl Try.func26 (by kernel_rfl) rfl #[] rfl (by (try simp only [List.map_toArray, List.map_cons, List.map_nil]); first | done | rfl | (simp only [List.length_drop, List.length_take]; rfl)) ?_; (with_reducible refine (assartlaw04_shown.calls  t430 _ A2.out).mono ?_); rintro e w6 ⟨rfl, hb⟩; refine ⟨_, rfl, ?_⟩; have n0 := Aside0.mk (blk_below (g := gb429) (o := .cells #[.slice A0_0 l0_0.length c0_0, .int .u8 a0_1, .int .u8 a0_2, .slice A0_3 l0_3.length c0_3] 81 (0, 0)) (by (with_reducible repeat (first | refine blk_drewN ?_ _ | refine blk_drew ?_ | refine blk_alloc ?_ _)); exact BK429.out) hb); have n1 := Aside0.mk (below_step (by repeat (first | (with_reducible first | exact HB.out | apply below_alloc | apply pw_below_drewN | apply below_drew1 | refine below_set ?_ GE429.out) | exact HB.out)) hb); clear BK429; clear HB; have BK429 := n0; have HB := n1; clear n0 n1; (try clear hb); (try clear hb2); (try clear hk); (try clear hi)))
  (try simp only [Act.put, List.setIfInBounds_toArray, List.set_cons_zero, List.set_cons_succ])
  go_cut [28] (fun v28 wc => ∃ (kq : Nat) (x28_2 : Bool), v28 = .bool x28_2 ∧ Aside0 (assartlaw04_NodeWith.j0 kq l0_0 a0_1 a0_2 l0_3 t430 x28_2 = some r) ∧ Aside0 (kq ≤ k) ∧ Aside0 (wc.heap[gb429]? = some (.cells #[(.slice A0_0 l0_0.length c0_0), .int .u8 a0_1, .int .u8 a0_2, (.slice A0_3 l0_3.length c0_3)] 81 (0, 0))) ∧ Aside0 (Below w.heap.size w wc))
  case first =>
    have H := HC3.out
    clear HC3
    by_cases c7 : (l0_0.length : Int) > 20
    · rw [if_pos c7] at H
      have c7b0 : decide (20 < (l0_0.length : Int)) = true := decide_eq_true c7
      have c7b1 : decide (20 < l0_0.length) = true := decide_eq_true (by omega)
      clear c7
      (first | rw [c7b0] | (simp only [i64_w, i32_w]; rw [c7b0]) | skip)
      have H' := Aside0.mk H
      clear H
      go_wp2
      go_meet
      case rel => exact ⟨_, (true), (by first | rfl | (simp; done) | (simp [*]; done)), H', ⟨by first | omega | exact Nat.le_refl _⟩, ⟨by (with_reducible repeat (first | refine blk_drewN ?_ _ | refine blk_drew ?_ | refine blk_alloc ?_ _)); exact BK429.out⟩, ⟨by repeat (first | (with_reducible first | exact HB.out | apply below_alloc | apply pw_below_drewN | apply below_drew1 | refine below_set ?_ GE429.out) | exact HB.out)⟩⟩
    · rw [if_neg c7] at H
      have c7b0 : decide (20 < (l0_0.length : Int)) = false := decide_eq_false c7
      have c7b1 : decide (20 < l0_0.length) = false := decide_eq_false (by omega)
      clear c7
      (first | rw [c7b0] | (simp only [i64_w, i32_w]; rw [c7b0]) | skip)
      have H' := Aside0.mk H
      clear H
      go_wp2
      go_meet
      case rel => exact ⟨_, (decide ((l0_3.length : Int) > 20)), (by first | rfl | (simp; done) | (simp [*]; done)), H', ⟨by first | omega | exact Nat.le_refl _⟩, ⟨by (with_reducible repeat (first | refine blk_drewN ?_ _ | refine blk_drew ?_ | refine blk_alloc ?_ _)); exact BK429.out⟩, ⟨by repeat (first | (with_reducible first | exact HB.out | apply below_alloc | apply pw_below_drewN | apply below_drew1 | refine below_set ?_ GE429.out) | exact HB.out)⟩⟩
  case rest =>
    clear HC3
    try clear c1
    try clear c2
    try clear p2
    try clear c7
    try clear c7b0
    try clear c7b1
    try clear hcz5_0
    try clear hcz5_1
    try clear hcz5_2
    try clear hcz5_3
    try clear hfz5_0
    try clear hfz5_1
    try clear hfz5_2
    try clear hfz5_3
    obtain ⟨kq, x28_2, rfl, HA, HJ2, BK429, HB⟩ := hcut
    cases kq with
    | zero => exact absurd HA.out (by simp [assartlaw04_NodeWith.j0])
    | succ kj2 =>
      have H := HA.out
      clear HA
      simp only [assartlaw04_NodeWith.j0] at H
      by_cases c8 : x28_2 = true
      · subst c8
        have H1 : (some t430) = some r := by rw [if_pos rfl] at H; exact H
        clear H
        have H := H1
        clear H1
        obtain rfl := Option.some.inj H
        go_wp2
        go_ret
        exact ⟨by first | rfl | (simp [errW_none, errW_some] <;> rfl) | (simp [*, errW_none, errW_some] <;> rfl), by repeat (first | (with_reducible first | exact HB.out | apply below_alloc | apply pw_below_drewN | apply below_drew1 | refine below_set ?_ GE429.out) | exact HB.out)⟩
      · replace c8 := Bool.eq_false_iff.mpr c8
        subst c8
        have H1 : (if (wrap64 ((l0_0.length : Int) + 1)) = 0 then (none) else (if (wrap64 ((wrap64 ((l0_0.length : Int) - (Int.tmod (wrap64 (a0_1)) (wrap64 ((l0_0.length : Int) + 1))))) + 1)) = 0 then (none) else ((node_With.f l0_0 (Int.tmod (wrap64 (a0_1)) (wrap64 ((l0_0.length : Int) + 1))) (Int.tmod (wrap64 (a0_2)) (wrap64 ((wrap64 ((l0_0.length : Int) - (Int.tmod (wrap64 (a0_1)) (wrap64 ((l0_0.length : Int) + 1))))) + 1))) l0_3).bind fun t431 => (if (t431.length : Int) = (wrap64 ((wrap64 ((l0_0.length : Int) - (Int.tmod (wrap64 (a0_2)) (wrap64 ((wrap64 ((l0_0.length : Int) - (Int.tmod (wrap64 (a0_1)) (wrap64 ((l0_0.length : Int) + 1))))) + 1))))) + (l0_3.length : Int))) then ((node_With.f l0_0 (Int.tmod (wrap64 (a0_1)) (wrap64 ((l0_0.length : Int) + 1))) 0 ([] : List (S78))).bind fun t434 => ((assartref04_Items.f kj2 t434 l0_0).bind fun t437 => (assartlaw04_NodeWith.j1 kj2 l0_0 l0_3 t430 (Int.tmod (wrap64 (a0_1)) (wrap64 ((l0_0.length : Int) + 1))) (Int.tmod (wrap64 (a0_2)) (wrap64 ((wrap64 ((l0_0.length : Int) - (Int.tmod (wrap64 (a0_1)) (wrap64 ((l0_0.length : Int) + 1))))) + 1))) t431 (!t437)))) else (assartlaw04_NodeWith.j1 kj2 l0_0 l0_3 t430 (Int.tmod (wrap64 (a0_1)) (wrap64 ((l0_0.length : Int) + 1))) (Int.tmod (wrap64 (a0_2)) (wrap64 ((wrap64 ((l0_0.length : Int) - (Int.tmod (wrap64 (a0_1)) (wrap64 ((l0_0.length : Int) + 1))))) + 1))) t431 true))))) = some r := by rw [if_neg (show ¬ (false = true) by decide)] at H; exact H
        clear H
        have H := H1
        clear H1
        by_cases c9 : (wrap64 ((l0_0.length : Int) + 1)) = 0
        · rw [if_pos c9] at H
          exact absurd H (by simp)
        · rw [if_neg c9] at H
          have c9b0 : ((wrap64 ((l0_0.length : Int) + 1)) == 0) = false := beq_eq_false_iff_ne.mpr c9
          have c9b1 : ((wrap64 ((l0_0.length : Int) + 1)) != 0) = true := bne_iff_ne.mpr c9
          by_cases c10 : (wrap64 ((wrap64 ((l0_0.length : Int) - (Int.tmod (wrap64 (a0_1)) (wrap64 ((l0_0.length : Int) + 1))))) + 1)) = 0
          · rw [if_pos c10] at H
            exact absurd H (by simp)
          · rw [if_neg c10] at H
            have c10b0 : ((wrap64 ((wrap64 ((l0_0.length : Int) - (Int.tmod (wrap64 (a0_1)) (wrap64 ((l0_0.length : Int) + 1))))) + 1)) == 0) = false := beq_eq_false_iff_ne.mpr c10
            have c10b1 : ((wrap64 ((wrap64 ((l0_0.length : Int) - (Int.tmod (wrap64 (a0_1)) (wrap64 ((l0_0.length : Int) + 1))))) + 1)) != 0) = true := bne_iff_ne.mpr c10
            replace H := Option.bind_eq_some_iff.mp H
            obtain ⟨t431, A110, H⟩ := H
            replace H : (if (t431.length : Int) = (wrap64 ((wrap64 ((l0_0.length : Int) - (Int.tmod (wrap64 (a0_2)) (wrap64 ((wrap64 ((l0_0.length : Int) - (Int.tmod (wrap64 (a0_1)) (wrap64 ((l0_0.length : Int) + 1))))) + 1))))) + (l0_3.length : Int))) then ((node_With.f l0_0 (Int.tmod (wrap64 (a0_1)) (wrap64 ((l0_0.length : Int) + 1))) 0 ([] : List (S78))).bind fun t434 => ((assartref04_Items.f kj2 t434 l0_0).bind fun t437 => (assartlaw04_NodeWith.j1 kj2 l0_0 l0_3 t430 (Int.tmod (wrap64 (a0_1)) (wrap64 ((l0_0.length : Int) + 1))) (Int.tmod (wrap64 (a0_2)) (wrap64 ((wrap64 ((l0_0.length : Int) - (Int.tmod (wrap64 (a0_1)) (wrap64 ((l0_0.length : Int) + 1))))) + 1))) t431 (!t437)))) else (assartlaw04_NodeWith.j1 kj2 l0_0 l0_3 t430 (Int.tmod (wrap64 (a0_1)) (wrap64 ((l0_0.length : Int) + 1))) (Int.tmod (wrap64 (a0_2)) (wrap64 ((wrap64 ((l0_0.length : Int) - (Int.tmod (wrap64 (a0_1)) (wrap64 ((l0_0.length : Int) + 1))))) + 1))) t431 true)) = some r := H
            have A11 := Aside0.mk A110
            clear A110
            have HC12 := Aside0.mk H
            clear H
            go_upto_region 11 with (first | ((with_reducible refine gate_callee (f := 41) rfl ?_); refine goesL_ (some 48) rfl rfl Try.func41 (by kernel_rfl) rfl #[.slice A0_0 l0_0.length c0_0, .int .i64 (Int.tmod (wrap64 (a0_1)) (wrap64 ((l0_0.length : Int) + 1))), .int .i64 (Int.tmod (wrap64 (a0_2)) (wrap64 ((wrap64 ((l0_0.length : Int) - (Int.tmod (wrap64 (a0_1)) (wrap64 ((l0_0.length : Int) + 1))))) + 1))), .slice A0_3 l0_3.length c0_3] rfl (by (try simp only [List.map_toArray, List.map_cons, List.map_nil]); first | done | rfl | (simp only [List.length_drop, List.length_take]; rfl)) ?_; (with_reducible refine (node_With.calls (fun k_ => k_ < w.heap.size) _ _ l0_0 (Int.tmod (wrap64 (a0_1)) (wrap64 ((l0_0.length : Int) + 1))) (Int.tmod (wrap64 (a0_2)) (wrap64 ((wrap64 ((l0_0.length : Int) - (Int.tmod (wrap64 (a0_1)) (wrap64 ((l0_0.length : Int) + 1))))) + 1))) (fun k_ => k_ < w.heap.size) _ _ l0_3 t431 _ ?side1 ?side2 A11.out).mono ?_); (case side1 => exact Kd.V_mk HC0_0.out (Kd.F_below (Kd.C_F k78_heap HR0_0.out) (by repeat (first | (with_reducible first | exact HB.out | apply below_alloc | apply pw_below_drewN | apply below_drew1 | refine below_set ?_ GE429.out) | exact HB.out)))); (case side2 => exact Kd.V_mk HC0_3.out (Kd.F_below (Kd.C_F k78_heap HR0_3.out) (by repeat (first | (with_reducible first | exact HB.out | apply below_alloc | apply pw_below_drewN | apply below_drew1 | refine below_set ?_ GE429.out) | exact HB.out)))); rintro e w13 ⟨v432, rfl, ho0, hb⟩; refine ⟨_, rfl, ?_⟩; have n0 := Aside0.mk (Kd.R_lower (Kd.R_mono (ok' := fun k_ => True) ho0 (fun _ hk_ => trivial)) (below_size (by repeat (first | (with_reducible first | exact HB.out | apply below_alloc | apply pw_below_drewN | apply below_drew1 | refine below_set ?_ GE429.out) | exact HB.out)))); have n1 := Aside0.mk (blk_below (g := gb429) (o := .cells #[.slice A0_0 l0_0.length c0_0, .int .u8 a0_1, .int .u8 a0_2, .slice A0_3 l0_3.length c0_3] 81 (0, 0)) (by (with_reducible repeat (first | refine blk_drewN ?_ _ | refine blk_drew ?_ | refine blk_alloc ?_ _)); exact BK429.out) hb); have n2 := Aside0.mk (below_step (by repeat (first | (with_reducible first | exact HB.out | apply below_alloc | apply pw_below_drewN | apply below_drew1 | refine below_set ?_ GE429.out) | exact HB.out)) hb); clear BK429; clear HB; have HO433 := n0; have BK429 := n1; have HB := n2; clear n0 n1 n2; (try clear hb); (try clear hb2); (try clear hk); (try clear hi); (try clear ho0)))
            (try simp only [Act.put, List.setIfInBounds_toArray, List.set_cons_zero, List.set_cons_succ])
            go_cut [66] (fun v66 wc => ∃ (kq : Nat) (x66_11 : Bool), v66 = .bool x66_11 ∧ Aside0 (assartlaw04_NodeWith.j1 kq l0_0 l0_3 t430 (Int.tmod (wrap64 (a0_1)) (wrap64 ((l0_0.length : Int) + 1))) (Int.tmod (wrap64 (a0_2)) (wrap64 ((wrap64 ((l0_0.length : Int) - (Int.tmod (wrap64 (a0_1)) (wrap64 ((l0_0.length : Int) + 1))))) + 1))) t431 x66_11 = some r) ∧ Aside0 (kq ≤ kj2) ∧ Aside0 (Kd.R k78 78 wc w.heap.size (fun _ => True) v432 t431) ∧ Aside0 (wc.heap[gb429]? = some (.cells #[(.slice A0_0 l0_0.length c0_0), .int .u8 a0_1, .int .u8 a0_2, (.slice A0_3 l0_3.length c0_3)] 81 (0, 0))) ∧ Aside0 (Below w.heap.size w wc))
            case first =>
              have H := HC12.out
              clear HC12
              by_cases c14 : (t431.length : Int) = (wrap64 ((wrap64 ((l0_0.length : Int) - (Int.tmod (wrap64 (a0_2)) (wrap64 ((wrap64 ((l0_0.length : Int) - (Int.tmod (wrap64 (a0_1)) (wrap64 ((l0_0.length : Int) + 1))))) + 1))))) + (l0_3.length : Int)))
              · rw [if_pos c14] at H
                have c14b0 : ((t431.length : Int) == (wrap64 ((wrap64 ((l0_0.length : Int) - (Int.tmod (wrap64 (a0_2)) (wrap64 ((wrap64 ((l0_0.length : Int) - (Int.tmod (wrap64 (a0_1)) (wrap64 ((l0_0.length : Int) + 1))))) + 1))))) + (l0_3.length : Int)))) = true := beq_iff_eq.mpr c14
                have c14b1 : ((t431.length : Int) != (wrap64 ((wrap64 ((l0_0.length : Int) - (Int.tmod (wrap64 (a0_2)) (wrap64 ((wrap64 ((l0_0.length : Int) - (Int.tmod (wrap64 (a0_1)) (wrap64 ((l0_0.length : Int) + 1))))) + 1))))) + (l0_3.length : Int)))) = false := bne_eq_false_iff_eq.mpr c14
                clear c14
                (first | rw [c14b0] | (simp only [i64_w, i32_w]; rw [c14b0]) | skip)
                replace H := Option.bind_eq_some_iff.mp H
                obtain ⟨t434, A150, H⟩ := H
                replace H : ((assartref04_Items.f kj2 t434 l0_0).bind fun t437 => (assartlaw04_NodeWith.j1 kj2 l0_0 l0_3 t430 (Int.tmod (wrap64 (a0_1)) (wrap64 ((l0_0.length : Int) + 1))) (Int.tmod (wrap64 (a0_2)) (wrap64 ((wrap64 ((l0_0.length : Int) - (Int.tmod (wrap64 (a0_1)) (wrap64 ((l0_0.length : Int) + 1))))) + 1))) t431 (!t437))) = some r := H
                have A15 := Aside0.mk A150
                clear A150
                replace H := Option.bind_eq_some_iff.mp H
                obtain ⟨t437, A160, H⟩ := H
                replace H : (assartlaw04_NodeWith.j1 kj2 l0_0 l0_3 t430 (Int.tmod (wrap64 (a0_1)) (wrap64 ((l0_0.length : Int) + 1))) (Int.tmod (wrap64 (a0_2)) (wrap64 ((wrap64 ((l0_0.length : Int) - (Int.tmod (wrap64 (a0_1)) (wrap64 ((l0_0.length : Int) + 1))))) + 1))) t431 (!t437)) = some r := H
                have A16 := Aside0.mk A160
                clear A160
                have H' := Aside0.mk H
                clear H
                obtain ⟨Ao17, co17, eo17⟩ := Kd.R_slice HO433.out
                subst eo17
                go_wp2_with (first | (go_at_call 41; (refine (node_With.calls (fun k_ => k_ < w.heap.size) _ _ l0_0 (Int.tmod (wrap64 (a0_1)) (wrap64 ((l0_0.length : Int) + 1))) 0 (fun k_ => False) _ _ ([] : List (S78)) t434 _ ?side1 ?side2 A15.out).mono ?_); (case side1 => exact Kd.V_mk HC0_0.out (Kd.F_below (Kd.C_F k78_heap HR0_0.out) (by repeat (first | (with_reducible first | exact HB.out | apply below_alloc | apply pw_below_drewN | apply below_drew1 | refine below_set ?_ GE429.out) | exact HB.out)))); (case side2 => exact Kd.V_nil _ _ _ _ _); rintro e w18 ⟨v435, rfl, ho0, hb⟩; have n0 := Aside0.mk (Kd.R_elder' (by (with_reducible repeat (first | apply Kd.R_alloc | apply Kd.R_drewN | apply Kd.R_drew)); exact HO433.out) (Kd.R_base ho0) hb); have n1 := Aside0.mk (Kd.R_lower (Kd.R_new' (Kd.R_mono (ok' := fun k_ => True) ho0 (fun _ hk_ => trivial)) (Kd.R_lt (by (with_reducible repeat (first | apply Kd.R_alloc | apply Kd.R_drewN | apply Kd.R_drew)); exact HO433.out))) (below_size (by repeat (first | (with_reducible first | exact HB.out | apply below_alloc | apply pw_below_drewN | apply below_drew1 | refine below_set ?_ GE429.out) | exact HB.out)))); have n2 := Aside0.mk (blk_below (g := gb429) (o := .cells #[.slice A0_0 l0_0.length c0_0, .int .u8 a0_1, .int .u8 a0_2, .slice A0_3 l0_3.length c0_3] 81 (0, 0)) (by (with_reducible repeat (first | refine blk_drewN ?_ _ | refine blk_drew ?_ | refine blk_alloc ?_ _)); exact BK429.out) hb); have n3 := Aside0.mk (below_step (by repeat (first | (with_reducible first | exact HB.out | apply below_alloc | apply pw_below_drewN | apply below_drew1 | refine below_set ?_ GE429.out) | exact HB.out)) hb); clear HO433; clear BK429; clear HB; have HO433 := n0; have HO436 := n1; have BK429 := n2; have HB := n3; clear n0 n1 n2 n3; (try clear hb); (try clear hb2); (try clear hk); (try clear hi); (try clear ho0); obtain ⟨Ao19, co19, eo19⟩ := Kd.R_slice HO436.out; subst eo19) | (go_at_call 40; (with_reducible refine (assartref04_Items.calls kj2 _ _ t434 _ _ l0_0 t437 _ ?side1 ?side2 ?side3 ?side4 A16.out).mono ?_); (case side1 => repeat (first | exact (Kd.R_reads' HO436.out).2.2 | (with_reducible refine Kd.C_alloc ?_ _) | (with_reducible refine Kd.C_drewN ?_ _) | (with_reducible refine Kd.C_drew ?_))); (case side2 => exact (Kd.R_reads' HO436.out).2.1); (case side3 => repeat (first | exact (Kd.C_below HR0_0.out HB.out) | (with_reducible refine Kd.C_alloc ?_ _) | (with_reducible refine Kd.C_drewN ?_ _) | (with_reducible refine Kd.C_drew ?_))); (case side4 => exact HC0_0.out); rintro e w' ⟨rfl, ⟨nd, rfl⟩⟩))
                go_meet
                case rel => exact ⟨_, (!t437), (by first | rfl | (simp; done) | (simp [*]; done)), H', ⟨by have := HJ2.out; first | omega | exact Nat.le_refl _⟩, ⟨by (with_reducible repeat (first | apply Kd.R_alloc | apply Kd.R_drewN | apply Kd.R_drew)); exact Kd.R_mono HO433.out (fun _ hk => trivial)⟩, ⟨by (with_reducible repeat (first | refine blk_drewN ?_ _ | refine blk_drew ?_ | refine blk_alloc ?_ _)); exact BK429.out⟩, ⟨by repeat (first | (with_reducible first | exact HB.out | apply below_alloc | apply pw_below_drewN | apply below_drew1 | refine below_set ?_ GE429.out) | exact HB.out)⟩⟩
              · rw [if_neg c14] at H
                have c14b0 : ((t431.length : Int) == (wrap64 ((wrap64 ((l0_0.length : Int) - (Int.tmod (wrap64 (a0_2)) (wrap64 ((wrap64 ((l0_0.length : Int) - (Int.tmod (wrap64 (a0_1)) (wrap64 ((l0_0.length : Int) + 1))))) + 1))))) + (l0_3.length : Int)))) = false := beq_eq_false_iff_ne.mpr c14
                have c14b1 : ((t431.length : Int) != (wrap64 ((wrap64 ((l0_0.length : Int) - (Int.tmod (wrap64 (a0_2)) (wrap64 ((wrap64 ((l0_0.length : Int) - (Int.tmod (wrap64 (a0_1)) (wrap64 ((l0_0.length : Int) + 1))))) + 1))))) + (l0_3.length : Int)))) = true := bne_iff_ne.mpr c14
                (first | rw [c14b0] | (simp only [i64_w, i32_w]; rw [c14b0]) | skip)
                have H' := Aside0.mk H
                clear H
                obtain ⟨Ao20, co20, eo20⟩ := Kd.R_slice HO433.out
                subst eo20
                go_wp2
                go_meet
                case rel => exact ⟨_, (true), (by first | rfl | (simp; done) | (simp [*]; done)), H', ⟨by have := HJ2.out; first | omega | exact Nat.le_refl _⟩, ⟨by (with_reducible repeat (first | apply Kd.R_alloc | apply Kd.R_drewN | apply Kd.R_drew)); exact HO433.out⟩, ⟨by (with_reducible repeat (first | refine blk_drewN ?_ _ | refine blk_drew ?_ | refine blk_alloc ?_ _)); exact BK429.out⟩, ⟨by repeat (first | (with_reducible first | exact HB.out | apply below_alloc | apply pw_below_drewN | apply below_drew1 | refine below_set ?_ GE429.out) | exact HB.out)⟩⟩
            case rest =>
              clear HC12
              try clear c1
              try clear c2
              try clear p2
              try clear c4
              try clear p6
              try clear c7
              try clear c7b0
              try clear c7b1
              try clear c8
              try clear c9
              try clear c9b0
              try clear c9b1
              try clear c10
              try clear c10b0
              try clear c10b1
              try clear c13
              try clear c14
              try clear c14b0
              try clear c14b1
              try clear hcz5_0
              try clear hcz5_1
              try clear hcz5_2
              try clear hcz5_3
              try clear hfz5_0
              try clear hfz5_1
              try clear hfz5_2
              try clear hfz5_3
              try clear p2
              obtain ⟨kq, x66_11, rfl, HA, HJ11, HO_10, BK429, HB⟩ := hcut
              cases kq with
              | zero => exact absurd HA.out (by simp [assartlaw04_NodeWith.j1])
              | succ kj11 =>
                have H := HA.out
                clear HA
                simp only [assartlaw04_NodeWith.j1] at H
                by_cases c21 : x66_11 = true
                · subst c21
                  have H1 : (some false) = some r := by rw [if_pos rfl] at H; exact H
                  clear H
                  have H := H1
                  clear H1
                  obtain rfl := Option.some.inj H
                  go_wp2
                  go_ret
                  exact ⟨by first | rfl | (simp [errW_none, errW_some] <;> rfl) | (simp [*, errW_none, errW_some] <;> rfl), by repeat (first | (with_reducible first | exact HB.out | apply below_alloc | apply pw_below_drewN | apply below_drew1 | refine below_set ?_ GE429.out) | exact HB.out)⟩
                · replace c21 := Bool.eq_false_iff.mpr c21
                  subst c21
                  have H1 : (if 0 ≤ (Int.tmod (wrap64 (a0_1)) (wrap64 ((l0_0.length : Int) + 1))) then (if (Int.tmod (wrap64 (a0_1)) (wrap64 ((l0_0.length : Int) + 1))) ≤ (wrap64 ((Int.tmod (wrap64 (a0_1)) (wrap64 ((l0_0.length : Int) + 1))) + (Int.tmod (wrap64 (a0_2)) (wrap64 ((wrap64 ((l0_0.length : Int) - (Int.tmod (wrap64 (a0_1)) (wrap64 ((l0_0.length : Int) + 1))))) + 1))))) then (if (wrap64 ((Int.tmod (wrap64 (a0_1)) (wrap64 ((l0_0.length : Int) + 1))) + (Int.tmod (wrap64 (a0_2)) (wrap64 ((wrap64 ((l0_0.length : Int) - (Int.tmod (wrap64 (a0_1)) (wrap64 ((l0_0.length : Int) + 1))))) + 1))))) ≤ (l0_0.length : Int) then ((node_With.f t431 (Int.tmod (wrap64 (a0_1)) (wrap64 ((l0_0.length : Int) + 1))) (l0_3.length : Int) ((l0_0.take ((wrap64 ((Int.tmod (wrap64 (a0_1)) (wrap64 ((l0_0.length : Int) + 1))) + (Int.tmod (wrap64 (a0_2)) (wrap64 ((wrap64 ((l0_0.length : Int) - (Int.tmod (wrap64 (a0_1)) (wrap64 ((l0_0.length : Int) + 1))))) + 1))))) : Int).toNat).drop ((Int.tmod (wrap64 (a0_1)) (wrap64 ((l0_0.length : Int) + 1))) : Int).toNat)).bind fun t442 => (if t430 = true then ((assartref04_Items.f kj11 t442 l0_0).bind fun t445 => (if t445 = true then (if (Int.tmod (wrap64 (a0_1)) (wrap64 ((l0_0.length : Int) + 1))) ≤ (t431.length : Int) then (if (Int.tmod (wrap64 (a0_1)) (wrap64 ((l0_0.length : Int) + 1))) ≤ (l0_0.length : Int) then ((assartref04_Items.f kj11 (t431.take ((Int.tmod (wrap64 (a0_1)) (wrap64 ((l0_0.length : Int) + 1))) : Int).toNat) (l0_0.take ((Int.tmod (wrap64 (a0_1)) (wrap64 ((l0_0.length : Int) + 1))) : Int).toNat)).bind fun t454 => (if t454 = true then (if (Int.tmod (wrap64 (a0_1)) (wrap64 ((l0_0.length : Int) + 1))) ≤ (wrap64 ((Int.tmod (wrap64 (a0_1)) (wrap64 ((l0_0.length : Int) + 1))) + (l0_3.length : Int))) then (if (wrap64 ((Int.tmod (wrap64 (a0_1)) (wrap64 ((l0_0.length : Int) + 1))) + (l0_3.length : Int))) ≤ (t431.length : Int) then ((assartref04_Items.f kj11 ((t431.take ((wrap64 ((Int.tmod (wrap64 (a0_1)) (wrap64 ((l0_0.length : Int) + 1))) + (l0_3.length : Int))) : Int).toNat).drop ((Int.tmod (wrap64 (a0_1)) (wrap64 ((l0_0.length : Int) + 1))) : Int).toNat) l0_3).bind fun t459 => (if t459 = true then (if 0 ≤ (wrap64 ((Int.tmod (wrap64 (a0_1)) (wrap64 ((l0_0.length : Int) + 1))) + (l0_3.length : Int))) then (if 0 ≤ (wrap64 ((Int.tmod (wrap64 (a0_1)) (wrap64 ((l0_0.length : Int) + 1))) + (Int.tmod (wrap64 (a0_2)) (wrap64 ((wrap64 ((l0_0.length : Int) - (Int.tmod (wrap64 (a0_1)) (wrap64 ((l0_0.length : Int) + 1))))) + 1))))) then ((assartref04_Items.f kj11 (t431.drop ((wrap64 ((Int.tmod (wrap64 (a0_1)) (wrap64 ((l0_0.length : Int) + 1))) + (l0_3.length : Int))) : Int).toNat) (l0_0.drop ((wrap64 ((Int.tmod (wrap64 (a0_1)) (wrap64 ((l0_0.length : Int) + 1))) + (Int.tmod (wrap64 (a0_2)) (wrap64 ((wrap64 ((l0_0.length : Int) - (Int.tmod (wrap64 (a0_1)) (wrap64 ((l0_0.length : Int) + 1))))) + 1))))) : Int).toNat)).bind fun t468 => (some t468)) else (none)) else (none)) else (some false))) else (none)) else (none)) else (some false))) else (none)) else (none)) else (some false))) else (some false))) else (none)) else (none)) else (none)) = some r := by rw [if_neg (show ¬ (false = true) by decide)] at H; exact H
                  clear H
                  have H := H1
                  clear H1
                  obtain ⟨ji22, hji22⟩ : ∃ j_ : Int, (Int.tmod (wrap64 (a0_1)) (wrap64 ((l0_0.length : Int) + 1))) = j_ := ⟨_, rfl⟩
                  replace H : (if 0 ≤ (ji22) then (if (ji22) ≤ (wrap64 ((ji22) + (Int.tmod (wrap64 (a0_2)) (wrap64 ((wrap64 ((l0_0.length : Int) - (ji22))) + 1))))) then (if (wrap64 ((ji22) + (Int.tmod (wrap64 (a0_2)) (wrap64 ((wrap64 ((l0_0.length : Int) - (ji22))) + 1))))) ≤ (l0_0.length : Int) then ((node_With.f t431 (ji22) (l0_3.length : Int) ((l0_0.take ((wrap64 ((ji22) + (Int.tmod (wrap64 (a0_2)) (wrap64 ((wrap64 ((l0_0.length : Int) - (ji22))) + 1))))) : Int).toNat).drop ((ji22) : Int).toNat)).bind fun t442 => (if t430 = true then ((assartref04_Items.f kj11 t442 l0_0).bind fun t445 => (if t445 = true then (if (ji22) ≤ (t431.length : Int) then (if (ji22) ≤ (l0_0.length : Int) then ((assartref04_Items.f kj11 (t431.take ((ji22) : Int).toNat) (l0_0.take ((ji22) : Int).toNat)).bind fun t454 => (if t454 = true then (if (ji22) ≤ (wrap64 ((ji22) + (l0_3.length : Int))) then (if (wrap64 ((ji22) + (l0_3.length : Int))) ≤ (t431.length : Int) then ((assartref04_Items.f kj11 ((t431.take ((wrap64 ((ji22) + (l0_3.length : Int))) : Int).toNat).drop ((ji22) : Int).toNat) l0_3).bind fun t459 => (if t459 = true then (if 0 ≤ (wrap64 ((ji22) + (l0_3.length : Int))) then (if 0 ≤ (wrap64 ((ji22) + (Int.tmod (wrap64 (a0_2)) (wrap64 ((wrap64 ((l0_0.length : Int) - (ji22))) + 1))))) then ((assartref04_Items.f kj11 (t431.drop ((wrap64 ((ji22) + (l0_3.length : Int))) : Int).toNat) (l0_0.drop ((wrap64 ((ji22) + (Int.tmod (wrap64 (a0_2)) (wrap64 ((wrap64 ((l0_0.length : Int) - (ji22))) + 1))))) : Int).toNat)).bind fun t468 => (some t468)) else (none)) else (none)) else (some false))) else (none)) else (none)) else (some false))) else (none)) else (none)) else (some false))) else (some false))) else (none)) else (none)) else (none)) = some r := by first | (rw [hji22] at H; exact H) | (simp only [hji22] at H ⊢; exact H)
                  (try rw [hji22] at c10b0)
                  (try rw [hji22] at c10b1)
                  by_cases c23 : 0 ≤ (ji22)
                  · rw [if_pos c23] at H
                    have c23b0 := eq_true c23
                    have c23b1 : decide (0 ≤ (ji22)) = true := decide_eq_true c23
                    clear c23
                    by_cases c24 : (ji22) ≤ (wrap64 ((ji22) + (Int.tmod (wrap64 (a0_2)) (wrap64 ((wrap64 ((l0_0.length : Int) - (ji22))) + 1)))))
                    · rw [if_pos c24] at H
                      have c24b0 := eq_true c24
                      have c24b1 : decide ((ji22) ≤ (wrap64 ((ji22) + (Int.tmod (wrap64 (a0_2)) (wrap64 ((wrap64 ((l0_0.length : Int) - (ji22))) + 1)))))) = true := decide_eq_true c24
                      by_cases c25 : (wrap64 ((ji22) + (Int.tmod (wrap64 (a0_2)) (wrap64 ((wrap64 ((l0_0.length : Int) - (ji22))) + 1))))) ≤ (l0_0.length : Int)
                      · rw [if_pos c25] at H
                        have c25b0 := eq_true c25
                        have c25b1 : decide ((wrap64 ((ji22) + (Int.tmod (wrap64 (a0_2)) (wrap64 ((wrap64 ((l0_0.length : Int) - (ji22))) + 1))))) ≤ (l0_0.length : Int)) = true := decide_eq_true c25
                        obtain ⟨y438, hy438⟩ : ∃ y_ : List (S78), y_ = ((l0_0.take ((wrap64 ((ji22) + (Int.tmod (wrap64 (a0_2)) (wrap64 ((wrap64 ((l0_0.length : Int) - (ji22))) + 1))))) : Int).toNat).drop ((ji22) : Int).toNat) := ⟨_, rfl⟩
                        replace H : ((node_With.f t431 (ji22) (l0_3.length : Int) y438).bind fun t442 => (if t430 = true then ((assartref04_Items.f kj11 t442 l0_0).bind fun t445 => (if t445 = true then (if (ji22) ≤ (t431.length : Int) then (if (ji22) ≤ (l0_0.length : Int) then ((assartref04_Items.f kj11 (t431.take ((ji22) : Int).toNat) (l0_0.take ((ji22) : Int).toNat)).bind fun t454 => (if t454 = true then (if (ji22) ≤ (wrap64 ((ji22) + (l0_3.length : Int))) then (if (wrap64 ((ji22) + (l0_3.length : Int))) ≤ (t431.length : Int) then ((assartref04_Items.f kj11 ((t431.take ((wrap64 ((ji22) + (l0_3.length : Int))) : Int).toNat).drop ((ji22) : Int).toNat) l0_3).bind fun t459 => (if t459 = true then (if 0 ≤ (wrap64 ((ji22) + (l0_3.length : Int))) then (if 0 ≤ (wrap64 ((ji22) + (Int.tmod (wrap64 (a0_2)) (wrap64 ((wrap64 ((l0_0.length : Int) - (ji22))) + 1))))) then ((assartref04_Items.f kj11 (t431.drop ((wrap64 ((ji22) + (l0_3.length : Int))) : Int).toNat) (l0_0.drop ((wrap64 ((ji22) + (Int.tmod (wrap64 (a0_2)) (wrap64 ((wrap64 ((l0_0.length : Int) - (ji22))) + 1))))) : Int).toNat)).bind fun t468 => (some t468)) else (none)) else (none)) else (some false))) else (none)) else (none)) else (some false))) else (none)) else (none)) else (some false))) else (some false))) = some r := by first | (rw [hy438]; with_reducible exact H) | (have H2_ := (Option.bind_some _ _).symm.trans H; rw [hy438]; with_reducible exact H2_) | (have H2_ := (Option.bind_some _ _).symm.trans H; with_reducible exact H2_) | with_reducible exact H | (rw [hy438]; exact H) | exact H
                        have Ny438 := Aside0.mk hy438
                        clear hy438
                        replace H := Option.bind_eq_some_iff.mp H
                        obtain ⟨t442, A260, H⟩ := H
                        replace H : (if t430 = true then ((assartref04_Items.f kj11 t442 l0_0).bind fun t445 => (if t445 = true then (if (ji22) ≤ (t431.length : Int) then (if (ji22) ≤ (l0_0.length : Int) then ((assartref04_Items.f kj11 (t431.take ((ji22) : Int).toNat) (l0_0.take ((ji22) : Int).toNat)).bind fun t454 => (if t454 = true then (if (ji22) ≤ (wrap64 ((ji22) + (l0_3.length : Int))) then (if (wrap64 ((ji22) + (l0_3.length : Int))) ≤ (t431.length : Int) then ((assartref04_Items.f kj11 ((t431.take ((wrap64 ((ji22) + (l0_3.length : Int))) : Int).toNat).drop ((ji22) : Int).toNat) l0_3).bind fun t459 => (if t459 = true then (if 0 ≤ (wrap64 ((ji22) + (l0_3.length : Int))) then (if 0 ≤ (wrap64 ((ji22) + (Int.tmod (wrap64 (a0_2)) (wrap64 ((wrap64 ((l0_0.length : Int) - (ji22))) + 1))))) then ((assartref04_Items.f kj11 (t431.drop ((wrap64 ((ji22) + (l0_3.length : Int))) : Int).toNat) (l0_0.drop ((wrap64 ((ji22) + (Int.tmod (wrap64 (a0_2)) (wrap64 ((wrap64 ((l0_0.length : Int) - (ji22))) + 1))))) : Int).toNat)).bind fun t468 => (some t468)) else (none)) else (none)) else (some false))) else (none)) else (none)) else (some false))) else (none)) else (none)) else (some false))) else (some false)) = some r := H
                        have A26 := Aside0.mk A260
                        clear A260
                        by_cases c27 : t430 = true
                        · subst c27
                          have H1 : ((assartref04_Items.f kj11 t442 l0_0).bind fun t445 => (if t445 = true then (if (ji22) ≤ (t431.length : Int) then (if (ji22) ≤ (l0_0.length : Int) then ((assartref04_Items.f kj11 (t431.take ((ji22) : Int).toNat) (l0_0.take ((ji22) : Int).toNat)).bind fun t454 => (if t454 = true then (if (ji22) ≤ (wrap64 ((ji22) + (l0_3.length : Int))) then (if (wrap64 ((ji22) + (l0_3.length : Int))) ≤ (t431.length : Int) then ((assartref04_Items.f kj11 ((t431.take ((wrap64 ((ji22) + (l0_3.length : Int))) : Int).toNat).drop ((ji22) : Int).toNat) l0_3).bind fun t459 => (if t459 = true then (if 0 ≤ (wrap64 ((ji22) + (l0_3.length : Int))) then (if 0 ≤ (wrap64 ((ji22) + (Int.tmod (wrap64 (a0_2)) (wrap64 ((wrap64 ((l0_0.length : Int) - (ji22))) + 1))))) then ((assartref04_Items.f kj11 (t431.drop ((wrap64 ((ji22) + (l0_3.length : Int))) : Int).toNat) (l0_0.drop ((wrap64 ((ji22) + (Int.tmod (wrap64 (a0_2)) (wrap64 ((wrap64 ((l0_0.length : Int) - (ji22))) + 1))))) : Int).toNat)).bind fun t468 => (some t468)) else (none)) else (none)) else (some false))) else (none)) else (none)) else (some false))) else (none)) else (none)) else (some false))) = some r := by rw [if_pos rfl] at H; exact H
                          clear H
                          have H := H1
                          clear H1
                          replace H := Option.bind_eq_some_iff.mp H
                          obtain ⟨t445, A280, H⟩ := H
                          replace H : (if t445 = true then (if (ji22) ≤ (t431.length : Int) then (if (ji22) ≤ (l0_0.length : Int) then ((assartref04_Items.f kj11 (t431.take ((ji22) : Int).toNat) (l0_0.take ((ji22) : Int).toNat)).bind fun t454 => (if t454 = true then (if (ji22) ≤ (wrap64 ((ji22) + (l0_3.length : Int))) then (if (wrap64 ((ji22) + (l0_3.length : Int))) ≤ (t431.length : Int) then ((assartref04_Items.f kj11 ((t431.take ((wrap64 ((ji22) + (l0_3.length : Int))) : Int).toNat).drop ((ji22) : Int).toNat) l0_3).bind fun t459 => (if t459 = true then (if 0 ≤ (wrap64 ((ji22) + (l0_3.length : Int))) then (if 0 ≤ (wrap64 ((ji22) + (Int.tmod (wrap64 (a0_2)) (wrap64 ((wrap64 ((l0_0.length : Int) - (ji22))) + 1))))) then ((assartref04_Items.f kj11 (t431.drop ((wrap64 ((ji22) + (l0_3.length : Int))) : Int).toNat) (l0_0.drop ((wrap64 ((ji22) + (Int.tmod (wrap64 (a0_2)) (wrap64 ((wrap64 ((l0_0.length : Int) - (ji22))) + 1))))) : Int).toNat)).bind fun t468 => (some t468)) else (none)) else (none)) else (some false))) else (none)) else (none)) else (some false))) else (none)) else (none)) else (some false)) = some r := H
                          have A28 := Aside0.mk A280
                          clear A280
                          by_cases c29 : t445 = true
                          · subst c29
                            have H1 : (if (ji22) ≤ (t431.length : Int) then (if (ji22) ≤ (l0_0.length : Int) then ((assartref04_Items.f kj11 (t431.take ((ji22) : Int).toNat) (l0_0.take ((ji22) : Int).toNat)).bind fun t454 => (if t454 = true then (if (ji22) ≤ (wrap64 ((ji22) + (l0_3.length : Int))) then (if (wrap64 ((ji22) + (l0_3.length : Int))) ≤ (t431.length : Int) then ((assartref04_Items.f kj11 ((t431.take ((wrap64 ((ji22) + (l0_3.length : Int))) : Int).toNat).drop ((ji22) : Int).toNat) l0_3).bind fun t459 => (if t459 = true then (if 0 ≤ (wrap64 ((ji22) + (l0_3.length : Int))) then (if 0 ≤ (wrap64 ((ji22) + (Int.tmod (wrap64 (a0_2)) (wrap64 ((wrap64 ((l0_0.length : Int) - (ji22))) + 1))))) then ((assartref04_Items.f kj11 (t431.drop ((wrap64 ((ji22) + (l0_3.length : Int))) : Int).toNat) (l0_0.drop ((wrap64 ((ji22) + (Int.tmod (wrap64 (a0_2)) (wrap64 ((wrap64 ((l0_0.length : Int) - (ji22))) + 1))))) : Int).toNat)).bind fun t468 => (some t468)) else (none)) else (none)) else (some false))) else (none)) else (none)) else (some false))) else (none)) else (none)) = some r := by rw [if_pos rfl] at H; exact H
                            clear H
                            have H := H1
                            clear H1
                            have c30b0 := eq_true (of_decide_eq_true (by first | (with_reducible assumption) | assumption) : 0 ≤ (ji22))
                            by_cases c31 : (ji22) ≤ (t431.length : Int)
                            · rw [if_pos c31] at H
                              have c31b0 := eq_true c31
                              have c31b1 : decide ((ji22) ≤ (t431.length : Int)) = true := decide_eq_true c31
                              clear c31
                              obtain ⟨y446, hy446⟩ : ∃ y_ : List (S78), y_ = (t431.take ((ji22) : Int).toNat) := ⟨_, rfl⟩
                              replace H : (if (ji22) ≤ (l0_0.length : Int) then ((assartref04_Items.f kj11 y446 (l0_0.take ((ji22) : Int).toNat)).bind fun t454 => (if t454 = true then (if (ji22) ≤ (wrap64 ((ji22) + (l0_3.length : Int))) then (if (wrap64 ((ji22) + (l0_3.length : Int))) ≤ (t431.length : Int) then ((assartref04_Items.f kj11 ((t431.take ((wrap64 ((ji22) + (l0_3.length : Int))) : Int).toNat).drop ((ji22) : Int).toNat) l0_3).bind fun t459 => (if t459 = true then (if 0 ≤ (wrap64 ((ji22) + (l0_3.length : Int))) then (if 0 ≤ (wrap64 ((ji22) + (Int.tmod (wrap64 (a0_2)) (wrap64 ((wrap64 ((l0_0.length : Int) - (ji22))) + 1))))) then ((assartref04_Items.f kj11 (t431.drop ((wrap64 ((ji22) + (l0_3.length : Int))) : Int).toNat) (l0_0.drop ((wrap64 ((ji22) + (Int.tmod (wrap64 (a0_2)) (wrap64 ((wrap64 ((l0_0.length : Int) - (ji22))) + 1))))) : Int).toNat)).bind fun t468 => (some t468)) else (none)) else (none)) else (some false))) else (none)) else (none)) else (some false))) else (none)) = some r := by first | (rw [hy446]; with_reducible exact H) | (have H2_ := (Option.bind_some _ _).symm.trans H; rw [hy446]; with_reducible exact H2_) | (have H2_ := (Option.bind_some _ _).symm.trans H; with_reducible exact H2_) | with_reducible exact H | (rw [hy446]; exact H) | exact H
                              have Ny446 := Aside0.mk hy446
                              clear hy446
                              have c32b0 := eq_true (of_decide_eq_true (by first | (with_reducible assumption) | assumption) : 0 ≤ (ji22))
                              by_cases c33 : (ji22) ≤ (l0_0.length : Int)
                              · rw [if_pos c33] at H
                                have c33b0 := eq_true c33
                                have c33b1 : decide ((ji22) ≤ (l0_0.length : Int)) = true := decide_eq_true c33
                                clear c33
                                obtain ⟨y450, hy450⟩ : ∃ y_ : List (S78), y_ = (l0_0.take ((ji22) : Int).toNat) := ⟨_, rfl⟩
                                replace H : ((assartref04_Items.f kj11 y446 y450).bind fun t454 => (if t454 = true then (if (ji22) ≤ (wrap64 ((ji22) + (l0_3.length : Int))) then (if (wrap64 ((ji22) + (l0_3.length : Int))) ≤ (t431.length : Int) then ((assartref04_Items.f kj11 ((t431.take ((wrap64 ((ji22) + (l0_3.length : Int))) : Int).toNat).drop ((ji22) : Int).toNat) l0_3).bind fun t459 => (if t459 = true then (if 0 ≤ (wrap64 ((ji22) + (l0_3.length : Int))) then (if 0 ≤ (wrap64 ((ji22) + (Int.tmod (wrap64 (a0_2)) (wrap64 ((wrap64 ((l0_0.length : Int) - (ji22))) + 1))))) then ((assartref04_Items.f kj11 (t431.drop ((wrap64 ((ji22) + (l0_3.length : Int))) : Int).toNat) (l0_0.drop ((wrap64 ((ji22) + (Int.tmod (wrap64 (a0_2)) (wrap64 ((wrap64 ((l0_0.length : Int) - (ji22))) + 1))))) : Int).toNat)).bind fun t468 => (some t468)) else (none)) else (none)) else (some false))) else (none)) else (none)) else (some false))) = some r := by first | (rw [hy450]; with_reducible exact H) | (have H2_ := (Option.bind_some _ _).symm.trans H; rw [hy450]; with_reducible exact H2_) | (have H2_ := (Option.bind_some _ _).symm.trans H; with_reducible exact H2_) | with_reducible exact H | (rw [hy450]; exact H) | exact H
                                have Ny450 := Aside0.mk hy450
                                clear hy450
                                replace H := Option.bind_eq_some_iff.mp H
                                obtain ⟨t454, A340, H⟩ := H
                                replace H : (if t454 = true then (if (ji22) ≤ (wrap64 ((ji22) + (l0_3.length : Int))) then (if (wrap64 ((ji22) + (l0_3.length : Int))) ≤ (t431.length : Int) then ((assartref04_Items.f kj11 ((t431.take ((wrap64 ((ji22) + (l0_3.length : Int))) : Int).toNat).drop ((ji22) : Int).toNat) l0_3).bind fun t459 => (if t459 = true then (if 0 ≤ (wrap64 ((ji22) + (l0_3.length : Int))) then (if 0 ≤ (wrap64 ((ji22) + (Int.tmod (wrap64 (a0_2)) (wrap64 ((wrap64 ((l0_0.length : Int) - (ji22))) + 1))))) then ((assartref04_Items.f kj11 (t431.drop ((wrap64 ((ji22) + (l0_3.length : Int))) : Int).toNat) (l0_0.drop ((wrap64 ((ji22) + (Int.tmod (wrap64 (a0_2)) (wrap64 ((wrap64 ((l0_0.length : Int) - (ji22))) + 1))))) : Int).toNat)).bind fun t468 => (some t468)) else (none)) else (none)) else (some false))) else (none)) else (none)) else (some false)) = some r := H
                                have A34 := Aside0.mk A340
                                clear A340
                                by_cases c35 : t454 = true
                                · subst c35
                                  have H1 : (if (ji22) ≤ (wrap64 ((ji22) + (l0_3.length : Int))) then (if (wrap64 ((ji22) + (l0_3.length : Int))) ≤ (t431.length : Int) then ((assartref04_Items.f kj11 ((t431.take ((wrap64 ((ji22) + (l0_3.length : Int))) : Int).toNat).drop ((ji22) : Int).toNat) l0_3).bind fun t459 => (if t459 = true then (if 0 ≤ (wrap64 ((ji22) + (l0_3.length : Int))) then (if 0 ≤ (wrap64 ((ji22) + (Int.tmod (wrap64 (a0_2)) (wrap64 ((wrap64 ((l0_0.length : Int) - (ji22))) + 1))))) then ((assartref04_Items.f kj11 (t431.drop ((wrap64 ((ji22) + (l0_3.length : Int))) : Int).toNat) (l0_0.drop ((wrap64 ((ji22) + (Int.tmod (wrap64 (a0_2)) (wrap64 ((wrap64 ((l0_0.length : Int) - (ji22))) + 1))))) : Int).toNat)).bind fun t468 => (some t468)) else (none)) else (none)) else (some false))) else (none)) else (none)) = some r := by rw [if_pos rfl] at H; exact H
                                  clear H
                                  have H := H1
                                  clear H1
                                  have c36b0 := eq_true (of_decide_eq_true (by first | (with_reducible assumption) | assumption) : 0 ≤ (ji22))
                                  by_cases c37 : (ji22) ≤ (wrap64 ((ji22) + (l0_3.length : Int)))
                                  · rw [if_pos c37] at H
                                    have c37b0 := eq_true c37
                                    have c37b1 : decide ((ji22) ≤ (wrap64 ((ji22) + (l0_3.length : Int)))) = true := decide_eq_true c37
                                    by_cases c38 : (wrap64 ((ji22) + (l0_3.length : Int))) ≤ (t431.length : Int)
                                    · rw [if_pos c38] at H
                                      have c38b0 := eq_true c38
                                      have c38b1 : decide ((wrap64 ((ji22) + (l0_3.length : Int))) ≤ (t431.length : Int)) = true := decide_eq_true c38
                                      obtain ⟨y455, hy455⟩ : ∃ y_ : List (S78), y_ = ((t431.take ((wrap64 ((ji22) + (l0_3.length : Int))) : Int).toNat).drop ((ji22) : Int).toNat) := ⟨_, rfl⟩
                                      replace H : ((assartref04_Items.f kj11 y455 l0_3).bind fun t459 => (if t459 = true then (if 0 ≤ (wrap64 ((ji22) + (l0_3.length : Int))) then (if 0 ≤ (wrap64 ((ji22) + (Int.tmod (wrap64 (a0_2)) (wrap64 ((wrap64 ((l0_0.length : Int) - (ji22))) + 1))))) then ((assartref04_Items.f kj11 (t431.drop ((wrap64 ((ji22) + (l0_3.length : Int))) : Int).toNat) (l0_0.drop ((wrap64 ((ji22) + (Int.tmod (wrap64 (a0_2)) (wrap64 ((wrap64 ((l0_0.length : Int) - (ji22))) + 1))))) : Int).toNat)).bind fun t468 => (some t468)) else (none)) else (none)) else (some false))) = some r := by first | (rw [hy455]; with_reducible exact H) | (have H2_ := (Option.bind_some _ _).symm.trans H; rw [hy455]; with_reducible exact H2_) | (have H2_ := (Option.bind_some _ _).symm.trans H; with_reducible exact H2_) | with_reducible exact H | (rw [hy455]; exact H) | exact H
                                      have Ny455 := Aside0.mk hy455
                                      clear hy455
                                      replace H := Option.bind_eq_some_iff.mp H
                                      obtain ⟨t459, A390, H⟩ := H
                                      replace H : (if t459 = true then (if 0 ≤ (wrap64 ((ji22) + (l0_3.length : Int))) then (if 0 ≤ (wrap64 ((ji22) + (Int.tmod (wrap64 (a0_2)) (wrap64 ((wrap64 ((l0_0.length : Int) - (ji22))) + 1))))) then ((assartref04_Items.f kj11 (t431.drop ((wrap64 ((ji22) + (l0_3.length : Int))) : Int).toNat) (l0_0.drop ((wrap64 ((ji22) + (Int.tmod (wrap64 (a0_2)) (wrap64 ((wrap64 ((l0_0.length : Int) - (ji22))) + 1))))) : Int).toNat)).bind fun t468 => (some t468)) else (none)) else (none)) else (some false)) = some r := H
                                      have A39 := Aside0.mk A390
                                      clear A390
                                      by_cases c40 : t459 = true
                                      · subst c40
                                        have H1 : (if 0 ≤ (wrap64 ((ji22) + (l0_3.length : Int))) then (if 0 ≤ (wrap64 ((ji22) + (Int.tmod (wrap64 (a0_2)) (wrap64 ((wrap64 ((l0_0.length : Int) - (ji22))) + 1))))) then ((assartref04_Items.f kj11 (t431.drop ((wrap64 ((ji22) + (l0_3.length : Int))) : Int).toNat) (l0_0.drop ((wrap64 ((ji22) + (Int.tmod (wrap64 (a0_2)) (wrap64 ((wrap64 ((l0_0.length : Int) - (ji22))) + 1))))) : Int).toNat)).bind fun t468 => (some t468)) else (none)) else (none)) = some r := by rw [if_pos rfl] at H; exact H
                                        clear H
                                        have H := H1
                                        clear H1
                                        obtain ⟨ji41, hji41⟩ : ∃ j_ : Int, (wrap64 ((ji22) + (l0_3.length : Int))) = j_ := ⟨_, rfl⟩
                                        replace H : (if 0 ≤ (ji41) then (if 0 ≤ (wrap64 ((ji22) + (Int.tmod (wrap64 (a0_2)) (wrap64 ((wrap64 ((l0_0.length : Int) - (ji22))) + 1))))) then ((assartref04_Items.f kj11 (t431.drop ((ji41) : Int).toNat) (l0_0.drop ((wrap64 ((ji22) + (Int.tmod (wrap64 (a0_2)) (wrap64 ((wrap64 ((l0_0.length : Int) - (ji22))) + 1))))) : Int).toNat)).bind fun t468 => (some t468)) else (none)) else (none)) = some r := by first | (rw [hji41] at H; exact H) | (simp only [hji41] at H ⊢; exact H)
                                        (try rw [hji41] at c37b0)
                                        (try rw [hji41] at c37b1)
                                        (try rw [hji41] at c37)
                                        (try rw [hji41] at c38b0)
                                        (try rw [hji41] at c38b1)
                                        (try rw [hji41] at c38)
                                        (try rw [hji41] at A26)
                                        (try rw [hji41] at A28)
                                        (try rw [hji41] at A34)
                                        (try rw [hji41] at Ny455)
                                        (try rw [hji41] at A39)
                                        have hji41w : (IntKind.i64.wrap ((ji22) + (l0_3.length : Int))) = ji41 := (i64_w _).trans hji41
                                        by_cases c42 : 0 ≤ (ji41)
                                        · rw [if_pos c42] at H
                                          have c42b0 := eq_true c42
                                          have c42b1 : decide (0 ≤ (ji41)) = true := decide_eq_true c42
                                          clear c42
                                          have c43b0 := eq_true (of_decide_eq_true (by first | (with_reducible assumption) | assumption) : (ji41) ≤ (t431.length : Int))
                                          obtain ⟨y460, hy460⟩ : ∃ y_ : List (S78), y_ = (t431.drop ((ji41) : Int).toNat) := ⟨_, rfl⟩
                                          replace H : (if 0 ≤ (wrap64 ((ji22) + (Int.tmod (wrap64 (a0_2)) (wrap64 ((wrap64 ((l0_0.length : Int) - (ji22))) + 1))))) then ((assartref04_Items.f kj11 y460 (l0_0.drop ((wrap64 ((ji22) + (Int.tmod (wrap64 (a0_2)) (wrap64 ((wrap64 ((l0_0.length : Int) - (ji22))) + 1))))) : Int).toNat)).bind fun t468 => (some t468)) else (none)) = some r := by first | (rw [hy460]; with_reducible exact H) | (have H2_ := (Option.bind_some _ _).symm.trans H; rw [hy460]; with_reducible exact H2_) | (have H2_ := (Option.bind_some _ _).symm.trans H; with_reducible exact H2_) | with_reducible exact H | (rw [hy460]; exact H) | exact H
                                          have Ny460 := Aside0.mk hy460
                                          clear hy460
                                          obtain ⟨ji44, hji44⟩ : ∃ j_ : Int, (wrap64 ((ji22) + (Int.tmod (wrap64 (a0_2)) (wrap64 ((wrap64 ((l0_0.length : Int) - (ji22))) + 1))))) = j_ := ⟨_, rfl⟩
                                          replace H : (if 0 ≤ (ji44) then ((assartref04_Items.f kj11 y460 (l0_0.drop ((ji44) : Int).toNat)).bind fun t468 => (some t468)) else (none)) = some r := by first | (rw [hji44] at H; exact H) | (simp only [hji44] at H ⊢; exact H)
                                          (try rw [hji44] at c24b0)
                                          (try rw [hji44] at c24b1)
                                          (try rw [hji44] at c24)
                                          (try rw [hji44] at c25b0)
                                          (try rw [hji44] at c25b1)
                                          (try rw [hji44] at c25)
                                          (try rw [hji44] at Ny438)
                                          (try rw [hji44] at A26)
                                          (try rw [hji44] at A28)
                                          (try rw [hji44] at A34)
                                          (try rw [hji44] at A39)
                                          have hji44w : (IntKind.i64.wrap ((ji22) + (Int.tmod (wrap64 (a0_2)) (wrap64 ((wrap64 ((l0_0.length : Int) - (ji22))) + 1))))) = ji44 := (i64_w _).trans hji44
                                          by_cases c45 : 0 ≤ (ji44)
                                          · rw [if_pos c45] at H
                                            have c45b0 := eq_true c45
                                            have c45b1 : decide (0 ≤ (ji44)) = true := decide_eq_true c45
                                            clear c45
                                            have c46b0 := eq_true (of_decide_eq_true (by first | (with_reducible assumption) | assumption) : (ji44) ≤ (l0_0.length : Int))
                                            obtain ⟨y464, hy464⟩ : ∃ y_ : List (S78), y_ = (l0_0.drop ((ji44) : Int).toNat) := ⟨_, rfl⟩
                                            replace H : ((assartref04_Items.f kj11 y460 y464).bind fun t468 => (some t468)) = some r := by first | (rw [hy464]; with_reducible exact H) | (have H2_ := (Option.bind_some _ _).symm.trans H; rw [hy464]; with_reducible exact H2_) | (have H2_ := (Option.bind_some _ _).symm.trans H; with_reducible exact H2_) | with_reducible exact H | (rw [hy464]; exact H) | exact H
                                            have Ny464 := Aside0.mk hy464
                                            clear hy464
                                            replace H := Option.bind_eq_some_iff.mp H
                                            obtain ⟨t468, A470, H⟩ := H
                                            replace H : (some t468) = some r := H
                                            have A47 := Aside0.mk A470
                                            clear A470
                                            obtain rfl := Option.some.inj H
                                            have q48 : ((ji44) : Int) ≤ ((l0_0.length : Int) : Int) := of_decide_eq_true (by first | (with_reducible assumption) | assumption)
                                            obtain ⟨i048, hi048, _, hsz48, _⟩ := info_parts info78
                                            have hroom48 : l0_0.length ≤ c0_0 := HC0_0.out
                                            have hC48 : Kd.C k78 _ A0_0 l0_0.length l0_0 := HR0_0.out
                                            have ql48 : ((ji22) : Int) ≤ ((ji44) : Int) := of_decide_eq_true (by first | (with_reducible assumption) | assumption)
                                            have q048 : (0 : Int) ≤ ((ji22) : Int) := of_decide_eq_true (by first | (with_reducible assumption) | assumption)
                                            have hcut48 := cut_mid (P := Try.prog) 54 78 .i64 .i64 Try.underlying54 hi048 2 hsz48 A0_0 l0_0.length c0_0 (ji22) (ji44) q048 ql48 q48 hroom48
                                            have hr48 := Kd.C_mid (lo := ((ji22) : Int).toNat) (hi := ((ji44) : Int).toNat) (c := c0_0) hC48 (by omega) (by omega) hroom48
                                            obtain ⟨A48, hA48⟩ : ∃ A1, A1 = (if c0_0 = ((ji22) : Int).toNat then A0_0 else (A0_0 : Option Addr).map (·.add (((ji22) : Int).toNat * 2))) := ⟨_, rfl⟩
                                            obtain ⟨c48, hc48⟩ : ∃ c1, c1 = c0_0 - ((ji22) : Int).toNat := ⟨_, rfl⟩
                                            have hy48 : y438.length = ((ji44) : Int).toNat - ((ji22) : Int).toNat := (by rw [Ny438.out, List.length_drop, List.length_take] <;> omega)
                                            rw [show ((l0_0).take ((ji44) : Int).toNat).drop ((ji22) : Int).toNat = y438 from Ny438.out.symm] at hr48
                                            replace hr48 : Kd.C k78 _ A48 y438.length y438 := (by rw [hA48]; exact hr48)
                                            rw [← hy48, ← hA48, ← hc48] at hcut48
                                            have HR441 := Aside0.mk hr48
                                            have HC441 := Aside0.mk (show y438.length ≤ c48 from by rw [hy48, hc48]; exact Nat.sub_le_sub_right (Nat.le_trans (by omega) hroom48) _)
                                            clear hr48 hC48 hroom48 hi048 hsz48 hc48
                                            have KY48 := Aside0.mk hy48
                                            have KA48 := Aside0.mk hA48
                                            clear hy48 hA48
                                            replace q48 := eq_true q48
                                            obtain ⟨Ao49, co49, eo49⟩ := Kd.R_slice HO_10.out
                                            subst eo49
                                            try go_wp2_with (first | ((with_reducible refine gate_callee (f := 41) rfl ?_); refine goesL_ (some 77) rfl rfl Try.func41 (by kernel_rfl) rfl #[.slice Ao49 t431.length co49, .int .i64 (ji22), .int .i64 (l0_3.length : Int), .slice A48 y438.length c48] rfl (by (try simp only [List.map_toArray, List.map_cons, List.map_nil]); first | done | (simp only [hji22]; rfl) | rfl | (simp only [List.length_drop, List.length_take]; rfl)) ?_; (with_reducible refine (node_With.calls (fun k_ => some k_ = (.slice Ao49 t431.length co49 : Value).ownBlock) _ _ t431 (ji22) (l0_3.length : Int) (fun k_ => k_ < w.heap.size) _ _ y438 t442 _ ?side1 ?side2 A26.out).mono ?_); (case side1 => exact Kd.R_V (Kd.R_tight rfl (Kd.R_types (HO_10.out) BK429.out (by decide)))); (case side2 => exact Kd.V_mk HC441.out (Kd.F_below (Kd.C_F k78_heap HR441.out) (by repeat (first | (with_reducible first | exact HB.out | apply below_alloc | apply pw_below_drewN | apply below_drew1 | refine below_set ?_ GE429.out) | exact HB.out)))); rintro e w50 ⟨v443, rfl, ho0, hb⟩; refine ⟨_, rfl, ?_⟩; have n0 := Aside0.mk (Kd.R_elder' (by (with_reducible repeat (first | apply Kd.R_alloc | apply Kd.R_drewN | apply Kd.R_drew)); exact HO_10.out) (Kd.R_base ho0) hb); have n1 := Aside0.mk (Kd.R_lower (Kd.R_new' (Kd.R_mono (ok' := fun k_ => True) ho0 (fun _ hk_ => trivial)) (Kd.R_lt (by (with_reducible repeat (first | apply Kd.R_alloc | apply Kd.R_drewN | apply Kd.R_drew)); exact HO_10.out))) (below_size (by repeat (first | (with_reducible first | exact HB.out | apply below_alloc | apply pw_below_drewN | apply below_drew1 | refine below_set ?_ GE429.out) | exact HB.out)))); have n2 := Aside0.mk (blk_below (g := gb429) (o := .cells #[.slice A0_0 l0_0.length c0_0, .int .u8 a0_1, .int .u8 a0_2, .slice A0_3 l0_3.length c0_3] 81 (0, 0)) (by (with_reducible repeat (first | refine blk_drewN ?_ _ | refine blk_drew ?_ | refine blk_alloc ?_ _)); exact BK429.out) hb); have n3 := Aside0.mk (below_step (by repeat (first | (with_reducible first | exact HB.out | apply below_alloc | apply pw_below_drewN | apply below_drew1 | refine below_set ?_ GE429.out) | exact HB.out)) hb); clear HO_10; clear BK429; clear HB; have HO_10 := n0; have HO444 := n1; have BK429 := n2; have HB := n3; clear n0 n1 n2 n3; (try clear hb); (try clear hb2); (try clear hk); (try clear hi); (try clear ho0)))
                                            have n0 := Aside0.mk (Kd.R_drew HO_10.out)
                                            have n1 := Aside0.mk (Kd.R_drew HO444.out)
                                            have n2 := Aside0.mk (blk_drew BK429.out)
                                            have n3 := Aside0.mk (below_drew1 HB.out)
                                            clear HO_10
                                            clear HO444
                                            clear BK429
                                            clear HB
                                            have HO_10 := n0
                                            have HO444 := n1
                                            have BK429 := n2
                                            have HB := n3
                                            clear n0 n1 n2 n3
                                            obtain ⟨Ao52, co52, eo52⟩ := Kd.R_slice HO444.out
                                            (first | subst eo52 | (injection eo52 with f1_ f2_ f3_; have f4_ := f1_.symm; have f5_ := f3_.symm; clear f1_ f2_ f3_; subst f4_; subst f5_))
                                            refine start_ (n := 41) (S := fun w' => True) (ds := []) #[false, false, false, false, false, false, false, false, false, false, false, false, false, false, false, false, false, false, false, false, false, false, false, false, false, false, false, false, false, false, false, false, false, false, false, false, false, false, false, false, false] (by kernel_rfl) rfl rfl trivial (fun hHeld => ?_); refine with_tabW assartlaw04_NodeWith.tab14 assartlaw04_NodeWith.bits14 (fun HT_ HW_ => ?_)
                                            generalize w50.drew = w51 at HO_10 HO444 BK429 HB hHeld ⊢
                                            refine pure_ (i := 0) (N := some 78) (v := ?_) (a' := ?_) #[true, false, false, false, false, false, false, false, false, false, false, false, false, false, false, false, false, false, false, false, false, false, false, false, false, false, false, false, false, false, false, false, false, false, false, false, false, false, false, false, false] rfl rfl (any_of HT_.out (by kernel_rfl)) (fun _ _ _ h => h) (Or.inl ⟨by rfl, ?_⟩) ?_ ?_
                                            rotate_left
                                            · intro w'
                                              go_simp
                                              with_reducible rfl
                                            rotate_left
                                            · simp only [Act.put, List.setIfInBounds_toArray, List.set_cons_zero, List.set_cons_succ, i64_w, i32_w]
                                              rfl
                                            refine pure_ (i := 1) (N := some 79) (v := ?_) (a' := ?_) #[true, true, false, false, false, false, false, false, false, false, false, false, false, false, false, false, false, false, false, false, false, false, false, false, false, false, false, false, false, false, false, false, false, false, false, false, false, false, false, false, false] rfl rfl (any_of HT_.out (by kernel_rfl)) (fun _ _ _ h => h) (Or.inl ⟨by rfl, ?_⟩) ?_ ?_
                                            rotate_left
                                            · intro w'
                                              go_simp
                                              with_reducible rfl
                                            rotate_left
                                            · simp only [Act.put, List.setIfInBounds_toArray, List.set_cons_zero, List.set_cons_succ, i64_w, i32_w]
                                              rfl
                                            refine pure_ (i := 2) (N := some 80) (v := ?_) (a' := ?_) #[true, true, true, false, false, false, false, false, false, false, false, false, false, false, false, false, false, false, false, false, false, false, false, false, false, false, false, false, false, false, false, false, false, false, false, false, false, false, false, false, false] rfl rfl (any_of HT_.out (by kernel_rfl)) (fun _ _ _ h => h) (Or.inl ⟨by rfl, ?_⟩) ?_ ?_
                                            rotate_left
                                            · intro w'
                                              go_simp
                                              with_reducible rfl
                                            rotate_left
                                            · simp only [Act.put, List.setIfInBounds_toArray, List.set_cons_zero, List.set_cons_succ, i64_w, i32_w]
                                              rfl
                                            refine pure_ (i := 3) (N := some 81) (v := ?_) (a' := ?_) #[true, true, true, true, false, false, false, false, false, false, false, false, false, false, false, false, false, false, false, false, false, false, false, false, false, false, false, false, false, false, false, false, false, false, false, false, false, false, false, false, false] rfl rfl (any_of HT_.out (by kernel_rfl)) (fun _ _ _ h => h) (Or.inl ⟨by rfl, ?_⟩) ?_ ?_
                                            rotate_left
                                            · intro w'
                                              go_simp
                                              with_reducible rfl
                                            rotate_left
                                            · simp only [Act.put, List.setIfInBounds_toArray, List.set_cons_zero, List.set_cons_succ, i64_w, i32_w]
                                              rfl
                                            refine one_ (i := 4) (N := some 82) #[true, true, true, true, true, false, false, false, false, false, false, false, false, false, false, false, false, false, false, false, false, false, false, false, false, false, false, false, false, false, false, false, false, false, false, false, false, false, false, false, false] rfl rfl (one_of HT_.out (by kernel_rfl)) (by decide) (fun K hK => ?_)
                                            refine goes_ Try.func40 (by kernel_rfl) rfl #[.slice Ao52 t442.length co52, .slice A0_0 l0_0.length c0_0] (by rfl) rfl rfl (by (try simp only [List.map_toArray, List.map_cons, List.map_nil]); first | done | rfl | (simp only [List.length_drop, List.length_take]; rfl)) ?_
                                            with_reducible refine (assartref04_Items.calls kj11 _ _ t442 _ _ l0_0 true _ ?side1 ?side2 ?side3 ?side4 A28.out).mono ?_
                                            (case side1 => repeat (first | exact (Kd.R_reads' HO444.out).2.2 | (with_reducible refine Kd.C_alloc ?_ _) | (with_reducible refine Kd.C_drewN ?_ _) | (with_reducible refine Kd.C_drew ?_)))
                                            (case side2 => exact (Kd.R_reads' HO444.out).2.1)
                                            (case side3 => repeat (first | exact (Kd.C_below HR0_0.out HB.out) | (with_reducible refine Kd.C_alloc ?_ _) | (with_reducible refine Kd.C_drewN ?_ _) | (with_reducible refine Kd.C_drew ?_)))
                                            (case side4 => exact HC0_0.out)
                                            rintro e w' ⟨rfl, ⟨nd, rfl⟩⟩
                                            refine ⟨_, rfl, ?_⟩
                                            have q53 : ((ji22) : Int) ≤ ((t431.length : Int) : Int) := of_decide_eq_true (by first | (with_reducible assumption) | assumption)
                                            obtain ⟨i053, hi053, _, hsz53, _⟩ := info_parts info78
                                            have hroom53 : t431.length ≤ co49 := (Kd.R_reads' HO_10.out).2.1
                                            have hC53 : Kd.C k78 _ Ao49 t431.length t431 := (Kd.R_reads' HO_10.out).2.2
                                            have hcut53 := cut_to (P := Try.prog) 54 78 .i64 Try.underlying54 hi053 Ao49 t431.length co49 (ji22) (of_decide_eq_true (by first | (with_reducible assumption) | assumption)) q53 hroom53
                                            have hr53 := Kd.C_take (m := ((ji22) : Int).toNat) hC53 (by omega)
                                            have hy53 : y446.length = ((ji22) : Int).toNat := (by rw [Ny446.out, List.length_take]; omega)
                                            rw [← Ny446.out] at hr53
                                            rw [← hy53] at hcut53
                                            have HR449 := Aside0.mk hr53
                                            have HC449 := Aside0.mk (show y446.length ≤ co49 from by omega)
                                            clear hr53 hC53 hroom53 hi053 hsz53
                                            have KY53 := Aside0.mk hy53
                                            clear hy53
                                            have KL53 := Aside0.mk (show ((ji22) : Int).toNat ≤ t431.length from by omega)
                                            replace q53 := eq_true q53
                                            have q54 : ((ji22) : Int) ≤ ((l0_0.length : Int) : Int) := of_decide_eq_true (by first | (with_reducible assumption) | assumption)
                                            obtain ⟨i054, hi054, _, hsz54, _⟩ := info_parts info78
                                            have hroom54 : l0_0.length ≤ c0_0 := HC0_0.out
                                            have hC54 : Kd.C k78 _ A0_0 l0_0.length l0_0 := HR0_0.out
                                            have hcut54 := cut_to (P := Try.prog) 54 78 .i64 Try.underlying54 hi054 A0_0 l0_0.length c0_0 (ji22) (of_decide_eq_true (by first | (with_reducible assumption) | assumption)) q54 hroom54
                                            have hr54 := Kd.C_take (m := ((ji22) : Int).toNat) hC54 (by omega)
                                            have hy54 : y450.length = ((ji22) : Int).toNat := (by rw [Ny450.out, List.length_take]; omega)
                                            rw [← Ny450.out] at hr54
                                            rw [← hy54] at hcut54
                                            have HR453 := Aside0.mk hr54
                                            have HC453 := Aside0.mk (show y450.length ≤ c0_0 from by omega)
                                            clear hr54 hC54 hroom54 hi054 hsz54
                                            have KY54 := Aside0.mk hy54
                                            clear hy54
                                            replace q54 := eq_true q54
                                            refine hK.out _ _ trivial (fun hHeld => ?_)
                                            clear hK K
                                            refine norm_ (a' := ?_) ?_ ?_
                                            rotate_left
                                            · show Act.put _ (some 82) _ = _
                                              simp only [Act.put, List.setIfInBounds_toArray, List.set_cons_zero, List.set_cons_succ, i64_w, i32_w]
                                              rfl
                                            refine pure_ (i := 5) (N := some 83) (v := ?_) (a' := ?_) #[true, true, true, true, true, true, false, false, false, false, false, false, false, false, false, false, false, false, false, false, false, false, false, false, false, false, false, false, false, false, false, false, false, false, false, false, false, false, false, false, false] rfl rfl (any_of HT_.out (by kernel_rfl)) (fun _ _ _ h => h) (Or.inl ⟨by rfl, ?_⟩) ?_ ?_
                                            rotate_left
                                            · intro w'
                                              go_simp
                                              with_reducible rfl
                                            rotate_left
                                            · simp only [Act.put, List.setIfInBounds_toArray, List.set_cons_zero, List.set_cons_succ, i64_w, i32_w]
                                              rfl
                                            refine pure_ (i := 6) (N := some 84) (v := ?_) (a' := ?_) #[true, true, true, true, true, true, true, false, false, false, false, false, false, false, false, false, false, false, false, false, false, false, false, false, false, false, false, false, false, false, false, false, false, false, false, false, false, false, false, false, false] rfl rfl (any_of HT_.out (by kernel_rfl)) (fun _ _ _ h => h) (Or.inl ⟨by rfl, ?_⟩) ?_ ?_
                                            rotate_left
                                            · intro w'
                                              go_simp
                                              with_reducible rfl
                                            rotate_left
                                            · simp only [Act.put, List.setIfInBounds_toArray, List.set_cons_zero, List.set_cons_succ, i64_w, i32_w]
                                              rfl
                                            refine pure_ (i := 7) (N := some 85) (v := ?_) (a' := ?_) #[true, true, true, true, true, true, true, true, false, false, false, false, false, false, false, false, false, false, false, false, false, false, false, false, false, false, false, false, false, false, false, false, false, false, false, false, false, false, false, false, false] rfl rfl (any_of HT_.out (by kernel_rfl)) (fun _ _ _ h => h) (Or.inl ⟨by rfl, ?_⟩) ?_ ?_
                                            rotate_left
                                            · intro w'
                                              go_simp
                                              with_reducible rfl
                                            rotate_left
                                            · simp only [Act.put, List.setIfInBounds_toArray, List.set_cons_zero, List.set_cons_succ, i64_w, i32_w]
                                              rfl
                                            refine pure_ (i := 8) (N := some 86) (v := ?_) (a' := ?_) #[true, true, true, true, true, true, true, true, true, false, false, false, false, false, false, false, false, false, false, false, false, false, false, false, false, false, false, false, false, false, false, false, false, false, false, false, false, false, false, false, false] rfl rfl (any_of HT_.out (by kernel_rfl)) (fun _ _ _ h => h) (Or.inl ⟨by rfl, ?_⟩) ?_ ?_
                                            rotate_left
                                            · intro w'
                                              go_simp
                                              with_reducible rfl
                                            rotate_left
                                            · simp only [Act.put, List.setIfInBounds_toArray, List.set_cons_zero, List.set_cons_succ, i64_w, i32_w]
                                              rfl
                                            refine pure_ (i := 9) (N := some 87) (v := ?_) (a' := ?_) #[true, true, true, true, true, true, true, true, true, true, false, false, false, false, false, false, false, false, false, false, false, false, false, false, false, false, false, false, false, false, false, false, false, false, false, false, false, false, false, false, false] rfl rfl (any_of HT_.out (by kernel_rfl)) (fun _ _ _ h => h) (Or.inl ⟨by rfl, ?_⟩) ?_ ?_
                                            rotate_left
                                            · intro w'
                                              go_simp
                                              with_reducible rfl
                                            rotate_left
                                            · simp only [Act.put, List.setIfInBounds_toArray, List.set_cons_zero, List.set_cons_succ, i64_w, i32_w]
                                              rfl
                                            refine pure_ (i := 10) (N := some 88) (v := ?_) (a' := ?_) #[true, true, true, true, true, true, true, true, true, true, true, false, false, false, false, false, false, false, false, false, false, false, false, false, false, false, false, false, false, false, false, false, false, false, false, false, false, false, false, false, false] rfl rfl (any_of HT_.out (by kernel_rfl)) (fun _ _ _ h => h) (Or.inl ⟨by rfl, ?_⟩) ?_ ?_
                                            rotate_left
                                            · intro w'
                                              go_simp
                                              with_reducible rfl
                                            rotate_left
                                            · simp only [Act.put, List.setIfInBounds_toArray, List.set_cons_zero, List.set_cons_succ, i64_w, i32_w]
                                              rfl
                                            refine pure_ (i := 11) (N := some 89) (v := ?_) (a' := ?_) #[true, true, true, true, true, true, true, true, true, true, true, true, false, false, false, false, false, false, false, false, false, false, false, false, false, false, false, false, false, false, false, false, false, false, false, false, false, false, false, false, false] rfl rfl (any_of HT_.out (by kernel_rfl)) (fun _ _ _ h => h) (Or.inl ⟨by rfl, ?_⟩) ?_ ?_
                                            rotate_left
                                            · intro w'
                                              go_simp
                                              with_reducible rfl
                                            rotate_left
                                            · simp only [Act.put, List.setIfInBounds_toArray, List.set_cons_zero, List.set_cons_succ, i64_w, i32_w]
                                              rfl
                                            refine pure_ (i := 12) (N := some 90) (v := ?_) (a' := ?_) #[true, true, true, true, true, true, true, true, true, true, true, true, true, false, false, false, false, false, false, false, false, false, false, false, false, false, false, false, false, false, false, false, false, false, false, false, false, false, false, false, false] rfl rfl (any_of HT_.out (by kernel_rfl)) (fun _ _ _ h => h) (Or.inl ⟨by rfl, ?_⟩) ?_ ?_
                                            rotate_left
                                            · intro w'
                                              go_simp
                                              with_reducible rfl
                                            rotate_left
                                            · simp only [Act.put, List.setIfInBounds_toArray, List.set_cons_zero, List.set_cons_succ, i64_w, i32_w]
                                              rfl
                                            refine one_ (i := 13) (N := some 91) #[true, true, true, true, true, true, true, true, true, true, true, true, true, true, false, false, false, false, false, false, false, false, false, false, false, false, false, false, false, false, false, false, false, false, false, false, false, false, false, false, false] rfl rfl (one_of HT_.out (by kernel_rfl)) (by decide) (fun K hK => ?_)
                                            refine goes_ Try.func40 (by kernel_rfl) rfl #[.slice Ao49 y446.length co49, .slice A0_0 y450.length c0_0] (by rfl) rfl rfl (by (try simp only [List.map_toArray, List.map_cons, List.map_nil]); first | done | rfl | (simp only [List.length_drop, List.length_take]; rfl)) ?_
                                            with_reducible refine (assartref04_Items.calls kj11 _ _ y446 _ _ y450 true _ ?side1 ?side2 ?side3 ?side4 A34.out).mono ?_
                                            (case side1 => repeat (first | exact (by repeat (first | (with_reducible exact HR449.out) | (with_reducible refine Kd.C_alloc ?_ _) | (with_reducible refine Kd.C_drewN ?_ _) | (with_reducible refine Kd.C_drew ?_) | exact HR449.out)) | (with_reducible refine Kd.C_alloc ?_ _) | (with_reducible refine Kd.C_drewN ?_ _) | (with_reducible refine Kd.C_drew ?_)))
                                            (case side2 => exact HC449.out)
                                            (case side3 => repeat (first | exact (Kd.C_below HR453.out (by repeat (first | (with_reducible first | exact HB.out | apply below_alloc | apply pw_below_drewN | apply below_drew1 | refine below_set ?_ GE429.out) | exact HB.out))) | (with_reducible refine Kd.C_alloc ?_ _) | (with_reducible refine Kd.C_drewN ?_ _) | (with_reducible refine Kd.C_drew ?_)))
                                            (case side4 => exact HC453.out)
                                            rintro e w' ⟨rfl, ⟨nd, rfl⟩⟩
                                            refine ⟨_, rfl, ?_⟩
                                            have q55 : ((ji41) : Int) ≤ ((t431.length : Int) : Int) := of_decide_eq_true (by first | (with_reducible assumption) | assumption)
                                            obtain ⟨i055, hi055, _, hsz55, _⟩ := info_parts info78
                                            have hroom55 : t431.length ≤ co49 := (Kd.R_reads' HO_10.out).2.1
                                            have hC55 : Kd.C k78 _ Ao49 t431.length t431 := (Kd.R_reads' HO_10.out).2.2
                                            have ql55 : ((ji22) : Int) ≤ ((ji41) : Int) := of_decide_eq_true (by first | (with_reducible assumption) | assumption)
                                            have q055 : (0 : Int) ≤ ((ji22) : Int) := of_decide_eq_true (by first | (with_reducible assumption) | assumption)
                                            have hcut55 := cut_mid (P := Try.prog) 54 78 .i64 .i64 Try.underlying54 hi055 2 hsz55 Ao49 t431.length co49 (ji22) (ji41) q055 ql55 q55 hroom55
                                            have hr55 := Kd.C_mid (lo := ((ji22) : Int).toNat) (hi := ((ji41) : Int).toNat) (c := co49) hC55 (by omega) (by omega) hroom55
                                            obtain ⟨A55, hA55⟩ : ∃ A1, A1 = (if co49 = ((ji22) : Int).toNat then Ao49 else (Ao49 : Option Addr).map (·.add (((ji22) : Int).toNat * 2))) := ⟨_, rfl⟩
                                            obtain ⟨c55, hc55⟩ : ∃ c1, c1 = co49 - ((ji22) : Int).toNat := ⟨_, rfl⟩
                                            have hy55 : y455.length = ((ji41) : Int).toNat - ((ji22) : Int).toNat := (by rw [Ny455.out, List.length_drop, List.length_take] <;> omega)
                                            rw [show ((t431).take ((ji41) : Int).toNat).drop ((ji22) : Int).toNat = y455 from Ny455.out.symm] at hr55
                                            replace hr55 : Kd.C k78 _ A55 y455.length y455 := (by rw [hA55]; exact hr55)
                                            rw [← hy55, ← hA55, ← hc55] at hcut55
                                            have HR458 := Aside0.mk hr55
                                            have HC458 := Aside0.mk (show y455.length ≤ c55 from by rw [hy55, hc55]; exact Nat.sub_le_sub_right (Nat.le_trans (by omega) hroom55) _)
                                            clear hr55 hC55 hroom55 hi055 hsz55 hc55
                                            have KY55 := Aside0.mk hy55
                                            have KA55 := Aside0.mk hA55
                                            clear hy55 hA55
                                            have KL55 := Aside0.mk (show ((ji41) : Int).toNat ≤ t431.length from by omega)
                                            have KM55 := Aside0.mk (show ((ji22) : Int).toNat ≤ ((ji41) : Int).toNat from by omega)
                                            replace q55 := eq_true q55
                                            refine hK.out _ _ trivial (fun hHeld => ?_)
                                            clear hK K
                                            refine norm_ (a' := ?_) ?_ ?_
                                            rotate_left
                                            · show Act.put _ (some 91) _ = _
                                              simp only [Act.put, List.setIfInBounds_toArray, List.set_cons_zero, List.set_cons_succ, i64_w, i32_w]
                                              rfl
                                            refine pure_ (i := 14) (N := some 92) (v := ?_) (a' := ?_) #[true, true, true, true, true, true, true, true, true, true, true, true, true, true, true, false, false, false, false, false, false, false, false, false, false, false, false, false, false, false, false, false, false, false, false, false, false, false, false, false, false] rfl rfl (any_of HT_.out (by kernel_rfl)) (fun _ _ _ h => h) (Or.inl ⟨by rfl, ?_⟩) ?_ ?_
                                            rotate_left
                                            · intro w'
                                              go_simp
                                              with_reducible rfl
                                            rotate_left
                                            · simp only [Act.put, List.setIfInBounds_toArray, List.set_cons_zero, List.set_cons_succ, i64_w, i32_w]
                                              rfl
                                            refine pure_ (i := 15) (N := some 93) (v := ?_) (a' := ?_) #[true, true, true, true, true, true, true, true, true, true, true, true, true, true, true, true, false, false, false, false, false, false, false, false, false, false, false, false, false, false, false, false, false, false, false, false, false, false, false, false, false] rfl rfl (any_of HT_.out (by kernel_rfl)) (fun _ _ _ h => h) (Or.inl ⟨by rfl, ?_⟩) ?_ ?_
                                            rotate_left
                                            · intro w'
                                              go_simp
                                              with_reducible rfl
                                            rotate_left
                                            · simp only [Act.put, List.setIfInBounds_toArray, List.set_cons_zero, List.set_cons_succ, i64_w, i32_w]
                                              rfl
                                            refine pure_ (i := 16) (N := some 94) (v := ?_) (a' := ?_) #[true, true, true, true, true, true, true, true, true, true, true, true, true, true, true, true, true, false, false, false, false, false, false, false, false, false, false, false, false, false, false, false, false, false, false, false, false, false, false, false, false] rfl rfl (any_of HT_.out (by kernel_rfl)) (fun _ _ _ h => h) (Or.inl ⟨by rfl, ?_⟩) ?_ ?_
                                            rotate_left
                                            · intro w'
                                              go_simp
                                              with_reducible rfl
                                            rotate_left
                                            · simp only [Act.put, List.setIfInBounds_toArray, List.set_cons_zero, List.set_cons_succ, i64_w, i32_w]
                                              rfl
                                            refine pure_ (i := 17) (N := some 95) (v := ?_) (a' := ?_) #[true, true, true, true, true, true, true, true, true, true, true, true, true, true, true, true, true, true, false, false, false, false, false, false, false, false, false, false, false, false, false, false, false, false, false, false, false, false, false, false, false] rfl rfl (any_of HT_.out (by kernel_rfl)) (fun _ _ _ h => h) (Or.inl ⟨by rfl, ?_⟩) ?_ ?_
                                            rotate_left
                                            · intro w'
                                              go_simp
                                              with_reducible rfl
                                            rotate_left
                                            · simp only [Act.put, List.setIfInBounds_toArray, List.set_cons_zero, List.set_cons_succ, i64_w, i32_w]
                                              rfl
                                            refine pure_ (i := 18) (N := some 96) (v := ?_) (a' := ?_) #[true, true, true, true, true, true, true, true, true, true, true, true, true, true, true, true, true, true, true, false, false, false, false, false, false, false, false, false, false, false, false, false, false, false, false, false, false, false, false, false, false] rfl rfl (any_of HT_.out (by kernel_rfl)) (fun _ _ _ h => h) (Or.inl ⟨by rfl, ?_⟩) ?_ ?_
                                            rotate_left
                                            · intro w'
                                              go_simp
                                              with_reducible rfl
                                            rotate_left
                                            · simp only [Act.put, List.setIfInBounds_toArray, List.set_cons_zero, List.set_cons_succ, i64_w, i32_w]
                                              rfl
                                            refine pure_ (i := 19) (N := some 97) (v := ?_) (a' := ?_) #[true, true, true, true, true, true, true, true, true, true, true, true, true, true, true, true, true, true, true, true, false, false, false, false, false, false, false, false, false, false, false, false, false, false, false, false, false, false, false, false, false] rfl rfl (any_of HT_.out (by kernel_rfl)) (fun _ _ _ h => h) (Or.inl ⟨by rfl, ?_⟩) ?_ ?_
                                            rotate_left
                                            · intro w'
                                              go_simp
                                              with_reducible rfl
                                            rotate_left
                                            · simp only [Act.put, List.setIfInBounds_toArray, List.set_cons_zero, List.set_cons_succ, i64_w, i32_w]
                                              rfl
                                            refine pure_ (i := 20) (N := some 98) (v := ?_) (a' := ?_) #[true, true, true, true, true, true, true, true, true, true, true, true, true, true, true, true, true, true, true, true, true, false, false, false, false, false, false, false, false, false, false, false, false, false, false, false, false, false, false, false, false] rfl rfl (any_of HT_.out (by kernel_rfl)) (fun _ _ _ h => h) (Or.inl ⟨by rfl, ?_⟩) ?_ ?_
                                            rotate_left
                                            · intro w'
                                              go_simp
                                              with_reducible rfl
                                            rotate_left
                                            · simp only [Act.put, List.setIfInBounds_toArray, List.set_cons_zero, List.set_cons_succ, i64_w, i32_w]
                                              rfl
                                            refine pure_ (i := 21) (N := some 99) (v := ?_) (a' := ?_) #[true, true, true, true, true, true, true, true, true, true, true, true, true, true, true, true, true, true, true, true, true, true, false, false, false, false, false, false, false, false, false, false, false, false, false, false, false, false, false, false, false] rfl rfl (any_of HT_.out (by kernel_rfl)) (fun _ _ _ h => h) (Or.inl ⟨by rfl, ?_⟩) ?_ ?_
                                            rotate_left
                                            · intro w'
                                              go_simp
                                              with_reducible rfl
                                            rotate_left
                                            · simp only [Act.put, List.setIfInBounds_toArray, List.set_cons_zero, List.set_cons_succ, i64_w, i32_w]
                                              rfl
                                            refine pure_ (i := 22) (N := some 100) (v := ?_) (a' := ?_) #[true, true, true, true, true, true, true, true, true, true, true, true, true, true, true, true, true, true, true, true, true, true, true, false, false, false, false, false, false, false, false, false, false, false, false, false, false, false, false, false, false] rfl rfl (any_of HT_.out (by kernel_rfl)) (fun _ _ _ h => h) (Or.inl ⟨by rfl, ?_⟩) ?_ ?_
                                            rotate_left
                                            · intro w'
                                              go_simp
                                              with_reducible rfl
                                            rotate_left
                                            · simp only [Act.put, List.setIfInBounds_toArray, List.set_cons_zero, List.set_cons_succ, i64_w, i32_w]
                                              rfl
                                            refine pure_ (i := 23) (N := some 101) (v := ?_) (a' := ?_) #[true, true, true, true, true, true, true, true, true, true, true, true, true, true, true, true, true, true, true, true, true, true, true, true, false, false, false, false, false, false, false, false, false, false, false, false, false, false, false, false, false] rfl rfl (any_of HT_.out (by kernel_rfl)) (fun _ _ _ h => h) (Or.inl ⟨by rfl, ?_⟩) ?_ ?_
                                            rotate_left
                                            · intro w'
                                              go_simp
                                              with_reducible rfl
                                            rotate_left
                                            · simp only [Act.put, List.setIfInBounds_toArray, List.set_cons_zero, List.set_cons_succ, i64_w, i32_w]
                                              rfl
                                            refine one_ (i := 24) (N := some 102) #[true, true, true, true, true, true, true, true, true, true, true, true, true, true, true, true, true, true, true, true, true, true, true, true, true, false, false, false, false, false, false, false, false, false, false, false, false, false, false, false, false] rfl rfl (one_of HT_.out (by kernel_rfl)) (by decide) (fun K hK => ?_)
                                            refine goes_ Try.func40 (by kernel_rfl) rfl #[.slice A55 y455.length c55, .slice A0_3 l0_3.length c0_3] (by rfl) rfl rfl (by (try simp only [List.map_toArray, List.map_cons, List.map_nil]); first | done | rfl | (simp only [List.length_drop, List.length_take]; rfl)) ?_
                                            with_reducible refine (assartref04_Items.calls kj11 _ _ y455 _ _ l0_3 true _ ?side1 ?side2 ?side3 ?side4 A39.out).mono ?_
                                            (case side1 => repeat (first | exact (by repeat (first | (with_reducible exact HR458.out) | (with_reducible refine Kd.C_alloc ?_ _) | (with_reducible refine Kd.C_drewN ?_ _) | (with_reducible refine Kd.C_drew ?_) | exact HR458.out)) | (with_reducible refine Kd.C_alloc ?_ _) | (with_reducible refine Kd.C_drewN ?_ _) | (with_reducible refine Kd.C_drew ?_)))
                                            (case side2 => exact HC458.out)
                                            (case side3 => repeat (first | exact (Kd.C_below HR0_3.out (by repeat (first | (with_reducible first | exact HB.out | apply below_alloc | apply pw_below_drewN | apply below_drew1 | refine below_set ?_ GE429.out) | exact HB.out))) | (with_reducible refine Kd.C_alloc ?_ _) | (with_reducible refine Kd.C_drewN ?_ _) | (with_reducible refine Kd.C_drew ?_)))
                                            (case side4 => exact HC0_3.out)
                                            rintro e w' ⟨rfl, ⟨nd, rfl⟩⟩
                                            refine ⟨_, rfl, ?_⟩
                                            have q56 : ((ji41) : Int) ≤ ((t431.length : Int) : Int) := of_decide_eq_true (by first | (with_reducible assumption) | assumption)
                                            obtain ⟨i056, hi056, _, hsz56, _⟩ := info_parts info78
                                            have hroom56 : t431.length ≤ co49 := (Kd.R_reads' HO_10.out).2.1
                                            have hC56 : Kd.C k78 _ Ao49 t431.length t431 := (Kd.R_reads' HO_10.out).2.2
                                            have q056 : (0 : Int) ≤ ((ji41) : Int) := of_decide_eq_true (by first | (with_reducible assumption) | assumption)
                                            have hcut56 := cut_from (P := Try.prog) 54 78 .i64 Try.underlying54 hi056 2 hsz56 Ao49 t431.length co49 (ji41) q056 q56
                                            have hr56 := Kd.C_drop (m := ((ji41) : Int).toNat) (c := co49) hC56 (by omega) hroom56
                                            obtain ⟨A56, hA56⟩ : ∃ A1, A1 = (if co49 = ((ji41) : Int).toNat then Ao49 else (Ao49 : Option Addr).map (·.add (((ji41) : Int).toNat * 2))) := ⟨_, rfl⟩
                                            obtain ⟨c56, hc56⟩ : ∃ c1, c1 = co49 - ((ji41) : Int).toNat := ⟨_, rfl⟩
                                            have hy56 : y460.length = t431.length - ((ji41) : Int).toNat := (by rw [Ny460.out, List.length_drop] <;> omega)
                                            rw [show (t431).drop ((ji41) : Int).toNat = y460 from Ny460.out.symm] at hr56
                                            replace hr56 : Kd.C k78 _ A56 y460.length y460 := (by rw [hA56]; exact hr56)
                                            rw [← hy56, ← hA56, ← hc56] at hcut56
                                            have HR463 := Aside0.mk hr56
                                            have HC463 := Aside0.mk (show y460.length ≤ c56 from by rw [hy56, hc56]; exact Nat.sub_le_sub_right hroom56 _)
                                            clear hr56 hC56 hroom56 hi056 hsz56 hc56
                                            have KY56 := Aside0.mk hy56
                                            have KA56 := Aside0.mk hA56
                                            clear hy56 hA56
                                            have KL56 := Aside0.mk (show ((ji41) : Int).toNat ≤ t431.length from by omega)
                                            replace q56 := eq_true q56
                                            have q57 : ((ji44) : Int) ≤ ((l0_0.length : Int) : Int) := of_decide_eq_true (by first | (with_reducible assumption) | assumption)
                                            obtain ⟨i057, hi057, _, hsz57, _⟩ := info_parts info78
                                            have hroom57 : l0_0.length ≤ c0_0 := HC0_0.out
                                            have hC57 : Kd.C k78 _ A0_0 l0_0.length l0_0 := HR0_0.out
                                            have q057 : (0 : Int) ≤ ((ji44) : Int) := of_decide_eq_true (by first | (with_reducible assumption) | assumption)
                                            have hcut57 := cut_from (P := Try.prog) 54 78 .i64 Try.underlying54 hi057 2 hsz57 A0_0 l0_0.length c0_0 (ji44) q057 q57
                                            have hr57 := Kd.C_drop (m := ((ji44) : Int).toNat) (c := c0_0) hC57 (by omega) hroom57
                                            obtain ⟨A57, hA57⟩ : ∃ A1, A1 = (if c0_0 = ((ji44) : Int).toNat then A0_0 else (A0_0 : Option Addr).map (·.add (((ji44) : Int).toNat * 2))) := ⟨_, rfl⟩
                                            obtain ⟨c57, hc57⟩ : ∃ c1, c1 = c0_0 - ((ji44) : Int).toNat := ⟨_, rfl⟩
                                            have hy57 : y464.length = l0_0.length - ((ji44) : Int).toNat := (by rw [Ny464.out, List.length_drop] <;> omega)
                                            rw [show (l0_0).drop ((ji44) : Int).toNat = y464 from Ny464.out.symm] at hr57
                                            replace hr57 : Kd.C k78 _ A57 y464.length y464 := (by rw [hA57]; exact hr57)
                                            rw [← hy57, ← hA57, ← hc57] at hcut57
                                            have HR467 := Aside0.mk hr57
                                            have HC467 := Aside0.mk (show y464.length ≤ c57 from by rw [hy57, hc57]; exact Nat.sub_le_sub_right hroom57 _)
                                            clear hr57 hC57 hroom57 hi057 hsz57 hc57
                                            have KY57 := Aside0.mk hy57
                                            have KA57 := Aside0.mk hA57
                                            clear hy57 hA57
                                            replace q57 := eq_true q57
                                            refine hK.out _ _ trivial (fun hHeld => ?_)
                                            clear hK K
                                            refine norm_ (a' := ?_) ?_ ?_
                                            rotate_left
                                            · show Act.put _ (some 102) _ = _
                                              simp only [Act.put, List.setIfInBounds_toArray, List.set_cons_zero, List.set_cons_succ, i64_w, i32_w]
                                              rfl
                                            refine pure_ (i := 25) (N := some 103) (v := ?_) (a' := ?_) #[true, true, true, true, true, true, true, true, true, true, true, true, true, true, true, true, true, true, true, true, true, true, true, true, true, true, false, false, false, false, false, false, false, false, false, false, false, false, false, false, false] rfl rfl (any_of HT_.out (by kernel_rfl)) (fun _ _ _ h => h) (Or.inl ⟨by rfl, ?_⟩) ?_ ?_
                                            rotate_left
                                            · intro w'
                                              go_simp
                                              with_reducible rfl
                                            rotate_left
                                            · simp only [Act.put, List.setIfInBounds_toArray, List.set_cons_zero, List.set_cons_succ, i64_w, i32_w]
                                              rfl
                                            refine pure_ (i := 26) (N := some 104) (v := ?_) (a' := ?_) #[true, true, true, true, true, true, true, true, true, true, true, true, true, true, true, true, true, true, true, true, true, true, true, true, true, true, true, false, false, false, false, false, false, false, false, false, false, false, false, false, false] rfl rfl (any_of HT_.out (by kernel_rfl)) (fun _ _ _ h => h) (Or.inl ⟨by rfl, ?_⟩) ?_ ?_
                                            rotate_left
                                            · intro w'
                                              go_simp
                                              with_reducible rfl
                                            rotate_left
                                            · simp only [Act.put, List.setIfInBounds_toArray, List.set_cons_zero, List.set_cons_succ, i64_w, i32_w]
                                              rfl
                                            refine pure_ (i := 27) (N := some 105) (v := ?_) (a' := ?_) #[true, true, true, true, true, true, true, true, true, true, true, true, true, true, true, true, true, true, true, true, true, true, true, true, true, true, true, true, false, false, false, false, false, false, false, false, false, false, false, false, false] rfl rfl (any_of HT_.out (by kernel_rfl)) (fun _ _ _ h => h) (Or.inl ⟨by rfl, ?_⟩) ?_ ?_
                                            rotate_left
                                            · intro w'
                                              go_simp
                                              with_reducible rfl
                                            rotate_left
                                            · simp only [Act.put, List.setIfInBounds_toArray, List.set_cons_zero, List.set_cons_succ, i64_w, i32_w]
                                              rfl
                                            refine pure_ (i := 28) (N := some 106) (v := ?_) (a' := ?_) #[true, true, true, true, true, true, true, true, true, true, true, true, true, true, true, true, true, true, true, true, true, true, true, true, true, true, true, true, true, false, false, false, false, false, false, false, false, false, false, false, false] rfl rfl (any_of HT_.out (by kernel_rfl)) (fun _ _ _ h => h) (Or.inl ⟨by rfl, ?_⟩) ?_ ?_
                                            rotate_left
                                            · intro w'
                                              go_simp
                                              with_reducible rfl
                                            rotate_left
                                            · simp only [Act.put, List.setIfInBounds_toArray, List.set_cons_zero, List.set_cons_succ, i64_w, i32_w]
                                              rfl
                                            refine pure_ (i := 29) (N := some 107) (v := ?_) (a' := ?_) #[true, true, true, true, true, true, true, true, true, true, true, true, true, true, true, true, true, true, true, true, true, true, true, true, true, true, true, true, true, true, false, false, false, false, false, false, false, false, false, false, false] rfl rfl (any_of HT_.out (by kernel_rfl)) (fun _ _ _ h => h) (Or.inl ⟨by rfl, ?_⟩) ?_ ?_
                                            rotate_left
                                            · intro w'
                                              go_simp
                                              with_reducible rfl
                                            rotate_left
                                            · simp only [Act.put, List.setIfInBounds_toArray, List.set_cons_zero, List.set_cons_succ, i64_w, i32_w]
                                              rfl
                                            refine pure_ (i := 30) (N := some 108) (v := ?_) (a' := ?_) #[true, true, true, true, true, true, true, true, true, true, true, true, true, true, true, true, true, true, true, true, true, true, true, true, true, true, true, true, true, true, true, false, false, false, false, false, false, false, false, false, false] rfl rfl (any_of HT_.out (by kernel_rfl)) (fun _ _ _ h => h) (Or.inl ⟨by rfl, ?_⟩) ?_ ?_
                                            rotate_left
                                            · intro w'
                                              go_simp
                                              with_reducible rfl
                                            rotate_left
                                            · simp only [Act.put, List.setIfInBounds_toArray, List.set_cons_zero, List.set_cons_succ, i64_w, i32_w]
                                              rfl
                                            refine pure_ (i := 31) (N := some 109) (v := ?_) (a' := ?_) #[true, true, true, true, true, true, true, true, true, true, true, true, true, true, true, true, true, true, true, true, true, true, true, true, true, true, true, true, true, true, true, true, false, false, false, false, false, false, false, false, false] rfl rfl (any_of HT_.out (by kernel_rfl)) (fun _ _ _ h => h) (Or.inl ⟨by rfl, ?_⟩) ?_ ?_
                                            rotate_left
                                            · intro w'
                                              go_simp
                                              with_reducible rfl
                                            rotate_left
                                            · simp only [Act.put, List.setIfInBounds_toArray, List.set_cons_zero, List.set_cons_succ, i64_w, i32_w]
                                              rfl
                                            refine pure_ (i := 32) (N := some 110) (v := ?_) (a' := ?_) #[true, true, true, true, true, true, true, true, true, true, true, true, true, true, true, true, true, true, true, true, true, true, true, true, true, true, true, true, true, true, true, true, true, false, false, false, false, false, false, false, false] rfl rfl (any_of HT_.out (by kernel_rfl)) (fun _ _ _ h => h) (Or.inl ⟨by rfl, ?_⟩) ?_ ?_
                                            rotate_left
                                            · intro w'
                                              go_simp
                                              with_reducible rfl
                                            rotate_left
                                            · simp only [Act.put, List.setIfInBounds_toArray, List.set_cons_zero, List.set_cons_succ, i64_w, i32_w]
                                              rfl
                                            refine pure_ (i := 33) (N := some 111) (v := ?_) (a' := ?_) #[true, true, true, true, true, true, true, true, true, true, true, true, true, true, true, true, true, true, true, true, true, true, true, true, true, true, true, true, true, true, true, true, true, true, false, false, false, false, false, false, false] rfl rfl (any_of HT_.out (by kernel_rfl)) (fun _ _ _ h => h) (Or.inl ⟨by rfl, ?_⟩) ?_ ?_
                                            rotate_left
                                            · intro w'
                                              go_simp
                                              with_reducible rfl
                                            rotate_left
                                            · simp only [Act.put, List.setIfInBounds_toArray, List.set_cons_zero, List.set_cons_succ, i64_w, i32_w]
                                              rfl
                                            refine pure_ (i := 34) (N := some 112) (v := ?_) (a' := ?_) #[true, true, true, true, true, true, true, true, true, true, true, true, true, true, true, true, true, true, true, true, true, true, true, true, true, true, true, true, true, true, true, true, true, true, true, false, false, false, false, false, false] rfl rfl (any_of HT_.out (by kernel_rfl)) (fun _ _ _ h => h) (Or.inl ⟨by rfl, ?_⟩) ?_ ?_
                                            rotate_left
                                            · intro w'
                                              go_simp
                                              with_reducible rfl
                                            rotate_left
                                            · simp only [Act.put, List.setIfInBounds_toArray, List.set_cons_zero, List.set_cons_succ, i64_w, i32_w]
                                              rfl
                                            refine pure_ (i := 35) (N := some 113) (v := ?_) (a' := ?_) #[true, true, true, true, true, true, true, true, true, true, true, true, true, true, true, true, true, true, true, true, true, true, true, true, true, true, true, true, true, true, true, true, true, true, true, true, false, false, false, false, false] rfl rfl (any_of HT_.out (by kernel_rfl)) (fun _ _ _ h => h) (Or.inl ⟨by rfl, ?_⟩) ?_ ?_
                                            rotate_left
                                            · intro w'
                                              go_simp
                                              with_reducible rfl
                                            rotate_left
                                            · simp only [Act.put, List.setIfInBounds_toArray, List.set_cons_zero, List.set_cons_succ, i64_w, i32_w]
                                              rfl
                                            refine pure_ (i := 36) (N := some 114) (v := ?_) (a' := ?_) #[true, true, true, true, true, true, true, true, true, true, true, true, true, true, true, true, true, true, true, true, true, true, true, true, true, true, true, true, true, true, true, true, true, true, true, true, true, false, false, false, false] rfl rfl (any_of HT_.out (by kernel_rfl)) (fun _ _ _ h => h) (Or.inl ⟨by rfl, ?_⟩) ?_ ?_
                                            rotate_left
                                            · intro w'
                                              go_simp
                                              with_reducible rfl
                                            rotate_left
                                            · simp only [Act.put, List.setIfInBounds_toArray, List.set_cons_zero, List.set_cons_succ, i64_w, i32_w]
                                              rfl
                                            refine pure_ (i := 37) (N := some 115) (v := ?_) (a' := ?_) #[true, true, true, true, true, true, true, true, true, true, true, true, true, true, true, true, true, true, true, true, true, true, true, true, true, true, true, true, true, true, true, true, true, true, true, true, true, true, false, false, false] rfl rfl (any_of HT_.out (by kernel_rfl)) (fun _ _ _ h => h) (Or.inl ⟨by rfl, ?_⟩) ?_ ?_
                                            rotate_left
                                            · intro w'
                                              go_simp
                                              with_reducible rfl
                                            rotate_left
                                            · simp only [Act.put, List.setIfInBounds_toArray, List.set_cons_zero, List.set_cons_succ, i64_w, i32_w]
                                              rfl
                                            refine one_ (i := 38) (N := some 116) #[true, true, true, true, true, true, true, true, true, true, true, true, true, true, true, true, true, true, true, true, true, true, true, true, true, true, true, true, true, true, true, true, true, true, true, true, true, true, true, false, false] rfl rfl (one_of HT_.out (by kernel_rfl)) (by decide) (fun K hK => ?_)
                                            refine goes_ Try.func40 (by kernel_rfl) rfl #[.slice A56 y460.length c56, .slice A57 y464.length c57] (by rfl) rfl rfl (by (try simp only [List.map_toArray, List.map_cons, List.map_nil]); first | done | rfl | (simp only [List.length_drop, List.length_take]; rfl)) ?_
                                            with_reducible refine (assartref04_Items.calls kj11 _ _ y460 _ _ y464 t468 _ ?side1 ?side2 ?side3 ?side4 A47.out).mono ?_
                                            (case side1 => repeat (first | exact (by repeat (first | (with_reducible exact HR463.out) | (with_reducible refine Kd.C_alloc ?_ _) | (with_reducible refine Kd.C_drewN ?_ _) | (with_reducible refine Kd.C_drew ?_) | exact HR463.out)) | (with_reducible refine Kd.C_alloc ?_ _) | (with_reducible refine Kd.C_drewN ?_ _) | (with_reducible refine Kd.C_drew ?_)))
                                            (case side2 => exact HC463.out)
                                            (case side3 => repeat (first | exact (Kd.C_below HR467.out (by repeat (first | (with_reducible first | exact HB.out | apply below_alloc | apply pw_below_drewN | apply below_drew1 | refine below_set ?_ GE429.out) | exact HB.out))) | (with_reducible refine Kd.C_alloc ?_ _) | (with_reducible refine Kd.C_drewN ?_ _) | (with_reducible refine Kd.C_drew ?_)))
                                            (case side4 => exact HC467.out)
                                            rintro e w' ⟨rfl, ⟨nd, rfl⟩⟩
                                            refine ⟨_, rfl, ?_⟩
                                            refine hK.out _ _ trivial (fun hHeld => ?_)
                                            clear hK K
                                            refine norm_ (a' := ?_) ?_ ?_
                                            rotate_left
                                            · show Act.put _ (some 116) _ = _
                                              simp only [Act.put, List.setIfInBounds_toArray, List.set_cons_zero, List.set_cons_succ, i64_w, i32_w]
                                              rfl
                                            refine pure_ (i := 39) (N := some 117) (v := ?_) (a' := ?_) #[true, true, true, true, true, true, true, true, true, true, true, true, true, true, true, true, true, true, true, true, true, true, true, true, true, true, true, true, true, true, true, true, true, true, true, true, true, true, true, true, false] rfl rfl (any_of HT_.out (by kernel_rfl)) (fun _ _ _ h => h) (Or.inl ⟨by rfl, ?_⟩) ?_ ?_
                                            rotate_left
                                            · intro w'
                                              go_simp
                                              with_reducible rfl
                                            rotate_left
                                            · simp only [Act.put, List.setIfInBounds_toArray, List.set_cons_zero, List.set_cons_succ, i64_w, i32_w]
                                              rfl
                                            refine pure_ (i := 40) (N := some 2) (v := ?_) (a' := ?_) #[true, true, true, true, true, true, true, true, true, true, true, true, true, true, true, true, true, true, true, true, true, true, true, true, true, true, true, true, true, true, true, true, true, true, true, true, true, true, true, true, true] rfl rfl (any_of HT_.out (by kernel_rfl)) (fun _ _ _ h => h) (Or.inl ⟨by rfl, ?_⟩) ?_ ?_
                                            rotate_left
                                            · intro w'
                                              go_simp
                                              with_reducible rfl
                                            rotate_left
                                            · simp only [Act.put, List.setIfInBounds_toArray, List.set_cons_zero, List.set_cons_succ, i64_w, i32_w]
                                              rfl
                                            refine done_ (done_of HT_.out (by kernel_rfl)) ?_
                                            try go_wp2
                                            go_ret
                                            exact ⟨by first | rfl | (simp [errW_none, errW_some] <;> rfl) | (simp only [← hji22, ← hji41, ← hji44]; first | rfl | (simp [errW_none, errW_some] <;> rfl)) | (simp [*, errW_none, errW_some] <;> rfl), by repeat (first | (with_reducible first | exact HB.out | apply below_alloc | apply pw_below_drewN | apply below_drew1 | refine below_set ?_ GE429.out) | exact HB.out)⟩
                                          · rw [if_neg c45] at H
                                            exact absurd H (by simp)
                                        · rw [if_neg c42] at H
                                          exact absurd H (by simp)
                                      · replace c40 := Bool.eq_false_iff.mpr c40
                                        subst c40
                                        have H1 : (some false) = some r := by rw [if_neg (show ¬ (false = true) by decide)] at H; exact H
                                        clear H
                                        have H := H1
                                        clear H1
                                        obtain rfl := Option.some.inj H
                                        have q58 : ((wrap64 ((ji22) + (Int.tmod (wrap64 (a0_2)) (wrap64 ((wrap64 ((l0_0.length : Int) - (ji22))) + 1))))) : Int) ≤ ((l0_0.length : Int) : Int) := of_decide_eq_true (by first | (with_reducible assumption) | assumption)
                                        obtain ⟨i058, hi058, _, hsz58, _⟩ := info_parts info78
                                        have hroom58 : l0_0.length ≤ c0_0 := HC0_0.out
                                        have hC58 : Kd.C k78 _ A0_0 l0_0.length l0_0 := HR0_0.out
                                        have ql58 : ((ji22) : Int) ≤ ((wrap64 ((ji22) + (Int.tmod (wrap64 (a0_2)) (wrap64 ((wrap64 ((l0_0.length : Int) - (ji22))) + 1))))) : Int) := of_decide_eq_true (by first | (with_reducible assumption) | assumption)
                                        have q058 : (0 : Int) ≤ ((ji22) : Int) := of_decide_eq_true (by first | (with_reducible assumption) | assumption)
                                        have hcut58 := cut_mid (P := Try.prog) 54 78 .i64 .i64 Try.underlying54 hi058 2 hsz58 A0_0 l0_0.length c0_0 (ji22) (wrap64 ((ji22) + (Int.tmod (wrap64 (a0_2)) (wrap64 ((wrap64 ((l0_0.length : Int) - (ji22))) + 1))))) q058 ql58 q58 hroom58
                                        have hr58 := Kd.C_mid (lo := ((ji22) : Int).toNat) (hi := ((wrap64 ((ji22) + (Int.tmod (wrap64 (a0_2)) (wrap64 ((wrap64 ((l0_0.length : Int) - (ji22))) + 1))))) : Int).toNat) (c := c0_0) hC58 (by omega) (by omega) hroom58
                                        obtain ⟨A58, hA58⟩ : ∃ A1, A1 = (if c0_0 = ((ji22) : Int).toNat then A0_0 else (A0_0 : Option Addr).map (·.add (((ji22) : Int).toNat * 2))) := ⟨_, rfl⟩
                                        obtain ⟨c58, hc58⟩ : ∃ c1, c1 = c0_0 - ((ji22) : Int).toNat := ⟨_, rfl⟩
                                        have hy58 : y438.length = ((wrap64 ((ji22) + (Int.tmod (wrap64 (a0_2)) (wrap64 ((wrap64 ((l0_0.length : Int) - (ji22))) + 1))))) : Int).toNat - ((ji22) : Int).toNat := (by rw [Ny438.out, List.length_drop, List.length_take] <;> omega)
                                        rw [show ((l0_0).take ((wrap64 ((ji22) + (Int.tmod (wrap64 (a0_2)) (wrap64 ((wrap64 ((l0_0.length : Int) - (ji22))) + 1))))) : Int).toNat).drop ((ji22) : Int).toNat = y438 from Ny438.out.symm] at hr58
                                        replace hr58 : Kd.C k78 _ A58 y438.length y438 := (by rw [hA58]; exact hr58)
                                        rw [← hy58, ← hA58, ← hc58] at hcut58
                                        have HR441 := Aside0.mk hr58
                                        have HC441 := Aside0.mk (show y438.length ≤ c58 from by rw [hy58, hc58]; exact Nat.sub_le_sub_right (Nat.le_trans (by omega) hroom58) _)
                                        clear hr58 hC58 hroom58 hi058 hsz58 hc58
                                        have KY58 := Aside0.mk hy58
                                        have KA58 := Aside0.mk hA58
                                        clear hy58 hA58
                                        replace q58 := eq_true q58
                                        obtain ⟨Ao59, co59, eo59⟩ := Kd.R_slice HO_10.out
                                        subst eo59
                                        try go_wp2_with (first | ((with_reducible refine gate_callee (f := 41) rfl ?_); refine goesL_ (some 77) rfl rfl Try.func41 (by kernel_rfl) rfl #[.slice Ao59 t431.length co59, .int .i64 (ji22), .int .i64 (l0_3.length : Int), .slice A58 y438.length c58] rfl (by (try simp only [List.map_toArray, List.map_cons, List.map_nil]); first | done | (simp only [hji22]; rfl) | rfl | (simp only [List.length_drop, List.length_take]; rfl)) ?_; (with_reducible refine (node_With.calls (fun k_ => some k_ = (.slice Ao59 t431.length co59 : Value).ownBlock) _ _ t431 (ji22) (l0_3.length : Int) (fun k_ => k_ < w.heap.size) _ _ y438 t442 _ ?side1 ?side2 A26.out).mono ?_); (case side1 => exact Kd.R_V (Kd.R_tight rfl (Kd.R_types (HO_10.out) BK429.out (by decide)))); (case side2 => exact Kd.V_mk HC441.out (Kd.F_below (Kd.C_F k78_heap HR441.out) (by repeat (first | (with_reducible first | exact HB.out | apply below_alloc | apply pw_below_drewN | apply below_drew1 | refine below_set ?_ GE429.out) | exact HB.out)))); rintro e w60 ⟨v443, rfl, ho0, hb⟩; refine ⟨_, rfl, ?_⟩; have n0 := Aside0.mk (Kd.R_elder' (by (with_reducible repeat (first | apply Kd.R_alloc | apply Kd.R_drewN | apply Kd.R_drew)); exact HO_10.out) (Kd.R_base ho0) hb); have n1 := Aside0.mk (Kd.R_lower (Kd.R_new' (Kd.R_mono (ok' := fun k_ => True) ho0 (fun _ hk_ => trivial)) (Kd.R_lt (by (with_reducible repeat (first | apply Kd.R_alloc | apply Kd.R_drewN | apply Kd.R_drew)); exact HO_10.out))) (below_size (by repeat (first | (with_reducible first | exact HB.out | apply below_alloc | apply pw_below_drewN | apply below_drew1 | refine below_set ?_ GE429.out) | exact HB.out)))); have n2 := Aside0.mk (blk_below (g := gb429) (o := .cells #[.slice A0_0 l0_0.length c0_0, .int .u8 a0_1, .int .u8 a0_2, .slice A0_3 l0_3.length c0_3] 81 (0, 0)) (by (with_reducible repeat (first | refine blk_drewN ?_ _ | refine blk_drew ?_ | refine blk_alloc ?_ _)); exact BK429.out) hb); have n3 := Aside0.mk (below_step (by repeat (first | (with_reducible first | exact HB.out | apply below_alloc | apply pw_below_drewN | apply below_drew1 | refine below_set ?_ GE429.out) | exact HB.out)) hb); clear HO_10; clear BK429; clear HB; have HO_10 := n0; have HO444 := n1; have BK429 := n2; have HB := n3; clear n0 n1 n2 n3; (try clear hb); (try clear hb2); (try clear hk); (try clear hi); (try clear ho0)))
                                        have n0 := Aside0.mk (Kd.R_drew HO_10.out)
                                        have n1 := Aside0.mk (Kd.R_drew HO444.out)
                                        have n2 := Aside0.mk (blk_drew BK429.out)
                                        have n3 := Aside0.mk (below_drew1 HB.out)
                                        clear HO_10
                                        clear HO444
                                        clear BK429
                                        clear HB
                                        have HO_10 := n0
                                        have HO444 := n1
                                        have BK429 := n2
                                        have HB := n3
                                        clear n0 n1 n2 n3
                                        obtain ⟨Ao62, co62, eo62⟩ := Kd.R_slice HO444.out
                                        (first | subst eo62 | (injection eo62 with f1_ f2_ f3_; have f4_ := f1_.symm; have f5_ := f3_.symm; clear f1_ f2_ f3_; subst f4_; subst f5_))
                                        refine start_ (n := 41) (S := fun w' => True) (ds := []) #[false, false, false, false, false, false, false, false, false, false, false, false, false, false, false, false, false, false, false, false, false, false, false, false, false, false, false, false, false, false, false, false, false, false, false, false, false, false, false, false, false] (by kernel_rfl) rfl rfl trivial (fun hHeld => ?_); refine with_tabW assartlaw04_NodeWith.tab14 assartlaw04_NodeWith.bits14 (fun HT_ HW_ => ?_)
                                        generalize w60.drew = w61 at HO_10 HO444 BK429 HB hHeld ⊢
                                        refine pure_ (i := 0) (N := some 78) (v := ?_) (a' := ?_) #[true, false, false, false, false, false, false, false, false, false, false, false, false, false, false, false, false, false, false, false, false, false, false, false, false, false, false, false, false, false, false, false, false, false, false, false, false, false, false, false, false] rfl rfl (any_of HT_.out (by kernel_rfl)) (fun _ _ _ h => h) (Or.inl ⟨by rfl, ?_⟩) ?_ ?_
                                        rotate_left
                                        · intro w'
                                          go_simp
                                          with_reducible rfl
                                        rotate_left
                                        · simp only [Act.put, List.setIfInBounds_toArray, List.set_cons_zero, List.set_cons_succ, i64_w, i32_w]
                                          rfl
                                        refine pure_ (i := 1) (N := some 79) (v := ?_) (a' := ?_) #[true, true, false, false, false, false, false, false, false, false, false, false, false, false, false, false, false, false, false, false, false, false, false, false, false, false, false, false, false, false, false, false, false, false, false, false, false, false, false, false, false] rfl rfl (any_of HT_.out (by kernel_rfl)) (fun _ _ _ h => h) (Or.inl ⟨by rfl, ?_⟩) ?_ ?_
                                        rotate_left
                                        · intro w'
                                          go_simp
                                          with_reducible rfl
                                        rotate_left
                                        · simp only [Act.put, List.setIfInBounds_toArray, List.set_cons_zero, List.set_cons_succ, i64_w, i32_w]
                                          rfl
                                        refine pure_ (i := 2) (N := some 80) (v := ?_) (a' := ?_) #[true, true, true, false, false, false, false, false, false, false, false, false, false, false, false, false, false, false, false, false, false, false, false, false, false, false, false, false, false, false, false, false, false, false, false, false, false, false, false, false, false] rfl rfl (any_of HT_.out (by kernel_rfl)) (fun _ _ _ h => h) (Or.inl ⟨by rfl, ?_⟩) ?_ ?_
                                        rotate_left
                                        · intro w'
                                          go_simp
                                          with_reducible rfl
                                        rotate_left
                                        · simp only [Act.put, List.setIfInBounds_toArray, List.set_cons_zero, List.set_cons_succ, i64_w, i32_w]
                                          rfl
                                        refine pure_ (i := 3) (N := some 81) (v := ?_) (a' := ?_) #[true, true, true, true, false, false, false, false, false, false, false, false, false, false, false, false, false, false, false, false, false, false, false, false, false, false, false, false, false, false, false, false, false, false, false, false, false, false, false, false, false] rfl rfl (any_of HT_.out (by kernel_rfl)) (fun _ _ _ h => h) (Or.inl ⟨by rfl, ?_⟩) ?_ ?_
                                        rotate_left
                                        · intro w'
                                          go_simp
                                          with_reducible rfl
                                        rotate_left
                                        · simp only [Act.put, List.setIfInBounds_toArray, List.set_cons_zero, List.set_cons_succ, i64_w, i32_w]
                                          rfl
                                        refine one_ (i := 4) (N := some 82) #[true, true, true, true, true, false, false, false, false, false, false, false, false, false, false, false, false, false, false, false, false, false, false, false, false, false, false, false, false, false, false, false, false, false, false, false, false, false, false, false, false] rfl rfl (one_of HT_.out (by kernel_rfl)) (by decide) (fun K hK => ?_)
                                        refine goes_ Try.func40 (by kernel_rfl) rfl #[.slice Ao62 t442.length co62, .slice A0_0 l0_0.length c0_0] (by rfl) rfl rfl (by (try simp only [List.map_toArray, List.map_cons, List.map_nil]); first | done | rfl | (simp only [List.length_drop, List.length_take]; rfl)) ?_
                                        with_reducible refine (assartref04_Items.calls kj11 _ _ t442 _ _ l0_0 true _ ?side1 ?side2 ?side3 ?side4 A28.out).mono ?_
                                        (case side1 => repeat (first | exact (Kd.R_reads' HO444.out).2.2 | (with_reducible refine Kd.C_alloc ?_ _) | (with_reducible refine Kd.C_drewN ?_ _) | (with_reducible refine Kd.C_drew ?_)))
                                        (case side2 => exact (Kd.R_reads' HO444.out).2.1)
                                        (case side3 => repeat (first | exact (Kd.C_below HR0_0.out HB.out) | (with_reducible refine Kd.C_alloc ?_ _) | (with_reducible refine Kd.C_drewN ?_ _) | (with_reducible refine Kd.C_drew ?_)))
                                        (case side4 => exact HC0_0.out)
                                        rintro e w' ⟨rfl, ⟨nd, rfl⟩⟩
                                        refine ⟨_, rfl, ?_⟩
                                        have q63 : ((ji22) : Int) ≤ ((t431.length : Int) : Int) := of_decide_eq_true (by first | (with_reducible assumption) | assumption)
                                        obtain ⟨i063, hi063, _, hsz63, _⟩ := info_parts info78
                                        have hroom63 : t431.length ≤ co59 := (Kd.R_reads' HO_10.out).2.1
                                        have hC63 : Kd.C k78 _ Ao59 t431.length t431 := (Kd.R_reads' HO_10.out).2.2
                                        have hcut63 := cut_to (P := Try.prog) 54 78 .i64 Try.underlying54 hi063 Ao59 t431.length co59 (ji22) (of_decide_eq_true (by first | (with_reducible assumption) | assumption)) q63 hroom63
                                        have hr63 := Kd.C_take (m := ((ji22) : Int).toNat) hC63 (by omega)
                                        have hy63 : y446.length = ((ji22) : Int).toNat := (by rw [Ny446.out, List.length_take]; omega)
                                        rw [← Ny446.out] at hr63
                                        rw [← hy63] at hcut63
                                        have HR449 := Aside0.mk hr63
                                        have HC449 := Aside0.mk (show y446.length ≤ co59 from by omega)
                                        clear hr63 hC63 hroom63 hi063 hsz63
                                        have KY63 := Aside0.mk hy63
                                        clear hy63
                                        have KL63 := Aside0.mk (show ((ji22) : Int).toNat ≤ t431.length from by omega)
                                        replace q63 := eq_true q63
                                        have q64 : ((ji22) : Int) ≤ ((l0_0.length : Int) : Int) := of_decide_eq_true (by first | (with_reducible assumption) | assumption)
                                        obtain ⟨i064, hi064, _, hsz64, _⟩ := info_parts info78
                                        have hroom64 : l0_0.length ≤ c0_0 := HC0_0.out
                                        have hC64 : Kd.C k78 _ A0_0 l0_0.length l0_0 := HR0_0.out
                                        have hcut64 := cut_to (P := Try.prog) 54 78 .i64 Try.underlying54 hi064 A0_0 l0_0.length c0_0 (ji22) (of_decide_eq_true (by first | (with_reducible assumption) | assumption)) q64 hroom64
                                        have hr64 := Kd.C_take (m := ((ji22) : Int).toNat) hC64 (by omega)
                                        have hy64 : y450.length = ((ji22) : Int).toNat := (by rw [Ny450.out, List.length_take]; omega)
                                        rw [← Ny450.out] at hr64
                                        rw [← hy64] at hcut64
                                        have HR453 := Aside0.mk hr64
                                        have HC453 := Aside0.mk (show y450.length ≤ c0_0 from by omega)
                                        clear hr64 hC64 hroom64 hi064 hsz64
                                        have KY64 := Aside0.mk hy64
                                        clear hy64
                                        replace q64 := eq_true q64
                                        refine hK.out _ _ trivial (fun hHeld => ?_)
                                        clear hK K
                                        refine norm_ (a' := ?_) ?_ ?_
                                        rotate_left
                                        · show Act.put _ (some 82) _ = _
                                          simp only [Act.put, List.setIfInBounds_toArray, List.set_cons_zero, List.set_cons_succ, i64_w, i32_w]
                                          rfl
                                        refine pure_ (i := 5) (N := some 83) (v := ?_) (a' := ?_) #[true, true, true, true, true, true, false, false, false, false, false, false, false, false, false, false, false, false, false, false, false, false, false, false, false, false, false, false, false, false, false, false, false, false, false, false, false, false, false, false, false] rfl rfl (any_of HT_.out (by kernel_rfl)) (fun _ _ _ h => h) (Or.inl ⟨by rfl, ?_⟩) ?_ ?_
                                        rotate_left
                                        · intro w'
                                          go_simp
                                          with_reducible rfl
                                        rotate_left
                                        · simp only [Act.put, List.setIfInBounds_toArray, List.set_cons_zero, List.set_cons_succ, i64_w, i32_w]
                                          rfl
                                        refine pure_ (i := 6) (N := some 84) (v := ?_) (a' := ?_) #[true, true, true, true, true, true, true, false, false, false, false, false, false, false, false, false, false, false, false, false, false, false, false, false, false, false, false, false, false, false, false, false, false, false, false, false, false, false, false, false, false] rfl rfl (any_of HT_.out (by kernel_rfl)) (fun _ _ _ h => h) (Or.inl ⟨by rfl, ?_⟩) ?_ ?_
                                        rotate_left
                                        · intro w'
                                          go_simp
                                          with_reducible rfl
                                        rotate_left
                                        · simp only [Act.put, List.setIfInBounds_toArray, List.set_cons_zero, List.set_cons_succ, i64_w, i32_w]
                                          rfl
                                        refine pure_ (i := 7) (N := some 85) (v := ?_) (a' := ?_) #[true, true, true, true, true, true, true, true, false, false, false, false, false, false, false, false, false, false, false, false, false, false, false, false, false, false, false, false, false, false, false, false, false, false, false, false, false, false, false, false, false] rfl rfl (any_of HT_.out (by kernel_rfl)) (fun _ _ _ h => h) (Or.inl ⟨by rfl, ?_⟩) ?_ ?_
                                        rotate_left
                                        · intro w'
                                          go_simp
                                          with_reducible rfl
                                        rotate_left
                                        · simp only [Act.put, List.setIfInBounds_toArray, List.set_cons_zero, List.set_cons_succ, i64_w, i32_w]
                                          rfl
                                        refine pure_ (i := 8) (N := some 86) (v := ?_) (a' := ?_) #[true, true, true, true, true, true, true, true, true, false, false, false, false, false, false, false, false, false, false, false, false, false, false, false, false, false, false, false, false, false, false, false, false, false, false, false, false, false, false, false, false] rfl rfl (any_of HT_.out (by kernel_rfl)) (fun _ _ _ h => h) (Or.inl ⟨by rfl, ?_⟩) ?_ ?_
                                        rotate_left
                                        · intro w'
                                          go_simp
                                          with_reducible rfl
                                        rotate_left
                                        · simp only [Act.put, List.setIfInBounds_toArray, List.set_cons_zero, List.set_cons_succ, i64_w, i32_w]
                                          rfl
                                        refine pure_ (i := 9) (N := some 87) (v := ?_) (a' := ?_) #[true, true, true, true, true, true, true, true, true, true, false, false, false, false, false, false, false, false, false, false, false, false, false, false, false, false, false, false, false, false, false, false, false, false, false, false, false, false, false, false, false] rfl rfl (any_of HT_.out (by kernel_rfl)) (fun _ _ _ h => h) (Or.inl ⟨by rfl, ?_⟩) ?_ ?_
                                        rotate_left
                                        · intro w'
                                          go_simp
                                          with_reducible rfl
                                        rotate_left
                                        · simp only [Act.put, List.setIfInBounds_toArray, List.set_cons_zero, List.set_cons_succ, i64_w, i32_w]
                                          rfl
                                        refine pure_ (i := 10) (N := some 88) (v := ?_) (a' := ?_) #[true, true, true, true, true, true, true, true, true, true, true, false, false, false, false, false, false, false, false, false, false, false, false, false, false, false, false, false, false, false, false, false, false, false, false, false, false, false, false, false, false] rfl rfl (any_of HT_.out (by kernel_rfl)) (fun _ _ _ h => h) (Or.inl ⟨by rfl, ?_⟩) ?_ ?_
                                        rotate_left
                                        · intro w'
                                          go_simp
                                          with_reducible rfl
                                        rotate_left
                                        · simp only [Act.put, List.setIfInBounds_toArray, List.set_cons_zero, List.set_cons_succ, i64_w, i32_w]
                                          rfl
                                        refine pure_ (i := 11) (N := some 89) (v := ?_) (a' := ?_) #[true, true, true, true, true, true, true, true, true, true, true, true, false, false, false, false, false, false, false, false, false, false, false, false, false, false, false, false, false, false, false, false, false, false, false, false, false, false, false, false, false] rfl rfl (any_of HT_.out (by kernel_rfl)) (fun _ _ _ h => h) (Or.inl ⟨by rfl, ?_⟩) ?_ ?_
                                        rotate_left
                                        · intro w'
                                          go_simp
                                          with_reducible rfl
                                        rotate_left
                                        · simp only [Act.put, List.setIfInBounds_toArray, List.set_cons_zero, List.set_cons_succ, i64_w, i32_w]
                                          rfl
                                        refine pure_ (i := 12) (N := some 90) (v := ?_) (a' := ?_) #[true, true, true, true, true, true, true, true, true, true, true, true, true, false, false, false, false, false, false, false, false, false, false, false, false, false, false, false, false, false, false, false, false, false, false, false, false, false, false, false, false] rfl rfl (any_of HT_.out (by kernel_rfl)) (fun _ _ _ h => h) (Or.inl ⟨by rfl, ?_⟩) ?_ ?_
                                        rotate_left
                                        · intro w'
                                          go_simp
                                          with_reducible rfl
                                        rotate_left
                                        · simp only [Act.put, List.setIfInBounds_toArray, List.set_cons_zero, List.set_cons_succ, i64_w, i32_w]
                                          rfl
                                        refine one_ (i := 13) (N := some 91) #[true, true, true, true, true, true, true, true, true, true, true, true, true, true, false, false, false, false, false, false, false, false, false, false, false, false, false, false, false, false, false, false, false, false, false, false, false, false, false, false, false] rfl rfl (one_of HT_.out (by kernel_rfl)) (by decide) (fun K hK => ?_)
                                        refine goes_ Try.func40 (by kernel_rfl) rfl #[.slice Ao59 y446.length co59, .slice A0_0 y450.length c0_0] (by rfl) rfl rfl (by (try simp only [List.map_toArray, List.map_cons, List.map_nil]); first | done | rfl | (simp only [List.length_drop, List.length_take]; rfl)) ?_
                                        with_reducible refine (assartref04_Items.calls kj11 _ _ y446 _ _ y450 true _ ?side1 ?side2 ?side3 ?side4 A34.out).mono ?_
                                        (case side1 => repeat (first | exact (by repeat (first | (with_reducible exact HR449.out) | (with_reducible refine Kd.C_alloc ?_ _) | (with_reducible refine Kd.C_drewN ?_ _) | (with_reducible refine Kd.C_drew ?_) | exact HR449.out)) | (with_reducible refine Kd.C_alloc ?_ _) | (with_reducible refine Kd.C_drewN ?_ _) | (with_reducible refine Kd.C_drew ?_)))
                                        (case side2 => exact HC449.out)
                                        (case side3 => repeat (first | exact (Kd.C_below HR453.out (by repeat (first | (with_reducible first | exact HB.out | apply below_alloc | apply pw_below_drewN | apply below_drew1 | refine below_set ?_ GE429.out) | exact HB.out))) | (with_reducible refine Kd.C_alloc ?_ _) | (with_reducible refine Kd.C_drewN ?_ _) | (with_reducible refine Kd.C_drew ?_)))
                                        (case side4 => exact HC453.out)
                                        rintro e w' ⟨rfl, ⟨nd, rfl⟩⟩
                                        refine ⟨_, rfl, ?_⟩
                                        have q65 : ((wrap64 ((ji22) + (l0_3.length : Int))) : Int) ≤ ((t431.length : Int) : Int) := of_decide_eq_true (by first | (with_reducible assumption) | assumption)
                                        obtain ⟨i065, hi065, _, hsz65, _⟩ := info_parts info78
                                        have hroom65 : t431.length ≤ co59 := (Kd.R_reads' HO_10.out).2.1
                                        have hC65 : Kd.C k78 _ Ao59 t431.length t431 := (Kd.R_reads' HO_10.out).2.2
                                        have ql65 : ((ji22) : Int) ≤ ((wrap64 ((ji22) + (l0_3.length : Int))) : Int) := of_decide_eq_true (by first | (with_reducible assumption) | assumption)
                                        have q065 : (0 : Int) ≤ ((ji22) : Int) := of_decide_eq_true (by first | (with_reducible assumption) | assumption)
                                        have hcut65 := cut_mid (P := Try.prog) 54 78 .i64 .i64 Try.underlying54 hi065 2 hsz65 Ao59 t431.length co59 (ji22) (wrap64 ((ji22) + (l0_3.length : Int))) q065 ql65 q65 hroom65
                                        have hr65 := Kd.C_mid (lo := ((ji22) : Int).toNat) (hi := ((wrap64 ((ji22) + (l0_3.length : Int))) : Int).toNat) (c := co59) hC65 (by omega) (by omega) hroom65
                                        obtain ⟨A65, hA65⟩ : ∃ A1, A1 = (if co59 = ((ji22) : Int).toNat then Ao59 else (Ao59 : Option Addr).map (·.add (((ji22) : Int).toNat * 2))) := ⟨_, rfl⟩
                                        obtain ⟨c65, hc65⟩ : ∃ c1, c1 = co59 - ((ji22) : Int).toNat := ⟨_, rfl⟩
                                        have hy65 : y455.length = ((wrap64 ((ji22) + (l0_3.length : Int))) : Int).toNat - ((ji22) : Int).toNat := (by rw [Ny455.out, List.length_drop, List.length_take] <;> omega)
                                        rw [show ((t431).take ((wrap64 ((ji22) + (l0_3.length : Int))) : Int).toNat).drop ((ji22) : Int).toNat = y455 from Ny455.out.symm] at hr65
                                        replace hr65 : Kd.C k78 _ A65 y455.length y455 := (by rw [hA65]; exact hr65)
                                        rw [← hy65, ← hA65, ← hc65] at hcut65
                                        have HR458 := Aside0.mk hr65
                                        have HC458 := Aside0.mk (show y455.length ≤ c65 from by rw [hy65, hc65]; exact Nat.sub_le_sub_right (Nat.le_trans (by omega) hroom65) _)
                                        clear hr65 hC65 hroom65 hi065 hsz65 hc65
                                        have KY65 := Aside0.mk hy65
                                        have KA65 := Aside0.mk hA65
                                        clear hy65 hA65
                                        have KL65 := Aside0.mk (show ((wrap64 ((ji22) + (l0_3.length : Int))) : Int).toNat ≤ t431.length from by omega)
                                        have KM65 := Aside0.mk (show ((ji22) : Int).toNat ≤ ((wrap64 ((ji22) + (l0_3.length : Int))) : Int).toNat from by omega)
                                        replace q65 := eq_true q65
                                        refine hK.out _ _ trivial (fun hHeld => ?_)
                                        clear hK K
                                        refine norm_ (a' := ?_) ?_ ?_
                                        rotate_left
                                        · show Act.put _ (some 91) _ = _
                                          simp only [Act.put, List.setIfInBounds_toArray, List.set_cons_zero, List.set_cons_succ, i64_w, i32_w]
                                          rfl
                                        refine pure_ (i := 14) (N := some 92) (v := ?_) (a' := ?_) #[true, true, true, true, true, true, true, true, true, true, true, true, true, true, true, false, false, false, false, false, false, false, false, false, false, false, false, false, false, false, false, false, false, false, false, false, false, false, false, false, false] rfl rfl (any_of HT_.out (by kernel_rfl)) (fun _ _ _ h => h) (Or.inl ⟨by rfl, ?_⟩) ?_ ?_
                                        rotate_left
                                        · intro w'
                                          go_simp
                                          with_reducible rfl
                                        rotate_left
                                        · simp only [Act.put, List.setIfInBounds_toArray, List.set_cons_zero, List.set_cons_succ, i64_w, i32_w]
                                          rfl
                                        refine pure_ (i := 15) (N := some 93) (v := ?_) (a' := ?_) #[true, true, true, true, true, true, true, true, true, true, true, true, true, true, true, true, false, false, false, false, false, false, false, false, false, false, false, false, false, false, false, false, false, false, false, false, false, false, false, false, false] rfl rfl (any_of HT_.out (by kernel_rfl)) (fun _ _ _ h => h) (Or.inl ⟨by rfl, ?_⟩) ?_ ?_
                                        rotate_left
                                        · intro w'
                                          go_simp
                                          with_reducible rfl
                                        rotate_left
                                        · simp only [Act.put, List.setIfInBounds_toArray, List.set_cons_zero, List.set_cons_succ, i64_w, i32_w]
                                          rfl
                                        refine pure_ (i := 16) (N := some 94) (v := ?_) (a' := ?_) #[true, true, true, true, true, true, true, true, true, true, true, true, true, true, true, true, true, false, false, false, false, false, false, false, false, false, false, false, false, false, false, false, false, false, false, false, false, false, false, false, false] rfl rfl (any_of HT_.out (by kernel_rfl)) (fun _ _ _ h => h) (Or.inl ⟨by rfl, ?_⟩) ?_ ?_
                                        rotate_left
                                        · intro w'
                                          go_simp
                                          with_reducible rfl
                                        rotate_left
                                        · simp only [Act.put, List.setIfInBounds_toArray, List.set_cons_zero, List.set_cons_succ, i64_w, i32_w]
                                          rfl
                                        refine pure_ (i := 17) (N := some 95) (v := ?_) (a' := ?_) #[true, true, true, true, true, true, true, true, true, true, true, true, true, true, true, true, true, true, false, false, false, false, false, false, false, false, false, false, false, false, false, false, false, false, false, false, false, false, false, false, false] rfl rfl (any_of HT_.out (by kernel_rfl)) (fun _ _ _ h => h) (Or.inl ⟨by rfl, ?_⟩) ?_ ?_
                                        rotate_left
                                        · intro w'
                                          go_simp
                                          with_reducible rfl
                                        rotate_left
                                        · simp only [Act.put, List.setIfInBounds_toArray, List.set_cons_zero, List.set_cons_succ, i64_w, i32_w]
                                          rfl
                                        refine pure_ (i := 18) (N := some 96) (v := ?_) (a' := ?_) #[true, true, true, true, true, true, true, true, true, true, true, true, true, true, true, true, true, true, true, false, false, false, false, false, false, false, false, false, false, false, false, false, false, false, false, false, false, false, false, false, false] rfl rfl (any_of HT_.out (by kernel_rfl)) (fun _ _ _ h => h) (Or.inl ⟨by rfl, ?_⟩) ?_ ?_
                                        rotate_left
                                        · intro w'
                                          go_simp
                                          with_reducible rfl
                                        rotate_left
                                        · simp only [Act.put, List.setIfInBounds_toArray, List.set_cons_zero, List.set_cons_succ, i64_w, i32_w]
                                          rfl
                                        refine pure_ (i := 19) (N := some 97) (v := ?_) (a' := ?_) #[true, true, true, true, true, true, true, true, true, true, true, true, true, true, true, true, true, true, true, true, false, false, false, false, false, false, false, false, false, false, false, false, false, false, false, false, false, false, false, false, false] rfl rfl (any_of HT_.out (by kernel_rfl)) (fun _ _ _ h => h) (Or.inl ⟨by rfl, ?_⟩) ?_ ?_
                                        rotate_left
                                        · intro w'
                                          go_simp
                                          with_reducible rfl
                                        rotate_left
                                        · simp only [Act.put, List.setIfInBounds_toArray, List.set_cons_zero, List.set_cons_succ, i64_w, i32_w]
                                          rfl
                                        refine pure_ (i := 20) (N := some 98) (v := ?_) (a' := ?_) #[true, true, true, true, true, true, true, true, true, true, true, true, true, true, true, true, true, true, true, true, true, false, false, false, false, false, false, false, false, false, false, false, false, false, false, false, false, false, false, false, false] rfl rfl (any_of HT_.out (by kernel_rfl)) (fun _ _ _ h => h) (Or.inl ⟨by rfl, ?_⟩) ?_ ?_
                                        rotate_left
                                        · intro w'
                                          go_simp
                                          with_reducible rfl
                                        rotate_left
                                        · simp only [Act.put, List.setIfInBounds_toArray, List.set_cons_zero, List.set_cons_succ, i64_w, i32_w]
                                          rfl
                                        refine pure_ (i := 21) (N := some 99) (v := ?_) (a' := ?_) #[true, true, true, true, true, true, true, true, true, true, true, true, true, true, true, true, true, true, true, true, true, true, false, false, false, false, false, false, false, false, false, false, false, false, false, false, false, false, false, false, false] rfl rfl (any_of HT_.out (by kernel_rfl)) (fun _ _ _ h => h) (Or.inl ⟨by rfl, ?_⟩) ?_ ?_
                                        rotate_left
                                        · intro w'
                                          go_simp
                                          with_reducible rfl
                                        rotate_left
                                        · simp only [Act.put, List.setIfInBounds_toArray, List.set_cons_zero, List.set_cons_succ, i64_w, i32_w]
                                          rfl
                                        refine pure_ (i := 22) (N := some 100) (v := ?_) (a' := ?_) #[true, true, true, true, true, true, true, true, true, true, true, true, true, true, true, true, true, true, true, true, true, true, true, false, false, false, false, false, false, false, false, false, false, false, false, false, false, false, false, false, false] rfl rfl (any_of HT_.out (by kernel_rfl)) (fun _ _ _ h => h) (Or.inl ⟨by rfl, ?_⟩) ?_ ?_
                                        rotate_left
                                        · intro w'
                                          go_simp
                                          with_reducible rfl
                                        rotate_left
                                        · simp only [Act.put, List.setIfInBounds_toArray, List.set_cons_zero, List.set_cons_succ, i64_w, i32_w]
                                          rfl
                                        refine pure_ (i := 23) (N := some 101) (v := ?_) (a' := ?_) #[true, true, true, true, true, true, true, true, true, true, true, true, true, true, true, true, true, true, true, true, true, true, true, true, false, false, false, false, false, false, false, false, false, false, false, false, false, false, false, false, false] rfl rfl (any_of HT_.out (by kernel_rfl)) (fun _ _ _ h => h) (Or.inl ⟨by rfl, ?_⟩) ?_ ?_
                                        rotate_left
                                        · intro w'
                                          go_simp
                                          with_reducible rfl
                                        rotate_left
                                        · simp only [Act.put, List.setIfInBounds_toArray, List.set_cons_zero, List.set_cons_succ, i64_w, i32_w]
                                          rfl
                                        refine one_ (i := 24) (N := some 102) #[true, true, true, true, true, true, true, true, true, true, true, true, true, true, true, true, true, true, true, true, true, true, true, true, true, false, false, false, false, false, false, false, false, false, false, false, false, false, false, false, false] rfl rfl (one_of HT_.out (by kernel_rfl)) (by decide) (fun K hK => ?_)
                                        refine goes_ Try.func40 (by kernel_rfl) rfl #[.slice A65 y455.length c65, .slice A0_3 l0_3.length c0_3] (by rfl) rfl rfl (by (try simp only [List.map_toArray, List.map_cons, List.map_nil]); first | done | rfl | (simp only [List.length_drop, List.length_take]; rfl)) ?_
                                        with_reducible refine (assartref04_Items.calls kj11 _ _ y455 _ _ l0_3 false _ ?side1 ?side2 ?side3 ?side4 A39.out).mono ?_
                                        (case side1 => repeat (first | exact (by repeat (first | (with_reducible exact HR458.out) | (with_reducible refine Kd.C_alloc ?_ _) | (with_reducible refine Kd.C_drewN ?_ _) | (with_reducible refine Kd.C_drew ?_) | exact HR458.out)) | (with_reducible refine Kd.C_alloc ?_ _) | (with_reducible refine Kd.C_drewN ?_ _) | (with_reducible refine Kd.C_drew ?_)))
                                        (case side2 => exact HC458.out)
                                        (case side3 => repeat (first | exact (Kd.C_below HR0_3.out (by repeat (first | (with_reducible first | exact HB.out | apply below_alloc | apply pw_below_drewN | apply below_drew1 | refine below_set ?_ GE429.out) | exact HB.out))) | (with_reducible refine Kd.C_alloc ?_ _) | (with_reducible refine Kd.C_drewN ?_ _) | (with_reducible refine Kd.C_drew ?_)))
                                        (case side4 => exact HC0_3.out)
                                        rintro e w' ⟨rfl, ⟨nd, rfl⟩⟩
                                        refine ⟨_, rfl, ?_⟩
                                        refine hK.out _ _ trivial (fun hHeld => ?_)
                                        clear hK K
                                        refine norm_ (a' := ?_) ?_ ?_
                                        rotate_left
                                        · show Act.put _ (some 102) _ = _
                                          simp only [Act.put, List.setIfInBounds_toArray, List.set_cons_zero, List.set_cons_succ, i64_w, i32_w]
                                          rfl
                                        refine pure_ (i := 25) (N := some 103) (v := ?_) (a' := ?_) #[true, true, true, true, true, true, true, true, true, true, true, true, true, true, true, true, true, true, true, true, true, true, true, true, true, true, false, false, false, false, false, false, false, false, false, false, false, false, false, false, false] rfl rfl (any_of HT_.out (by kernel_rfl)) (fun _ _ _ h => h) (Or.inl ⟨by rfl, ?_⟩) ?_ ?_
                                        rotate_left
                                        · intro w'
                                          go_simp
                                          with_reducible rfl
                                        rotate_left
                                        · simp only [Act.put, List.setIfInBounds_toArray, List.set_cons_zero, List.set_cons_succ, i64_w, i32_w]
                                          rfl
                                        refine pure_ (i := 26) (N := some 104) (v := ?_) (a' := ?_) #[true, true, true, true, true, true, true, true, true, true, true, true, true, true, true, true, true, true, true, true, true, true, true, true, true, true, true, false, false, false, false, false, false, false, false, false, false, false, false, false, false] rfl rfl (any_of HT_.out (by kernel_rfl)) (fun _ _ _ h => h) (Or.inl ⟨by rfl, ?_⟩) ?_ ?_
                                        rotate_left
                                        · intro w'
                                          go_simp
                                          with_reducible rfl
                                        rotate_left
                                        · simp only [Act.put, List.setIfInBounds_toArray, List.set_cons_zero, List.set_cons_succ, i64_w, i32_w]
                                          rfl
                                        refine pure_ (i := 27) (N := some 105) (v := undef) (a' := ?_) #[true, true, true, true, true, true, true, true, true, true, true, true, true, true, true, true, true, true, true, true, true, true, true, true, true, true, true, true, false, false, false, false, false, false, false, false, false, false, false, false, false] rfl rfl (any_of HT_.out (by kernel_rfl)) (fun _ _ _ h => h) (Or.inr ⟨by rfl, rfl⟩) ?_ ?_
                                        rotate_left
                                        · simp only [Act.put, List.setIfInBounds_toArray, List.set_cons_zero, List.set_cons_succ, i64_w, i32_w]
                                          rfl
                                        refine pure_ (i := 28) (N := some 106) (v := undef) (a' := ?_) #[true, true, true, true, true, true, true, true, true, true, true, true, true, true, true, true, true, true, true, true, true, true, true, true, true, true, true, true, true, false, false, false, false, false, false, false, false, false, false, false, false] rfl rfl (any_of HT_.out (by kernel_rfl)) (fun _ _ _ h => h) (Or.inr ⟨by rfl, rfl⟩) ?_ ?_
                                        rotate_left
                                        · simp only [Act.put, List.setIfInBounds_toArray, List.set_cons_zero, List.set_cons_succ, i64_w, i32_w]
                                          rfl
                                        refine pure_ (i := 29) (N := some 107) (v := undef) (a' := ?_) #[true, true, true, true, true, true, true, true, true, true, true, true, true, true, true, true, true, true, true, true, true, true, true, true, true, true, true, true, true, true, false, false, false, false, false, false, false, false, false, false, false] rfl rfl (any_of HT_.out (by kernel_rfl)) (fun _ _ _ h => h) (Or.inr ⟨by rfl, rfl⟩) ?_ ?_
                                        rotate_left
                                        · simp only [Act.put, List.setIfInBounds_toArray, List.set_cons_zero, List.set_cons_succ, i64_w, i32_w]
                                          rfl
                                        refine pure_ (i := 30) (N := some 108) (v := undef) (a' := ?_) #[true, true, true, true, true, true, true, true, true, true, true, true, true, true, true, true, true, true, true, true, true, true, true, true, true, true, true, true, true, true, true, false, false, false, false, false, false, false, false, false, false] rfl rfl (any_of HT_.out (by kernel_rfl)) (fun _ _ _ h => h) (Or.inr ⟨by rfl, rfl⟩) ?_ ?_
                                        rotate_left
                                        · simp only [Act.put, List.setIfInBounds_toArray, List.set_cons_zero, List.set_cons_succ, i64_w, i32_w]
                                          rfl
                                        refine pure_ (i := 31) (N := some 109) (v := undef) (a' := ?_) #[true, true, true, true, true, true, true, true, true, true, true, true, true, true, true, true, true, true, true, true, true, true, true, true, true, true, true, true, true, true, true, true, false, false, false, false, false, false, false, false, false] rfl rfl (any_of HT_.out (by kernel_rfl)) (fun _ _ _ h => h) (Or.inr ⟨by rfl, rfl⟩) ?_ ?_
                                        rotate_left
                                        · simp only [Act.put, List.setIfInBounds_toArray, List.set_cons_zero, List.set_cons_succ, i64_w, i32_w]
                                          rfl
                                        refine pure_ (i := 32) (N := some 110) (v := undef) (a' := ?_) #[true, true, true, true, true, true, true, true, true, true, true, true, true, true, true, true, true, true, true, true, true, true, true, true, true, true, true, true, true, true, true, true, true, false, false, false, false, false, false, false, false] rfl rfl (any_of HT_.out (by kernel_rfl)) (fun _ _ _ h => h) (Or.inr ⟨by rfl, rfl⟩) ?_ ?_
                                        rotate_left
                                        · simp only [Act.put, List.setIfInBounds_toArray, List.set_cons_zero, List.set_cons_succ, i64_w, i32_w]
                                          rfl
                                        refine pure_ (i := 33) (N := some 111) (v := undef) (a' := ?_) #[true, true, true, true, true, true, true, true, true, true, true, true, true, true, true, true, true, true, true, true, true, true, true, true, true, true, true, true, true, true, true, true, true, true, false, false, false, false, false, false, false] rfl rfl (any_of HT_.out (by kernel_rfl)) (fun _ _ _ h => h) (Or.inr ⟨by rfl, rfl⟩) ?_ ?_
                                        rotate_left
                                        · simp only [Act.put, List.setIfInBounds_toArray, List.set_cons_zero, List.set_cons_succ, i64_w, i32_w]
                                          rfl
                                        refine pure_ (i := 34) (N := some 112) (v := undef) (a' := ?_) #[true, true, true, true, true, true, true, true, true, true, true, true, true, true, true, true, true, true, true, true, true, true, true, true, true, true, true, true, true, true, true, true, true, true, true, false, false, false, false, false, false] rfl rfl (any_of HT_.out (by kernel_rfl)) (fun _ _ _ h => h) (Or.inr ⟨by rfl, rfl⟩) ?_ ?_
                                        rotate_left
                                        · simp only [Act.put, List.setIfInBounds_toArray, List.set_cons_zero, List.set_cons_succ, i64_w, i32_w]
                                          rfl
                                        refine pure_ (i := 35) (N := some 113) (v := undef) (a' := ?_) #[true, true, true, true, true, true, true, true, true, true, true, true, true, true, true, true, true, true, true, true, true, true, true, true, true, true, true, true, true, true, true, true, true, true, true, true, false, false, false, false, false] rfl rfl (any_of HT_.out (by kernel_rfl)) (fun _ _ _ h => h) (Or.inr ⟨by rfl, rfl⟩) ?_ ?_
                                        rotate_left
                                        · simp only [Act.put, List.setIfInBounds_toArray, List.set_cons_zero, List.set_cons_succ, i64_w, i32_w]
                                          rfl
                                        refine pure_ (i := 36) (N := some 114) (v := undef) (a' := ?_) #[true, true, true, true, true, true, true, true, true, true, true, true, true, true, true, true, true, true, true, true, true, true, true, true, true, true, true, true, true, true, true, true, true, true, true, true, true, false, false, false, false] rfl rfl (any_of HT_.out (by kernel_rfl)) (fun _ _ _ h => h) (Or.inr ⟨by rfl, rfl⟩) ?_ ?_
                                        rotate_left
                                        · simp only [Act.put, List.setIfInBounds_toArray, List.set_cons_zero, List.set_cons_succ, i64_w, i32_w]
                                          rfl
                                        refine pure_ (i := 37) (N := some 115) (v := undef) (a' := ?_) #[true, true, true, true, true, true, true, true, true, true, true, true, true, true, true, true, true, true, true, true, true, true, true, true, true, true, true, true, true, true, true, true, true, true, true, true, true, true, false, false, false] rfl rfl (any_of HT_.out (by kernel_rfl)) (fun _ _ _ h => h) (Or.inr ⟨by rfl, rfl⟩) ?_ ?_
                                        rotate_left
                                        · simp only [Act.put, List.setIfInBounds_toArray, List.set_cons_zero, List.set_cons_succ, i64_w, i32_w]
                                          rfl
                                        refine pure_ (i := 38) (N := some 116) (v := undef) (a' := ?_) #[true, true, true, true, true, true, true, true, true, true, true, true, true, true, true, true, true, true, true, true, true, true, true, true, true, true, true, true, true, true, true, true, true, true, true, true, true, true, true, false, false] rfl rfl (any_of HT_.out (by kernel_rfl)) (fun _ _ _ h => h) (Or.inr ⟨by rfl, rfl⟩) ?_ ?_
                                        rotate_left
                                        · simp only [Act.put, List.setIfInBounds_toArray, List.set_cons_zero, List.set_cons_succ, i64_w, i32_w]
                                          rfl
                                        refine pure_ (i := 39) (N := some 117) (v := ?_) (a' := ?_) #[true, true, true, true, true, true, true, true, true, true, true, true, true, true, true, true, true, true, true, true, true, true, true, true, true, true, true, true, true, true, true, true, true, true, true, true, true, true, true, true, false] rfl rfl (any_of HT_.out (by kernel_rfl)) (fun _ _ _ h => h) (Or.inl ⟨by rfl, ?_⟩) ?_ ?_
                                        rotate_left
                                        · intro w'
                                          go_simp
                                          with_reducible rfl
                                        rotate_left
                                        · simp only [Act.put, List.setIfInBounds_toArray, List.set_cons_zero, List.set_cons_succ, i64_w, i32_w]
                                          rfl
                                        refine pure_ (i := 40) (N := some 2) (v := ?_) (a' := ?_) #[true, true, true, true, true, true, true, true, true, true, true, true, true, true, true, true, true, true, true, true, true, true, true, true, true, true, true, true, true, true, true, true, true, true, true, true, true, true, true, true, true] rfl rfl (any_of HT_.out (by kernel_rfl)) (fun _ _ _ h => h) (Or.inl ⟨by rfl, ?_⟩) ?_ ?_
                                        rotate_left
                                        · intro w'
                                          go_simp
                                          with_reducible rfl
                                        rotate_left
                                        · simp only [Act.put, List.setIfInBounds_toArray, List.set_cons_zero, List.set_cons_succ, i64_w, i32_w]
                                          rfl
                                        refine done_ (done_of HT_.out (by kernel_rfl)) ?_
                                        try go_wp2
                                        go_ret
                                        exact ⟨by first | rfl | (simp [errW_none, errW_some] <;> rfl) | (simp only [← hji22]; first | rfl | (simp [errW_none, errW_some] <;> rfl)) | (simp [*, errW_none, errW_some] <;> rfl), by repeat (first | (with_reducible first | exact HB.out | apply below_alloc | apply pw_below_drewN | apply below_drew1 | refine below_set ?_ GE429.out) | exact HB.out)⟩
                                    · rw [if_neg c38] at H
                                      exact absurd H (by simp)
                                  · rw [if_neg c37] at H
                                    exact absurd H (by simp)
                                · replace c35 := Bool.eq_false_iff.mpr c35
                                  subst c35
                                  have H1 : (some false) = some r := by rw [if_neg (show ¬ (false = true) by decide)] at H; exact H
                                  clear H
                                  have H := H1
                                  clear H1
                                  obtain rfl := Option.some.inj H
                                  have q66 : ((wrap64 ((ji22) + (Int.tmod (wrap64 (a0_2)) (wrap64 ((wrap64 ((l0_0.length : Int) - (ji22))) + 1))))) : Int) ≤ ((l0_0.length : Int) : Int) := of_decide_eq_true (by first | (with_reducible assumption) | assumption)
                                  obtain ⟨i066, hi066, _, hsz66, _⟩ := info_parts info78
                                  have hroom66 : l0_0.length ≤ c0_0 := HC0_0.out
                                  have hC66 : Kd.C k78 _ A0_0 l0_0.length l0_0 := HR0_0.out
                                  have ql66 : ((ji22) : Int) ≤ ((wrap64 ((ji22) + (Int.tmod (wrap64 (a0_2)) (wrap64 ((wrap64 ((l0_0.length : Int) - (ji22))) + 1))))) : Int) := of_decide_eq_true (by first | (with_reducible assumption) | assumption)
                                  have q066 : (0 : Int) ≤ ((ji22) : Int) := of_decide_eq_true (by first | (with_reducible assumption) | assumption)
                                  have hcut66 := cut_mid (P := Try.prog) 54 78 .i64 .i64 Try.underlying54 hi066 2 hsz66 A0_0 l0_0.length c0_0 (ji22) (wrap64 ((ji22) + (Int.tmod (wrap64 (a0_2)) (wrap64 ((wrap64 ((l0_0.length : Int) - (ji22))) + 1))))) q066 ql66 q66 hroom66
                                  have hr66 := Kd.C_mid (lo := ((ji22) : Int).toNat) (hi := ((wrap64 ((ji22) + (Int.tmod (wrap64 (a0_2)) (wrap64 ((wrap64 ((l0_0.length : Int) - (ji22))) + 1))))) : Int).toNat) (c := c0_0) hC66 (by omega) (by omega) hroom66
                                  obtain ⟨A66, hA66⟩ : ∃ A1, A1 = (if c0_0 = ((ji22) : Int).toNat then A0_0 else (A0_0 : Option Addr).map (·.add (((ji22) : Int).toNat * 2))) := ⟨_, rfl⟩
                                  obtain ⟨c66, hc66⟩ : ∃ c1, c1 = c0_0 - ((ji22) : Int).toNat := ⟨_, rfl⟩
                                  have hy66 : y438.length = ((wrap64 ((ji22) + (Int.tmod (wrap64 (a0_2)) (wrap64 ((wrap64 ((l0_0.length : Int) - (ji22))) + 1))))) : Int).toNat - ((ji22) : Int).toNat := (by rw [Ny438.out, List.length_drop, List.length_take] <;> omega)
                                  rw [show ((l0_0).take ((wrap64 ((ji22) + (Int.tmod (wrap64 (a0_2)) (wrap64 ((wrap64 ((l0_0.length : Int) - (ji22))) + 1))))) : Int).toNat).drop ((ji22) : Int).toNat = y438 from Ny438.out.symm] at hr66
                                  replace hr66 : Kd.C k78 _ A66 y438.length y438 := (by rw [hA66]; exact hr66)
                                  rw [← hy66, ← hA66, ← hc66] at hcut66
                                  have HR441 := Aside0.mk hr66
                                  have HC441 := Aside0.mk (show y438.length ≤ c66 from by rw [hy66, hc66]; exact Nat.sub_le_sub_right (Nat.le_trans (by omega) hroom66) _)
                                  clear hr66 hC66 hroom66 hi066 hsz66 hc66
                                  have KY66 := Aside0.mk hy66
                                  have KA66 := Aside0.mk hA66
                                  clear hy66 hA66
                                  replace q66 := eq_true q66
                                  obtain ⟨Ao67, co67, eo67⟩ := Kd.R_slice HO_10.out
                                  subst eo67
                                  try go_wp2_with (first | ((with_reducible refine gate_callee (f := 41) rfl ?_); refine goesL_ (some 77) rfl rfl Try.func41 (by kernel_rfl) rfl #[.slice Ao67 t431.length co67, .int .i64 (ji22), .int .i64 (l0_3.length : Int), .slice A66 y438.length c66] rfl (by (try simp only [List.map_toArray, List.map_cons, List.map_nil]); first | done | (simp only [hji22]; rfl) | rfl | (simp only [List.length_drop, List.length_take]; rfl)) ?_; (with_reducible refine (node_With.calls (fun k_ => some k_ = (.slice Ao67 t431.length co67 : Value).ownBlock) _ _ t431 (ji22) (l0_3.length : Int) (fun k_ => k_ < w.heap.size) _ _ y438 t442 _ ?side1 ?side2 A26.out).mono ?_); (case side1 => exact Kd.R_V (Kd.R_tight rfl (Kd.R_types (HO_10.out) BK429.out (by decide)))); (case side2 => exact Kd.V_mk HC441.out (Kd.F_below (Kd.C_F k78_heap HR441.out) (by repeat (first | (with_reducible first | exact HB.out | apply below_alloc | apply pw_below_drewN | apply below_drew1 | refine below_set ?_ GE429.out) | exact HB.out)))); rintro e w68 ⟨v443, rfl, ho0, hb⟩; refine ⟨_, rfl, ?_⟩; have n0 := Aside0.mk (Kd.R_elder' (by (with_reducible repeat (first | apply Kd.R_alloc | apply Kd.R_drewN | apply Kd.R_drew)); exact HO_10.out) (Kd.R_base ho0) hb); have n1 := Aside0.mk (Kd.R_lower (Kd.R_new' (Kd.R_mono (ok' := fun k_ => True) ho0 (fun _ hk_ => trivial)) (Kd.R_lt (by (with_reducible repeat (first | apply Kd.R_alloc | apply Kd.R_drewN | apply Kd.R_drew)); exact HO_10.out))) (below_size (by repeat (first | (with_reducible first | exact HB.out | apply below_alloc | apply pw_below_drewN | apply below_drew1 | refine below_set ?_ GE429.out) | exact HB.out)))); have n2 := Aside0.mk (blk_below (g := gb429) (o := .cells #[.slice A0_0 l0_0.length c0_0, .int .u8 a0_1, .int .u8 a0_2, .slice A0_3 l0_3.length c0_3] 81 (0, 0)) (by (with_reducible repeat (first | refine blk_drewN ?_ _ | refine blk_drew ?_ | refine blk_alloc ?_ _)); exact BK429.out) hb); have n3 := Aside0.mk (below_step (by repeat (first | (with_reducible first | exact HB.out | apply below_alloc | apply pw_below_drewN | apply below_drew1 | refine below_set ?_ GE429.out) | exact HB.out)) hb); clear HO_10; clear BK429; clear HB; have HO_10 := n0; have HO444 := n1; have BK429 := n2; have HB := n3; clear n0 n1 n2 n3; (try clear hb); (try clear hb2); (try clear hk); (try clear hi); (try clear ho0)))
                                  have n0 := Aside0.mk (Kd.R_drew HO_10.out)
                                  have n1 := Aside0.mk (Kd.R_drew HO444.out)
                                  have n2 := Aside0.mk (blk_drew BK429.out)
                                  have n3 := Aside0.mk (below_drew1 HB.out)
                                  clear HO_10
                                  clear HO444
                                  clear BK429
                                  clear HB
                                  have HO_10 := n0
                                  have HO444 := n1
                                  have BK429 := n2
                                  have HB := n3
                                  clear n0 n1 n2 n3
                                  obtain ⟨Ao70, co70, eo70⟩ := Kd.R_slice HO444.out
                                  (first | subst eo70 | (injection eo70 with f1_ f2_ f3_; have f4_ := f1_.symm; have f5_ := f3_.symm; clear f1_ f2_ f3_; subst f4_; subst f5_))
                                  refine start_ (n := 41) (S := fun w' => True) (ds := []) #[false, false, false, false, false, false, false, false, false, false, false, false, false, false, false, false, false, false, false, false, false, false, false, false, false, false, false, false, false, false, false, false, false, false, false, false, false, false, false, false, false] (by kernel_rfl) rfl rfl trivial (fun hHeld => ?_); refine with_tabW assartlaw04_NodeWith.tab14 assartlaw04_NodeWith.bits14 (fun HT_ HW_ => ?_)
                                  generalize w68.drew = w69 at HO_10 HO444 BK429 HB hHeld ⊢
                                  refine pure_ (i := 0) (N := some 78) (v := ?_) (a' := ?_) #[true, false, false, false, false, false, false, false, false, false, false, false, false, false, false, false, false, false, false, false, false, false, false, false, false, false, false, false, false, false, false, false, false, false, false, false, false, false, false, false, false] rfl rfl (any_of HT_.out (by kernel_rfl)) (fun _ _ _ h => h) (Or.inl ⟨by rfl, ?_⟩) ?_ ?_
                                  rotate_left
                                  · intro w'
                                    go_simp
                                    with_reducible rfl
                                  rotate_left
                                  · simp only [Act.put, List.setIfInBounds_toArray, List.set_cons_zero, List.set_cons_succ, i64_w, i32_w]
                                    rfl
                                  refine pure_ (i := 1) (N := some 79) (v := ?_) (a' := ?_) #[true, true, false, false, false, false, false, false, false, false, false, false, false, false, false, false, false, false, false, false, false, false, false, false, false, false, false, false, false, false, false, false, false, false, false, false, false, false, false, false, false] rfl rfl (any_of HT_.out (by kernel_rfl)) (fun _ _ _ h => h) (Or.inl ⟨by rfl, ?_⟩) ?_ ?_
                                  rotate_left
                                  · intro w'
                                    go_simp
                                    with_reducible rfl
                                  rotate_left
                                  · simp only [Act.put, List.setIfInBounds_toArray, List.set_cons_zero, List.set_cons_succ, i64_w, i32_w]
                                    rfl
                                  refine pure_ (i := 2) (N := some 80) (v := ?_) (a' := ?_) #[true, true, true, false, false, false, false, false, false, false, false, false, false, false, false, false, false, false, false, false, false, false, false, false, false, false, false, false, false, false, false, false, false, false, false, false, false, false, false, false, false] rfl rfl (any_of HT_.out (by kernel_rfl)) (fun _ _ _ h => h) (Or.inl ⟨by rfl, ?_⟩) ?_ ?_
                                  rotate_left
                                  · intro w'
                                    go_simp
                                    with_reducible rfl
                                  rotate_left
                                  · simp only [Act.put, List.setIfInBounds_toArray, List.set_cons_zero, List.set_cons_succ, i64_w, i32_w]
                                    rfl
                                  refine pure_ (i := 3) (N := some 81) (v := ?_) (a' := ?_) #[true, true, true, true, false, false, false, false, false, false, false, false, false, false, false, false, false, false, false, false, false, false, false, false, false, false, false, false, false, false, false, false, false, false, false, false, false, false, false, false, false] rfl rfl (any_of HT_.out (by kernel_rfl)) (fun _ _ _ h => h) (Or.inl ⟨by rfl, ?_⟩) ?_ ?_
                                  rotate_left
                                  · intro w'
                                    go_simp
                                    with_reducible rfl
                                  rotate_left
                                  · simp only [Act.put, List.setIfInBounds_toArray, List.set_cons_zero, List.set_cons_succ, i64_w, i32_w]
                                    rfl
                                  refine one_ (i := 4) (N := some 82) #[true, true, true, true, true, false, false, false, false, false, false, false, false, false, false, false, false, false, false, false, false, false, false, false, false, false, false, false, false, false, false, false, false, false, false, false, false, false, false, false, false] rfl rfl (one_of HT_.out (by kernel_rfl)) (by decide) (fun K hK => ?_)
                                  refine goes_ Try.func40 (by kernel_rfl) rfl #[.slice Ao70 t442.length co70, .slice A0_0 l0_0.length c0_0] (by rfl) rfl rfl (by (try simp only [List.map_toArray, List.map_cons, List.map_nil]); first | done | rfl | (simp only [List.length_drop, List.length_take]; rfl)) ?_
                                  with_reducible refine (assartref04_Items.calls kj11 _ _ t442 _ _ l0_0 true _ ?side1 ?side2 ?side3 ?side4 A28.out).mono ?_
                                  (case side1 => repeat (first | exact (Kd.R_reads' HO444.out).2.2 | (with_reducible refine Kd.C_alloc ?_ _) | (with_reducible refine Kd.C_drewN ?_ _) | (with_reducible refine Kd.C_drew ?_)))
                                  (case side2 => exact (Kd.R_reads' HO444.out).2.1)
                                  (case side3 => repeat (first | exact (Kd.C_below HR0_0.out HB.out) | (with_reducible refine Kd.C_alloc ?_ _) | (with_reducible refine Kd.C_drewN ?_ _) | (with_reducible refine Kd.C_drew ?_)))
                                  (case side4 => exact HC0_0.out)
                                  rintro e w' ⟨rfl, ⟨nd, rfl⟩⟩
                                  refine ⟨_, rfl, ?_⟩
                                  have q71 : ((ji22) : Int) ≤ ((t431.length : Int) : Int) := of_decide_eq_true (by first | (with_reducible assumption) | assumption)
                                  obtain ⟨i071, hi071, _, hsz71, _⟩ := info_parts info78
                                  have hroom71 : t431.length ≤ co67 := (Kd.R_reads' HO_10.out).2.1
                                  have hC71 : Kd.C k78 _ Ao67 t431.length t431 := (Kd.R_reads' HO_10.out).2.2
                                  have hcut71 := cut_to (P := Try.prog) 54 78 .i64 Try.underlying54 hi071 Ao67 t431.length co67 (ji22) (of_decide_eq_true (by first | (with_reducible assumption) | assumption)) q71 hroom71
                                  have hr71 := Kd.C_take (m := ((ji22) : Int).toNat) hC71 (by omega)
                                  have hy71 : y446.length = ((ji22) : Int).toNat := (by rw [Ny446.out, List.length_take]; omega)
                                  rw [← Ny446.out] at hr71
                                  rw [← hy71] at hcut71
                                  have HR449 := Aside0.mk hr71
                                  have HC449 := Aside0.mk (show y446.length ≤ co67 from by omega)
                                  clear hr71 hC71 hroom71 hi071 hsz71
                                  have KY71 := Aside0.mk hy71
                                  clear hy71
                                  have KL71 := Aside0.mk (show ((ji22) : Int).toNat ≤ t431.length from by omega)
                                  replace q71 := eq_true q71
                                  have q72 : ((ji22) : Int) ≤ ((l0_0.length : Int) : Int) := of_decide_eq_true (by first | (with_reducible assumption) | assumption)
                                  obtain ⟨i072, hi072, _, hsz72, _⟩ := info_parts info78
                                  have hroom72 : l0_0.length ≤ c0_0 := HC0_0.out
                                  have hC72 : Kd.C k78 _ A0_0 l0_0.length l0_0 := HR0_0.out
                                  have hcut72 := cut_to (P := Try.prog) 54 78 .i64 Try.underlying54 hi072 A0_0 l0_0.length c0_0 (ji22) (of_decide_eq_true (by first | (with_reducible assumption) | assumption)) q72 hroom72
                                  have hr72 := Kd.C_take (m := ((ji22) : Int).toNat) hC72 (by omega)
                                  have hy72 : y450.length = ((ji22) : Int).toNat := (by rw [Ny450.out, List.length_take]; omega)
                                  rw [← Ny450.out] at hr72
                                  rw [← hy72] at hcut72
                                  have HR453 := Aside0.mk hr72
                                  have HC453 := Aside0.mk (show y450.length ≤ c0_0 from by omega)
                                  clear hr72 hC72 hroom72 hi072 hsz72
                                  have KY72 := Aside0.mk hy72
                                  clear hy72
                                  replace q72 := eq_true q72
                                  refine hK.out _ _ trivial (fun hHeld => ?_)
                                  clear hK K
                                  refine norm_ (a' := ?_) ?_ ?_
                                  rotate_left
                                  · show Act.put _ (some 82) _ = _
                                    simp only [Act.put, List.setIfInBounds_toArray, List.set_cons_zero, List.set_cons_succ, i64_w, i32_w]
                                    rfl
                                  refine pure_ (i := 5) (N := some 83) (v := ?_) (a' := ?_) #[true, true, true, true, true, true, false, false, false, false, false, false, false, false, false, false, false, false, false, false, false, false, false, false, false, false, false, false, false, false, false, false, false, false, false, false, false, false, false, false, false] rfl rfl (any_of HT_.out (by kernel_rfl)) (fun _ _ _ h => h) (Or.inl ⟨by rfl, ?_⟩) ?_ ?_
                                  rotate_left
                                  · intro w'
                                    go_simp
                                    with_reducible rfl
                                  rotate_left
                                  · simp only [Act.put, List.setIfInBounds_toArray, List.set_cons_zero, List.set_cons_succ, i64_w, i32_w]
                                    rfl
                                  refine pure_ (i := 6) (N := some 84) (v := ?_) (a' := ?_) #[true, true, true, true, true, true, true, false, false, false, false, false, false, false, false, false, false, false, false, false, false, false, false, false, false, false, false, false, false, false, false, false, false, false, false, false, false, false, false, false, false] rfl rfl (any_of HT_.out (by kernel_rfl)) (fun _ _ _ h => h) (Or.inl ⟨by rfl, ?_⟩) ?_ ?_
                                  rotate_left
                                  · intro w'
                                    go_simp
                                    with_reducible rfl
                                  rotate_left
                                  · simp only [Act.put, List.setIfInBounds_toArray, List.set_cons_zero, List.set_cons_succ, i64_w, i32_w]
                                    rfl
                                  refine pure_ (i := 7) (N := some 85) (v := ?_) (a' := ?_) #[true, true, true, true, true, true, true, true, false, false, false, false, false, false, false, false, false, false, false, false, false, false, false, false, false, false, false, false, false, false, false, false, false, false, false, false, false, false, false, false, false] rfl rfl (any_of HT_.out (by kernel_rfl)) (fun _ _ _ h => h) (Or.inl ⟨by rfl, ?_⟩) ?_ ?_
                                  rotate_left
                                  · intro w'
                                    go_simp
                                    with_reducible rfl
                                  rotate_left
                                  · simp only [Act.put, List.setIfInBounds_toArray, List.set_cons_zero, List.set_cons_succ, i64_w, i32_w]
                                    rfl
                                  refine pure_ (i := 8) (N := some 86) (v := ?_) (a' := ?_) #[true, true, true, true, true, true, true, true, true, false, false, false, false, false, false, false, false, false, false, false, false, false, false, false, false, false, false, false, false, false, false, false, false, false, false, false, false, false, false, false, false] rfl rfl (any_of HT_.out (by kernel_rfl)) (fun _ _ _ h => h) (Or.inl ⟨by rfl, ?_⟩) ?_ ?_
                                  rotate_left
                                  · intro w'
                                    go_simp
                                    with_reducible rfl
                                  rotate_left
                                  · simp only [Act.put, List.setIfInBounds_toArray, List.set_cons_zero, List.set_cons_succ, i64_w, i32_w]
                                    rfl
                                  refine pure_ (i := 9) (N := some 87) (v := ?_) (a' := ?_) #[true, true, true, true, true, true, true, true, true, true, false, false, false, false, false, false, false, false, false, false, false, false, false, false, false, false, false, false, false, false, false, false, false, false, false, false, false, false, false, false, false] rfl rfl (any_of HT_.out (by kernel_rfl)) (fun _ _ _ h => h) (Or.inl ⟨by rfl, ?_⟩) ?_ ?_
                                  rotate_left
                                  · intro w'
                                    go_simp
                                    with_reducible rfl
                                  rotate_left
                                  · simp only [Act.put, List.setIfInBounds_toArray, List.set_cons_zero, List.set_cons_succ, i64_w, i32_w]
                                    rfl
                                  refine pure_ (i := 10) (N := some 88) (v := ?_) (a' := ?_) #[true, true, true, true, true, true, true, true, true, true, true, false, false, false, false, false, false, false, false, false, false, false, false, false, false, false, false, false, false, false, false, false, false, false, false, false, false, false, false, false, false] rfl rfl (any_of HT_.out (by kernel_rfl)) (fun _ _ _ h => h) (Or.inl ⟨by rfl, ?_⟩) ?_ ?_
                                  rotate_left
                                  · intro w'
                                    go_simp
                                    with_reducible rfl
                                  rotate_left
                                  · simp only [Act.put, List.setIfInBounds_toArray, List.set_cons_zero, List.set_cons_succ, i64_w, i32_w]
                                    rfl
                                  refine pure_ (i := 11) (N := some 89) (v := ?_) (a' := ?_) #[true, true, true, true, true, true, true, true, true, true, true, true, false, false, false, false, false, false, false, false, false, false, false, false, false, false, false, false, false, false, false, false, false, false, false, false, false, false, false, false, false] rfl rfl (any_of HT_.out (by kernel_rfl)) (fun _ _ _ h => h) (Or.inl ⟨by rfl, ?_⟩) ?_ ?_
                                  rotate_left
                                  · intro w'
                                    go_simp
                                    with_reducible rfl
                                  rotate_left
                                  · simp only [Act.put, List.setIfInBounds_toArray, List.set_cons_zero, List.set_cons_succ, i64_w, i32_w]
                                    rfl
                                  refine pure_ (i := 12) (N := some 90) (v := ?_) (a' := ?_) #[true, true, true, true, true, true, true, true, true, true, true, true, true, false, false, false, false, false, false, false, false, false, false, false, false, false, false, false, false, false, false, false, false, false, false, false, false, false, false, false, false] rfl rfl (any_of HT_.out (by kernel_rfl)) (fun _ _ _ h => h) (Or.inl ⟨by rfl, ?_⟩) ?_ ?_
                                  rotate_left
                                  · intro w'
                                    go_simp
                                    with_reducible rfl
                                  rotate_left
                                  · simp only [Act.put, List.setIfInBounds_toArray, List.set_cons_zero, List.set_cons_succ, i64_w, i32_w]
                                    rfl
                                  refine one_ (i := 13) (N := some 91) #[true, true, true, true, true, true, true, true, true, true, true, true, true, true, false, false, false, false, false, false, false, false, false, false, false, false, false, false, false, false, false, false, false, false, false, false, false, false, false, false, false] rfl rfl (one_of HT_.out (by kernel_rfl)) (by decide) (fun K hK => ?_)
                                  refine goes_ Try.func40 (by kernel_rfl) rfl #[.slice Ao67 y446.length co67, .slice A0_0 y450.length c0_0] (by rfl) rfl rfl (by (try simp only [List.map_toArray, List.map_cons, List.map_nil]); first | done | rfl | (simp only [List.length_drop, List.length_take]; rfl)) ?_
                                  with_reducible refine (assartref04_Items.calls kj11 _ _ y446 _ _ y450 false _ ?side1 ?side2 ?side3 ?side4 A34.out).mono ?_
                                  (case side1 => repeat (first | exact (by repeat (first | (with_reducible exact HR449.out) | (with_reducible refine Kd.C_alloc ?_ _) | (with_reducible refine Kd.C_drewN ?_ _) | (with_reducible refine Kd.C_drew ?_) | exact HR449.out)) | (with_reducible refine Kd.C_alloc ?_ _) | (with_reducible refine Kd.C_drewN ?_ _) | (with_reducible refine Kd.C_drew ?_)))
                                  (case side2 => exact HC449.out)
                                  (case side3 => repeat (first | exact (Kd.C_below HR453.out (by repeat (first | (with_reducible first | exact HB.out | apply below_alloc | apply pw_below_drewN | apply below_drew1 | refine below_set ?_ GE429.out) | exact HB.out))) | (with_reducible refine Kd.C_alloc ?_ _) | (with_reducible refine Kd.C_drewN ?_ _) | (with_reducible refine Kd.C_drew ?_)))
                                  (case side4 => exact HC453.out)
                                  rintro e w' ⟨rfl, ⟨nd, rfl⟩⟩
                                  refine ⟨_, rfl, ?_⟩
                                  refine hK.out _ _ trivial (fun hHeld => ?_)
                                  clear hK K
                                  refine norm_ (a' := ?_) ?_ ?_
                                  rotate_left
                                  · show Act.put _ (some 91) _ = _
                                    simp only [Act.put, List.setIfInBounds_toArray, List.set_cons_zero, List.set_cons_succ, i64_w, i32_w]
                                    rfl
                                  refine pure_ (i := 14) (N := some 92) (v := ?_) (a' := ?_) #[true, true, true, true, true, true, true, true, true, true, true, true, true, true, true, false, false, false, false, false, false, false, false, false, false, false, false, false, false, false, false, false, false, false, false, false, false, false, false, false, false] rfl rfl (any_of HT_.out (by kernel_rfl)) (fun _ _ _ h => h) (Or.inl ⟨by rfl, ?_⟩) ?_ ?_
                                  rotate_left
                                  · intro w'
                                    go_simp
                                    with_reducible rfl
                                  rotate_left
                                  · simp only [Act.put, List.setIfInBounds_toArray, List.set_cons_zero, List.set_cons_succ, i64_w, i32_w]
                                    rfl
                                  refine pure_ (i := 15) (N := some 93) (v := ?_) (a' := ?_) #[true, true, true, true, true, true, true, true, true, true, true, true, true, true, true, true, false, false, false, false, false, false, false, false, false, false, false, false, false, false, false, false, false, false, false, false, false, false, false, false, false] rfl rfl (any_of HT_.out (by kernel_rfl)) (fun _ _ _ h => h) (Or.inl ⟨by rfl, ?_⟩) ?_ ?_
                                  rotate_left
                                  · intro w'
                                    go_simp
                                    with_reducible rfl
                                  rotate_left
                                  · simp only [Act.put, List.setIfInBounds_toArray, List.set_cons_zero, List.set_cons_succ, i64_w, i32_w]
                                    rfl
                                  refine pure_ (i := 16) (N := some 94) (v := undef) (a' := ?_) #[true, true, true, true, true, true, true, true, true, true, true, true, true, true, true, true, true, false, false, false, false, false, false, false, false, false, false, false, false, false, false, false, false, false, false, false, false, false, false, false, false] rfl rfl (any_of HT_.out (by kernel_rfl)) (fun _ _ _ h => h) (Or.inr ⟨by rfl, rfl⟩) ?_ ?_
                                  rotate_left
                                  · simp only [Act.put, List.setIfInBounds_toArray, List.set_cons_zero, List.set_cons_succ, i64_w, i32_w]
                                    rfl
                                  refine pure_ (i := 17) (N := some 95) (v := undef) (a' := ?_) #[true, true, true, true, true, true, true, true, true, true, true, true, true, true, true, true, true, true, false, false, false, false, false, false, false, false, false, false, false, false, false, false, false, false, false, false, false, false, false, false, false] rfl rfl (any_of HT_.out (by kernel_rfl)) (fun _ _ _ h => h) (Or.inr ⟨by rfl, rfl⟩) ?_ ?_
                                  rotate_left
                                  · simp only [Act.put, List.setIfInBounds_toArray, List.set_cons_zero, List.set_cons_succ, i64_w, i32_w]
                                    rfl
                                  refine pure_ (i := 18) (N := some 96) (v := undef) (a' := ?_) #[true, true, true, true, true, true, true, true, true, true, true, true, true, true, true, true, true, true, true, false, false, false, false, false, false, false, false, false, false, false, false, false, false, false, false, false, false, false, false, false, false] rfl rfl (any_of HT_.out (by kernel_rfl)) (fun _ _ _ h => h) (Or.inr ⟨by rfl, rfl⟩) ?_ ?_
                                  rotate_left
                                  · simp only [Act.put, List.setIfInBounds_toArray, List.set_cons_zero, List.set_cons_succ, i64_w, i32_w]
                                    rfl
                                  refine pure_ (i := 19) (N := some 97) (v := undef) (a' := ?_) #[true, true, true, true, true, true, true, true, true, true, true, true, true, true, true, true, true, true, true, true, false, false, false, false, false, false, false, false, false, false, false, false, false, false, false, false, false, false, false, false, false] rfl rfl (any_of HT_.out (by kernel_rfl)) (fun _ _ _ h => h) (Or.inr ⟨by rfl, rfl⟩) ?_ ?_
                                  rotate_left
                                  · simp only [Act.put, List.setIfInBounds_toArray, List.set_cons_zero, List.set_cons_succ, i64_w, i32_w]
                                    rfl
                                  refine pure_ (i := 20) (N := some 98) (v := undef) (a' := ?_) #[true, true, true, true, true, true, true, true, true, true, true, true, true, true, true, true, true, true, true, true, true, false, false, false, false, false, false, false, false, false, false, false, false, false, false, false, false, false, false, false, false] rfl rfl (any_of HT_.out (by kernel_rfl)) (fun _ _ _ h => h) (Or.inr ⟨by rfl, rfl⟩) ?_ ?_
                                  rotate_left
                                  · simp only [Act.put, List.setIfInBounds_toArray, List.set_cons_zero, List.set_cons_succ, i64_w, i32_w]
                                    rfl
                                  refine pure_ (i := 21) (N := some 99) (v := undef) (a' := ?_) #[true, true, true, true, true, true, true, true, true, true, true, true, true, true, true, true, true, true, true, true, true, true, false, false, false, false, false, false, false, false, false, false, false, false, false, false, false, false, false, false, false] rfl rfl (any_of HT_.out (by kernel_rfl)) (fun _ _ _ h => h) (Or.inr ⟨by rfl, rfl⟩) ?_ ?_
                                  rotate_left
                                  · simp only [Act.put, List.setIfInBounds_toArray, List.set_cons_zero, List.set_cons_succ, i64_w, i32_w]
                                    rfl
                                  refine pure_ (i := 22) (N := some 100) (v := undef) (a' := ?_) #[true, true, true, true, true, true, true, true, true, true, true, true, true, true, true, true, true, true, true, true, true, true, true, false, false, false, false, false, false, false, false, false, false, false, false, false, false, false, false, false, false] rfl rfl (any_of HT_.out (by kernel_rfl)) (fun _ _ _ h => h) (Or.inr ⟨by rfl, rfl⟩) ?_ ?_
                                  rotate_left
                                  · simp only [Act.put, List.setIfInBounds_toArray, List.set_cons_zero, List.set_cons_succ, i64_w, i32_w]
                                    rfl
                                  refine pure_ (i := 23) (N := some 101) (v := undef) (a' := ?_) #[true, true, true, true, true, true, true, true, true, true, true, true, true, true, true, true, true, true, true, true, true, true, true, true, false, false, false, false, false, false, false, false, false, false, false, false, false, false, false, false, false] rfl rfl (any_of HT_.out (by kernel_rfl)) (fun _ _ _ h => h) (Or.inr ⟨by rfl, rfl⟩) ?_ ?_
                                  rotate_left
                                  · simp only [Act.put, List.setIfInBounds_toArray, List.set_cons_zero, List.set_cons_succ, i64_w, i32_w]
                                    rfl
                                  refine pure_ (i := 24) (N := some 102) (v := undef) (a' := ?_) #[true, true, true, true, true, true, true, true, true, true, true, true, true, true, true, true, true, true, true, true, true, true, true, true, true, false, false, false, false, false, false, false, false, false, false, false, false, false, false, false, false] rfl rfl (any_of HT_.out (by kernel_rfl)) (fun _ _ _ h => h) (Or.inr ⟨by rfl, rfl⟩) ?_ ?_
                                  rotate_left
                                  · simp only [Act.put, List.setIfInBounds_toArray, List.set_cons_zero, List.set_cons_succ, i64_w, i32_w]
                                    rfl
                                  refine pure_ (i := 25) (N := some 103) (v := ?_) (a' := ?_) #[true, true, true, true, true, true, true, true, true, true, true, true, true, true, true, true, true, true, true, true, true, true, true, true, true, true, false, false, false, false, false, false, false, false, false, false, false, false, false, false, false] rfl rfl (any_of HT_.out (by kernel_rfl)) (fun _ _ _ h => h) (Or.inl ⟨by rfl, ?_⟩) ?_ ?_
                                  rotate_left
                                  · intro w'
                                    go_simp
                                    with_reducible rfl
                                  rotate_left
                                  · simp only [Act.put, List.setIfInBounds_toArray, List.set_cons_zero, List.set_cons_succ, i64_w, i32_w]
                                    rfl
                                  refine pure_ (i := 26) (N := some 104) (v := ?_) (a' := ?_) #[true, true, true, true, true, true, true, true, true, true, true, true, true, true, true, true, true, true, true, true, true, true, true, true, true, true, true, false, false, false, false, false, false, false, false, false, false, false, false, false, false] rfl rfl (any_of HT_.out (by kernel_rfl)) (fun _ _ _ h => h) (Or.inl ⟨by rfl, ?_⟩) ?_ ?_
                                  rotate_left
                                  · intro w'
                                    go_simp
                                    with_reducible rfl
                                  rotate_left
                                  · simp only [Act.put, List.setIfInBounds_toArray, List.set_cons_zero, List.set_cons_succ, i64_w, i32_w]
                                    rfl
                                  refine pure_ (i := 27) (N := some 105) (v := undef) (a' := ?_) #[true, true, true, true, true, true, true, true, true, true, true, true, true, true, true, true, true, true, true, true, true, true, true, true, true, true, true, true, false, false, false, false, false, false, false, false, false, false, false, false, false] rfl rfl (any_of HT_.out (by kernel_rfl)) (fun _ _ _ h => h) (Or.inr ⟨by rfl, rfl⟩) ?_ ?_
                                  rotate_left
                                  · simp only [Act.put, List.setIfInBounds_toArray, List.set_cons_zero, List.set_cons_succ, i64_w, i32_w]
                                    rfl
                                  refine pure_ (i := 28) (N := some 106) (v := undef) (a' := ?_) #[true, true, true, true, true, true, true, true, true, true, true, true, true, true, true, true, true, true, true, true, true, true, true, true, true, true, true, true, true, false, false, false, false, false, false, false, false, false, false, false, false] rfl rfl (any_of HT_.out (by kernel_rfl)) (fun _ _ _ h => h) (Or.inr ⟨by rfl, rfl⟩) ?_ ?_
                                  rotate_left
                                  · simp only [Act.put, List.setIfInBounds_toArray, List.set_cons_zero, List.set_cons_succ, i64_w, i32_w]
                                    rfl
                                  refine pure_ (i := 29) (N := some 107) (v := undef) (a' := ?_) #[true, true, true, true, true, true, true, true, true, true, true, true, true, true, true, true, true, true, true, true, true, true, true, true, true, true, true, true, true, true, false, false, false, false, false, false, false, false, false, false, false] rfl rfl (any_of HT_.out (by kernel_rfl)) (fun _ _ _ h => h) (Or.inr ⟨by rfl, rfl⟩) ?_ ?_
                                  rotate_left
                                  · simp only [Act.put, List.setIfInBounds_toArray, List.set_cons_zero, List.set_cons_succ, i64_w, i32_w]
                                    rfl
                                  refine pure_ (i := 30) (N := some 108) (v := undef) (a' := ?_) #[true, true, true, true, true, true, true, true, true, true, true, true, true, true, true, true, true, true, true, true, true, true, true, true, true, true, true, true, true, true, true, false, false, false, false, false, false, false, false, false, false] rfl rfl (any_of HT_.out (by kernel_rfl)) (fun _ _ _ h => h) (Or.inr ⟨by rfl, rfl⟩) ?_ ?_
                                  rotate_left
                                  · simp only [Act.put, List.setIfInBounds_toArray, List.set_cons_zero, List.set_cons_succ, i64_w, i32_w]
                                    rfl
                                  refine pure_ (i := 31) (N := some 109) (v := undef) (a' := ?_) #[true, true, true, true, true, true, true, true, true, true, true, true, true, true, true, true, true, true, true, true, true, true, true, true, true, true, true, true, true, true, true, true, false, false, false, false, false, false, false, false, false] rfl rfl (any_of HT_.out (by kernel_rfl)) (fun _ _ _ h => h) (Or.inr ⟨by rfl, rfl⟩) ?_ ?_
                                  rotate_left
                                  · simp only [Act.put, List.setIfInBounds_toArray, List.set_cons_zero, List.set_cons_succ, i64_w, i32_w]
                                    rfl
                                  refine pure_ (i := 32) (N := some 110) (v := undef) (a' := ?_) #[true, true, true, true, true, true, true, true, true, true, true, true, true, true, true, true, true, true, true, true, true, true, true, true, true, true, true, true, true, true, true, true, true, false, false, false, false, false, false, false, false] rfl rfl (any_of HT_.out (by kernel_rfl)) (fun _ _ _ h => h) (Or.inr ⟨by rfl, rfl⟩) ?_ ?_
                                  rotate_left
                                  · simp only [Act.put, List.setIfInBounds_toArray, List.set_cons_zero, List.set_cons_succ, i64_w, i32_w]
                                    rfl
                                  refine pure_ (i := 33) (N := some 111) (v := undef) (a' := ?_) #[true, true, true, true, true, true, true, true, true, true, true, true, true, true, true, true, true, true, true, true, true, true, true, true, true, true, true, true, true, true, true, true, true, true, false, false, false, false, false, false, false] rfl rfl (any_of HT_.out (by kernel_rfl)) (fun _ _ _ h => h) (Or.inr ⟨by rfl, rfl⟩) ?_ ?_
                                  rotate_left
                                  · simp only [Act.put, List.setIfInBounds_toArray, List.set_cons_zero, List.set_cons_succ, i64_w, i32_w]
                                    rfl
                                  refine pure_ (i := 34) (N := some 112) (v := undef) (a' := ?_) #[true, true, true, true, true, true, true, true, true, true, true, true, true, true, true, true, true, true, true, true, true, true, true, true, true, true, true, true, true, true, true, true, true, true, true, false, false, false, false, false, false] rfl rfl (any_of HT_.out (by kernel_rfl)) (fun _ _ _ h => h) (Or.inr ⟨by rfl, rfl⟩) ?_ ?_
                                  rotate_left
                                  · simp only [Act.put, List.setIfInBounds_toArray, List.set_cons_zero, List.set_cons_succ, i64_w, i32_w]
                                    rfl
                                  refine pure_ (i := 35) (N := some 113) (v := undef) (a' := ?_) #[true, true, true, true, true, true, true, true, true, true, true, true, true, true, true, true, true, true, true, true, true, true, true, true, true, true, true, true, true, true, true, true, true, true, true, true, false, false, false, false, false] rfl rfl (any_of HT_.out (by kernel_rfl)) (fun _ _ _ h => h) (Or.inr ⟨by rfl, rfl⟩) ?_ ?_
                                  rotate_left
                                  · simp only [Act.put, List.setIfInBounds_toArray, List.set_cons_zero, List.set_cons_succ, i64_w, i32_w]
                                    rfl
                                  refine pure_ (i := 36) (N := some 114) (v := undef) (a' := ?_) #[true, true, true, true, true, true, true, true, true, true, true, true, true, true, true, true, true, true, true, true, true, true, true, true, true, true, true, true, true, true, true, true, true, true, true, true, true, false, false, false, false] rfl rfl (any_of HT_.out (by kernel_rfl)) (fun _ _ _ h => h) (Or.inr ⟨by rfl, rfl⟩) ?_ ?_
                                  rotate_left
                                  · simp only [Act.put, List.setIfInBounds_toArray, List.set_cons_zero, List.set_cons_succ, i64_w, i32_w]
                                    rfl
                                  refine pure_ (i := 37) (N := some 115) (v := undef) (a' := ?_) #[true, true, true, true, true, true, true, true, true, true, true, true, true, true, true, true, true, true, true, true, true, true, true, true, true, true, true, true, true, true, true, true, true, true, true, true, true, true, false, false, false] rfl rfl (any_of HT_.out (by kernel_rfl)) (fun _ _ _ h => h) (Or.inr ⟨by rfl, rfl⟩) ?_ ?_
                                  rotate_left
                                  · simp only [Act.put, List.setIfInBounds_toArray, List.set_cons_zero, List.set_cons_succ, i64_w, i32_w]
                                    rfl
                                  refine pure_ (i := 38) (N := some 116) (v := undef) (a' := ?_) #[true, true, true, true, true, true, true, true, true, true, true, true, true, true, true, true, true, true, true, true, true, true, true, true, true, true, true, true, true, true, true, true, true, true, true, true, true, true, true, false, false] rfl rfl (any_of HT_.out (by kernel_rfl)) (fun _ _ _ h => h) (Or.inr ⟨by rfl, rfl⟩) ?_ ?_
                                  rotate_left
                                  · simp only [Act.put, List.setIfInBounds_toArray, List.set_cons_zero, List.set_cons_succ, i64_w, i32_w]
                                    rfl
                                  refine pure_ (i := 39) (N := some 117) (v := ?_) (a' := ?_) #[true, true, true, true, true, true, true, true, true, true, true, true, true, true, true, true, true, true, true, true, true, true, true, true, true, true, true, true, true, true, true, true, true, true, true, true, true, true, true, true, false] rfl rfl (any_of HT_.out (by kernel_rfl)) (fun _ _ _ h => h) (Or.inl ⟨by rfl, ?_⟩) ?_ ?_
                                  rotate_left
                                  · intro w'
                                    go_simp
                                    with_reducible rfl
                                  rotate_left
                                  · simp only [Act.put, List.setIfInBounds_toArray, List.set_cons_zero, List.set_cons_succ, i64_w, i32_w]
                                    rfl
                                  refine pure_ (i := 40) (N := some 2) (v := ?_) (a' := ?_) #[true, true, true, true, true, true, true, true, true, true, true, true, true, true, true, true, true, true, true, true, true, true, true, true, true, true, true, true, true, true, true, true, true, true, true, true, true, true, true, true, true] rfl rfl (any_of HT_.out (by kernel_rfl)) (fun _ _ _ h => h) (Or.inl ⟨by rfl, ?_⟩) ?_ ?_
                                  rotate_left
                                  · intro w'
                                    go_simp
                                    with_reducible rfl
                                  rotate_left
                                  · simp only [Act.put, List.setIfInBounds_toArray, List.set_cons_zero, List.set_cons_succ, i64_w, i32_w]
                                    rfl
                                  refine done_ (done_of HT_.out (by kernel_rfl)) ?_
                                  try go_wp2
                                  go_ret
                                  exact ⟨by first | rfl | (simp [errW_none, errW_some] <;> rfl) | (simp only [← hji22]; first | rfl | (simp [errW_none, errW_some] <;> rfl)) | (simp [*, errW_none, errW_some] <;> rfl), by repeat (first | (with_reducible first | exact HB.out | apply below_alloc | apply pw_below_drewN | apply below_drew1 | refine below_set ?_ GE429.out) | exact HB.out)⟩
                              · rw [if_neg c33] at H
                                exact absurd H (by simp)
                            · rw [if_neg c31] at H
                              exact absurd H (by simp)
                          · replace c29 := Bool.eq_false_iff.mpr c29
                            subst c29
                            have H1 : (some false) = some r := by rw [if_neg (show ¬ (false = true) by decide)] at H; exact H
                            clear H
                            have H := H1
                            clear H1
                            obtain rfl := Option.some.inj H
                            have q73 : ((wrap64 ((ji22) + (Int.tmod (wrap64 (a0_2)) (wrap64 ((wrap64 ((l0_0.length : Int) - (ji22))) + 1))))) : Int) ≤ ((l0_0.length : Int) : Int) := of_decide_eq_true (by first | (with_reducible assumption) | assumption)
                            obtain ⟨i073, hi073, _, hsz73, _⟩ := info_parts info78
                            have hroom73 : l0_0.length ≤ c0_0 := HC0_0.out
                            have hC73 : Kd.C k78 _ A0_0 l0_0.length l0_0 := HR0_0.out
                            have ql73 : ((ji22) : Int) ≤ ((wrap64 ((ji22) + (Int.tmod (wrap64 (a0_2)) (wrap64 ((wrap64 ((l0_0.length : Int) - (ji22))) + 1))))) : Int) := of_decide_eq_true (by first | (with_reducible assumption) | assumption)
                            have q073 : (0 : Int) ≤ ((ji22) : Int) := of_decide_eq_true (by first | (with_reducible assumption) | assumption)
                            have hcut73 := cut_mid (P := Try.prog) 54 78 .i64 .i64 Try.underlying54 hi073 2 hsz73 A0_0 l0_0.length c0_0 (ji22) (wrap64 ((ji22) + (Int.tmod (wrap64 (a0_2)) (wrap64 ((wrap64 ((l0_0.length : Int) - (ji22))) + 1))))) q073 ql73 q73 hroom73
                            have hr73 := Kd.C_mid (lo := ((ji22) : Int).toNat) (hi := ((wrap64 ((ji22) + (Int.tmod (wrap64 (a0_2)) (wrap64 ((wrap64 ((l0_0.length : Int) - (ji22))) + 1))))) : Int).toNat) (c := c0_0) hC73 (by omega) (by omega) hroom73
                            obtain ⟨A73, hA73⟩ : ∃ A1, A1 = (if c0_0 = ((ji22) : Int).toNat then A0_0 else (A0_0 : Option Addr).map (·.add (((ji22) : Int).toNat * 2))) := ⟨_, rfl⟩
                            obtain ⟨c73, hc73⟩ : ∃ c1, c1 = c0_0 - ((ji22) : Int).toNat := ⟨_, rfl⟩
                            have hy73 : y438.length = ((wrap64 ((ji22) + (Int.tmod (wrap64 (a0_2)) (wrap64 ((wrap64 ((l0_0.length : Int) - (ji22))) + 1))))) : Int).toNat - ((ji22) : Int).toNat := (by rw [Ny438.out, List.length_drop, List.length_take] <;> omega)
                            rw [show ((l0_0).take ((wrap64 ((ji22) + (Int.tmod (wrap64 (a0_2)) (wrap64 ((wrap64 ((l0_0.length : Int) - (ji22))) + 1))))) : Int).toNat).drop ((ji22) : Int).toNat = y438 from Ny438.out.symm] at hr73
                            replace hr73 : Kd.C k78 _ A73 y438.length y438 := (by rw [hA73]; exact hr73)
                            rw [← hy73, ← hA73, ← hc73] at hcut73
                            have HR441 := Aside0.mk hr73
                            have HC441 := Aside0.mk (show y438.length ≤ c73 from by rw [hy73, hc73]; exact Nat.sub_le_sub_right (Nat.le_trans (by omega) hroom73) _)
                            clear hr73 hC73 hroom73 hi073 hsz73 hc73
                            have KY73 := Aside0.mk hy73
                            have KA73 := Aside0.mk hA73
                            clear hy73 hA73
                            replace q73 := eq_true q73
                            obtain ⟨Ao74, co74, eo74⟩ := Kd.R_slice HO_10.out
                            subst eo74
                            try go_wp2_with (first | ((with_reducible refine gate_callee (f := 41) rfl ?_); refine goesL_ (some 77) rfl rfl Try.func41 (by kernel_rfl) rfl #[.slice Ao74 t431.length co74, .int .i64 (ji22), .int .i64 (l0_3.length : Int), .slice A73 y438.length c73] rfl (by (try simp only [List.map_toArray, List.map_cons, List.map_nil]); first | done | (simp only [hji22]; rfl) | rfl | (simp only [List.length_drop, List.length_take]; rfl)) ?_; (with_reducible refine (node_With.calls (fun k_ => some k_ = (.slice Ao74 t431.length co74 : Value).ownBlock) _ _ t431 (ji22) (l0_3.length : Int) (fun k_ => k_ < w.heap.size) _ _ y438 t442 _ ?side1 ?side2 A26.out).mono ?_); (case side1 => exact Kd.R_V (Kd.R_tight rfl (Kd.R_types (HO_10.out) BK429.out (by decide)))); (case side2 => exact Kd.V_mk HC441.out (Kd.F_below (Kd.C_F k78_heap HR441.out) (by repeat (first | (with_reducible first | exact HB.out | apply below_alloc | apply pw_below_drewN | apply below_drew1 | refine below_set ?_ GE429.out) | exact HB.out)))); rintro e w75 ⟨v443, rfl, ho0, hb⟩; refine ⟨_, rfl, ?_⟩; have n0 := Aside0.mk (Kd.R_elder' (by (with_reducible repeat (first | apply Kd.R_alloc | apply Kd.R_drewN | apply Kd.R_drew)); exact HO_10.out) (Kd.R_base ho0) hb); have n1 := Aside0.mk (Kd.R_lower (Kd.R_new' (Kd.R_mono (ok' := fun k_ => True) ho0 (fun _ hk_ => trivial)) (Kd.R_lt (by (with_reducible repeat (first | apply Kd.R_alloc | apply Kd.R_drewN | apply Kd.R_drew)); exact HO_10.out))) (below_size (by repeat (first | (with_reducible first | exact HB.out | apply below_alloc | apply pw_below_drewN | apply below_drew1 | refine below_set ?_ GE429.out) | exact HB.out)))); have n2 := Aside0.mk (blk_below (g := gb429) (o := .cells #[.slice A0_0 l0_0.length c0_0, .int .u8 a0_1, .int .u8 a0_2, .slice A0_3 l0_3.length c0_3] 81 (0, 0)) (by (with_reducible repeat (first | refine blk_drewN ?_ _ | refine blk_drew ?_ | refine blk_alloc ?_ _)); exact BK429.out) hb); have n3 := Aside0.mk (below_step (by repeat (first | (with_reducible first | exact HB.out | apply below_alloc | apply pw_below_drewN | apply below_drew1 | refine below_set ?_ GE429.out) | exact HB.out)) hb); clear HO_10; clear BK429; clear HB; have HO_10 := n0; have HO444 := n1; have BK429 := n2; have HB := n3; clear n0 n1 n2 n3; (try clear hb); (try clear hb2); (try clear hk); (try clear hi); (try clear ho0)))
                            have n0 := Aside0.mk (Kd.R_drew HO_10.out)
                            have n1 := Aside0.mk (Kd.R_drew HO444.out)
                            have n2 := Aside0.mk (blk_drew BK429.out)
                            have n3 := Aside0.mk (below_drew1 HB.out)
                            clear HO_10
                            clear HO444
                            clear BK429
                            clear HB
                            have HO_10 := n0
                            have HO444 := n1
                            have BK429 := n2
                            have HB := n3
                            clear n0 n1 n2 n3
                            obtain ⟨Ao77, co77, eo77⟩ := Kd.R_slice HO444.out
                            (first | subst eo77 | (injection eo77 with f1_ f2_ f3_; have f4_ := f1_.symm; have f5_ := f3_.symm; clear f1_ f2_ f3_; subst f4_; subst f5_))
                            refine start_ (n := 41) (S := fun w' => True) (ds := []) #[false, false, false, false, false, false, false, false, false, false, false, false, false, false, false, false, false, false, false, false, false, false, false, false, false, false, false, false, false, false, false, false, false, false, false, false, false, false, false, false, false] (by kernel_rfl) rfl rfl trivial (fun hHeld => ?_); refine with_tabW assartlaw04_NodeWith.tab14 assartlaw04_NodeWith.bits14 (fun HT_ HW_ => ?_)
                            generalize w75.drew = w76 at HO_10 HO444 BK429 HB hHeld ⊢
                            refine pure_ (i := 0) (N := some 78) (v := ?_) (a' := ?_) #[true, false, false, false, false, false, false, false, false, false, false, false, false, false, false, false, false, false, false, false, false, false, false, false, false, false, false, false, false, false, false, false, false, false, false, false, false, false, false, false, false] rfl rfl (any_of HT_.out (by kernel_rfl)) (fun _ _ _ h => h) (Or.inl ⟨by rfl, ?_⟩) ?_ ?_
                            rotate_left
                            · intro w'
                              go_simp
                              with_reducible rfl
                            rotate_left
                            · simp only [Act.put, List.setIfInBounds_toArray, List.set_cons_zero, List.set_cons_succ, i64_w, i32_w]
                              rfl
                            refine pure_ (i := 1) (N := some 79) (v := ?_) (a' := ?_) #[true, true, false, false, false, false, false, false, false, false, false, false, false, false, false, false, false, false, false, false, false, false, false, false, false, false, false, false, false, false, false, false, false, false, false, false, false, false, false, false, false] rfl rfl (any_of HT_.out (by kernel_rfl)) (fun _ _ _ h => h) (Or.inl ⟨by rfl, ?_⟩) ?_ ?_
                            rotate_left
                            · intro w'
                              go_simp
                              with_reducible rfl
                            rotate_left
                            · simp only [Act.put, List.setIfInBounds_toArray, List.set_cons_zero, List.set_cons_succ, i64_w, i32_w]
                              rfl
                            refine pure_ (i := 2) (N := some 80) (v := ?_) (a' := ?_) #[true, true, true, false, false, false, false, false, false, false, false, false, false, false, false, false, false, false, false, false, false, false, false, false, false, false, false, false, false, false, false, false, false, false, false, false, false, false, false, false, false] rfl rfl (any_of HT_.out (by kernel_rfl)) (fun _ _ _ h => h) (Or.inl ⟨by rfl, ?_⟩) ?_ ?_
                            rotate_left
                            · intro w'
                              go_simp
                              with_reducible rfl
                            rotate_left
                            · simp only [Act.put, List.setIfInBounds_toArray, List.set_cons_zero, List.set_cons_succ, i64_w, i32_w]
                              rfl
                            refine pure_ (i := 3) (N := some 81) (v := ?_) (a' := ?_) #[true, true, true, true, false, false, false, false, false, false, false, false, false, false, false, false, false, false, false, false, false, false, false, false, false, false, false, false, false, false, false, false, false, false, false, false, false, false, false, false, false] rfl rfl (any_of HT_.out (by kernel_rfl)) (fun _ _ _ h => h) (Or.inl ⟨by rfl, ?_⟩) ?_ ?_
                            rotate_left
                            · intro w'
                              go_simp
                              with_reducible rfl
                            rotate_left
                            · simp only [Act.put, List.setIfInBounds_toArray, List.set_cons_zero, List.set_cons_succ, i64_w, i32_w]
                              rfl
                            refine one_ (i := 4) (N := some 82) #[true, true, true, true, true, false, false, false, false, false, false, false, false, false, false, false, false, false, false, false, false, false, false, false, false, false, false, false, false, false, false, false, false, false, false, false, false, false, false, false, false] rfl rfl (one_of HT_.out (by kernel_rfl)) (by decide) (fun K hK => ?_)
                            refine goes_ Try.func40 (by kernel_rfl) rfl #[.slice Ao77 t442.length co77, .slice A0_0 l0_0.length c0_0] (by rfl) rfl rfl (by (try simp only [List.map_toArray, List.map_cons, List.map_nil]); first | done | rfl | (simp only [List.length_drop, List.length_take]; rfl)) ?_
                            with_reducible refine (assartref04_Items.calls kj11 _ _ t442 _ _ l0_0 false _ ?side1 ?side2 ?side3 ?side4 A28.out).mono ?_
                            (case side1 => repeat (first | exact (Kd.R_reads' HO444.out).2.2 | (with_reducible refine Kd.C_alloc ?_ _) | (with_reducible refine Kd.C_drewN ?_ _) | (with_reducible refine Kd.C_drew ?_)))
                            (case side2 => exact (Kd.R_reads' HO444.out).2.1)
                            (case side3 => repeat (first | exact (Kd.C_below HR0_0.out HB.out) | (with_reducible refine Kd.C_alloc ?_ _) | (with_reducible refine Kd.C_drewN ?_ _) | (with_reducible refine Kd.C_drew ?_)))
                            (case side4 => exact HC0_0.out)
                            rintro e w' ⟨rfl, ⟨nd, rfl⟩⟩
                            refine ⟨_, rfl, ?_⟩
                            refine hK.out _ _ trivial (fun hHeld => ?_)
                            clear hK K
                            refine norm_ (a' := ?_) ?_ ?_
                            rotate_left
                            · show Act.put _ (some 82) _ = _
                              simp only [Act.put, List.setIfInBounds_toArray, List.set_cons_zero, List.set_cons_succ, i64_w, i32_w]
                              rfl
                            refine pure_ (i := 5) (N := some 83) (v := ?_) (a' := ?_) #[true, true, true, true, true, true, false, false, false, false, false, false, false, false, false, false, false, false, false, false, false, false, false, false, false, false, false, false, false, false, false, false, false, false, false, false, false, false, false, false, false] rfl rfl (any_of HT_.out (by kernel_rfl)) (fun _ _ _ h => h) (Or.inl ⟨by rfl, ?_⟩) ?_ ?_
                            rotate_left
                            · intro w'
                              go_simp
                              with_reducible rfl
                            rotate_left
                            · simp only [Act.put, List.setIfInBounds_toArray, List.set_cons_zero, List.set_cons_succ, i64_w, i32_w]
                              rfl
                            refine pure_ (i := 6) (N := some 84) (v := ?_) (a' := ?_) #[true, true, true, true, true, true, true, false, false, false, false, false, false, false, false, false, false, false, false, false, false, false, false, false, false, false, false, false, false, false, false, false, false, false, false, false, false, false, false, false, false] rfl rfl (any_of HT_.out (by kernel_rfl)) (fun _ _ _ h => h) (Or.inl ⟨by rfl, ?_⟩) ?_ ?_
                            rotate_left
                            · intro w'
                              go_simp
                              with_reducible rfl
                            rotate_left
                            · simp only [Act.put, List.setIfInBounds_toArray, List.set_cons_zero, List.set_cons_succ, i64_w, i32_w]
                              rfl
                            refine pure_ (i := 7) (N := some 85) (v := undef) (a' := ?_) #[true, true, true, true, true, true, true, true, false, false, false, false, false, false, false, false, false, false, false, false, false, false, false, false, false, false, false, false, false, false, false, false, false, false, false, false, false, false, false, false, false] rfl rfl (any_of HT_.out (by kernel_rfl)) (fun _ _ _ h => h) (Or.inr ⟨by rfl, rfl⟩) ?_ ?_
                            rotate_left
                            · simp only [Act.put, List.setIfInBounds_toArray, List.set_cons_zero, List.set_cons_succ, i64_w, i32_w]
                              rfl
                            refine pure_ (i := 8) (N := some 86) (v := undef) (a' := ?_) #[true, true, true, true, true, true, true, true, true, false, false, false, false, false, false, false, false, false, false, false, false, false, false, false, false, false, false, false, false, false, false, false, false, false, false, false, false, false, false, false, false] rfl rfl (any_of HT_.out (by kernel_rfl)) (fun _ _ _ h => h) (Or.inr ⟨by rfl, rfl⟩) ?_ ?_
                            rotate_left
                            · simp only [Act.put, List.setIfInBounds_toArray, List.set_cons_zero, List.set_cons_succ, i64_w, i32_w]
                              rfl
                            refine pure_ (i := 9) (N := some 87) (v := undef) (a' := ?_) #[true, true, true, true, true, true, true, true, true, true, false, false, false, false, false, false, false, false, false, false, false, false, false, false, false, false, false, false, false, false, false, false, false, false, false, false, false, false, false, false, false] rfl rfl (any_of HT_.out (by kernel_rfl)) (fun _ _ _ h => h) (Or.inr ⟨by rfl, rfl⟩) ?_ ?_
                            rotate_left
                            · simp only [Act.put, List.setIfInBounds_toArray, List.set_cons_zero, List.set_cons_succ, i64_w, i32_w]
                              rfl
                            refine pure_ (i := 10) (N := some 88) (v := undef) (a' := ?_) #[true, true, true, true, true, true, true, true, true, true, true, false, false, false, false, false, false, false, false, false, false, false, false, false, false, false, false, false, false, false, false, false, false, false, false, false, false, false, false, false, false] rfl rfl (any_of HT_.out (by kernel_rfl)) (fun _ _ _ h => h) (Or.inr ⟨by rfl, rfl⟩) ?_ ?_
                            rotate_left
                            · simp only [Act.put, List.setIfInBounds_toArray, List.set_cons_zero, List.set_cons_succ, i64_w, i32_w]
                              rfl
                            refine pure_ (i := 11) (N := some 89) (v := undef) (a' := ?_) #[true, true, true, true, true, true, true, true, true, true, true, true, false, false, false, false, false, false, false, false, false, false, false, false, false, false, false, false, false, false, false, false, false, false, false, false, false, false, false, false, false] rfl rfl (any_of HT_.out (by kernel_rfl)) (fun _ _ _ h => h) (Or.inr ⟨by rfl, rfl⟩) ?_ ?_
                            rotate_left
                            · simp only [Act.put, List.setIfInBounds_toArray, List.set_cons_zero, List.set_cons_succ, i64_w, i32_w]
                              rfl
                            refine pure_ (i := 12) (N := some 90) (v := undef) (a' := ?_) #[true, true, true, true, true, true, true, true, true, true, true, true, true, false, false, false, false, false, false, false, false, false, false, false, false, false, false, false, false, false, false, false, false, false, false, false, false, false, false, false, false] rfl rfl (any_of HT_.out (by kernel_rfl)) (fun _ _ _ h => h) (Or.inr ⟨by rfl, rfl⟩) ?_ ?_
                            rotate_left
                            · simp only [Act.put, List.setIfInBounds_toArray, List.set_cons_zero, List.set_cons_succ, i64_w, i32_w]
                              rfl
                            refine pure_ (i := 13) (N := some 91) (v := undef) (a' := ?_) #[true, true, true, true, true, true, true, true, true, true, true, true, true, true, false, false, false, false, false, false, false, false, false, false, false, false, false, false, false, false, false, false, false, false, false, false, false, false, false, false, false] rfl rfl (any_of HT_.out (by kernel_rfl)) (fun _ _ _ h => h) (Or.inr ⟨by rfl, rfl⟩) ?_ ?_
                            rotate_left
                            · simp only [Act.put, List.setIfInBounds_toArray, List.set_cons_zero, List.set_cons_succ, i64_w, i32_w]
                              rfl
                            refine pure_ (i := 14) (N := some 92) (v := ?_) (a' := ?_) #[true, true, true, true, true, true, true, true, true, true, true, true, true, true, true, false, false, false, false, false, false, false, false, false, false, false, false, false, false, false, false, false, false, false, false, false, false, false, false, false, false] rfl rfl (any_of HT_.out (by kernel_rfl)) (fun _ _ _ h => h) (Or.inl ⟨by rfl, ?_⟩) ?_ ?_
                            rotate_left
                            · intro w'
                              go_simp
                              with_reducible rfl
                            rotate_left
                            · simp only [Act.put, List.setIfInBounds_toArray, List.set_cons_zero, List.set_cons_succ, i64_w, i32_w]
                              rfl
                            refine pure_ (i := 15) (N := some 93) (v := ?_) (a' := ?_) #[true, true, true, true, true, true, true, true, true, true, true, true, true, true, true, true, false, false, false, false, false, false, false, false, false, false, false, false, false, false, false, false, false, false, false, false, false, false, false, false, false] rfl rfl (any_of HT_.out (by kernel_rfl)) (fun _ _ _ h => h) (Or.inl ⟨by rfl, ?_⟩) ?_ ?_
                            rotate_left
                            · intro w'
                              go_simp
                              with_reducible rfl
                            rotate_left
                            · simp only [Act.put, List.setIfInBounds_toArray, List.set_cons_zero, List.set_cons_succ, i64_w, i32_w]
                              rfl
                            refine pure_ (i := 16) (N := some 94) (v := undef) (a' := ?_) #[true, true, true, true, true, true, true, true, true, true, true, true, true, true, true, true, true, false, false, false, false, false, false, false, false, false, false, false, false, false, false, false, false, false, false, false, false, false, false, false, false] rfl rfl (any_of HT_.out (by kernel_rfl)) (fun _ _ _ h => h) (Or.inr ⟨by rfl, rfl⟩) ?_ ?_
                            rotate_left
                            · simp only [Act.put, List.setIfInBounds_toArray, List.set_cons_zero, List.set_cons_succ, i64_w, i32_w]
                              rfl
                            refine pure_ (i := 17) (N := some 95) (v := undef) (a' := ?_) #[true, true, true, true, true, true, true, true, true, true, true, true, true, true, true, true, true, true, false, false, false, false, false, false, false, false, false, false, false, false, false, false, false, false, false, false, false, false, false, false, false] rfl rfl (any_of HT_.out (by kernel_rfl)) (fun _ _ _ h => h) (Or.inr ⟨by rfl, rfl⟩) ?_ ?_
                            rotate_left
                            · simp only [Act.put, List.setIfInBounds_toArray, List.set_cons_zero, List.set_cons_succ, i64_w, i32_w]
                              rfl
                            refine pure_ (i := 18) (N := some 96) (v := undef) (a' := ?_) #[true, true, true, true, true, true, true, true, true, true, true, true, true, true, true, true, true, true, true, false, false, false, false, false, false, false, false, false, false, false, false, false, false, false, false, false, false, false, false, false, false] rfl rfl (any_of HT_.out (by kernel_rfl)) (fun _ _ _ h => h) (Or.inr ⟨by rfl, rfl⟩) ?_ ?_
                            rotate_left
                            · simp only [Act.put, List.setIfInBounds_toArray, List.set_cons_zero, List.set_cons_succ, i64_w, i32_w]
                              rfl
                            refine pure_ (i := 19) (N := some 97) (v := undef) (a' := ?_) #[true, true, true, true, true, true, true, true, true, true, true, true, true, true, true, true, true, true, true, true, false, false, false, false, false, false, false, false, false, false, false, false, false, false, false, false, false, false, false, false, false] rfl rfl (any_of HT_.out (by kernel_rfl)) (fun _ _ _ h => h) (Or.inr ⟨by rfl, rfl⟩) ?_ ?_
                            rotate_left
                            · simp only [Act.put, List.setIfInBounds_toArray, List.set_cons_zero, List.set_cons_succ, i64_w, i32_w]
                              rfl
                            refine pure_ (i := 20) (N := some 98) (v := undef) (a' := ?_) #[true, true, true, true, true, true, true, true, true, true, true, true, true, true, true, true, true, true, true, true, true, false, false, false, false, false, false, false, false, false, false, false, false, false, false, false, false, false, false, false, false] rfl rfl (any_of HT_.out (by kernel_rfl)) (fun _ _ _ h => h) (Or.inr ⟨by rfl, rfl⟩) ?_ ?_
                            rotate_left
                            · simp only [Act.put, List.setIfInBounds_toArray, List.set_cons_zero, List.set_cons_succ, i64_w, i32_w]
                              rfl
                            refine pure_ (i := 21) (N := some 99) (v := undef) (a' := ?_) #[true, true, true, true, true, true, true, true, true, true, true, true, true, true, true, true, true, true, true, true, true, true, false, false, false, false, false, false, false, false, false, false, false, false, false, false, false, false, false, false, false] rfl rfl (any_of HT_.out (by kernel_rfl)) (fun _ _ _ h => h) (Or.inr ⟨by rfl, rfl⟩) ?_ ?_
                            rotate_left
                            · simp only [Act.put, List.setIfInBounds_toArray, List.set_cons_zero, List.set_cons_succ, i64_w, i32_w]
                              rfl
                            refine pure_ (i := 22) (N := some 100) (v := undef) (a' := ?_) #[true, true, true, true, true, true, true, true, true, true, true, true, true, true, true, true, true, true, true, true, true, true, true, false, false, false, false, false, false, false, false, false, false, false, false, false, false, false, false, false, false] rfl rfl (any_of HT_.out (by kernel_rfl)) (fun _ _ _ h => h) (Or.inr ⟨by rfl, rfl⟩) ?_ ?_
                            rotate_left
                            · simp only [Act.put, List.setIfInBounds_toArray, List.set_cons_zero, List.set_cons_succ, i64_w, i32_w]
                              rfl
                            refine pure_ (i := 23) (N := some 101) (v := undef) (a' := ?_) #[true, true, true, true, true, true, true, true, true, true, true, true, true, true, true, true, true, true, true, true, true, true, true, true, false, false, false, false, false, false, false, false, false, false, false, false, false, false, false, false, false] rfl rfl (any_of HT_.out (by kernel_rfl)) (fun _ _ _ h => h) (Or.inr ⟨by rfl, rfl⟩) ?_ ?_
                            rotate_left
                            · simp only [Act.put, List.setIfInBounds_toArray, List.set_cons_zero, List.set_cons_succ, i64_w, i32_w]
                              rfl
                            refine pure_ (i := 24) (N := some 102) (v := undef) (a' := ?_) #[true, true, true, true, true, true, true, true, true, true, true, true, true, true, true, true, true, true, true, true, true, true, true, true, true, false, false, false, false, false, false, false, false, false, false, false, false, false, false, false, false] rfl rfl (any_of HT_.out (by kernel_rfl)) (fun _ _ _ h => h) (Or.inr ⟨by rfl, rfl⟩) ?_ ?_
                            rotate_left
                            · simp only [Act.put, List.setIfInBounds_toArray, List.set_cons_zero, List.set_cons_succ, i64_w, i32_w]
                              rfl
                            refine pure_ (i := 25) (N := some 103) (v := ?_) (a' := ?_) #[true, true, true, true, true, true, true, true, true, true, true, true, true, true, true, true, true, true, true, true, true, true, true, true, true, true, false, false, false, false, false, false, false, false, false, false, false, false, false, false, false] rfl rfl (any_of HT_.out (by kernel_rfl)) (fun _ _ _ h => h) (Or.inl ⟨by rfl, ?_⟩) ?_ ?_
                            rotate_left
                            · intro w'
                              go_simp
                              with_reducible rfl
                            rotate_left
                            · simp only [Act.put, List.setIfInBounds_toArray, List.set_cons_zero, List.set_cons_succ, i64_w, i32_w]
                              rfl
                            refine pure_ (i := 26) (N := some 104) (v := ?_) (a' := ?_) #[true, true, true, true, true, true, true, true, true, true, true, true, true, true, true, true, true, true, true, true, true, true, true, true, true, true, true, false, false, false, false, false, false, false, false, false, false, false, false, false, false] rfl rfl (any_of HT_.out (by kernel_rfl)) (fun _ _ _ h => h) (Or.inl ⟨by rfl, ?_⟩) ?_ ?_
                            rotate_left
                            · intro w'
                              go_simp
                              with_reducible rfl
                            rotate_left
                            · simp only [Act.put, List.setIfInBounds_toArray, List.set_cons_zero, List.set_cons_succ, i64_w, i32_w]
                              rfl
                            refine pure_ (i := 27) (N := some 105) (v := undef) (a' := ?_) #[true, true, true, true, true, true, true, true, true, true, true, true, true, true, true, true, true, true, true, true, true, true, true, true, true, true, true, true, false, false, false, false, false, false, false, false, false, false, false, false, false] rfl rfl (any_of HT_.out (by kernel_rfl)) (fun _ _ _ h => h) (Or.inr ⟨by rfl, rfl⟩) ?_ ?_
                            rotate_left
                            · simp only [Act.put, List.setIfInBounds_toArray, List.set_cons_zero, List.set_cons_succ, i64_w, i32_w]
                              rfl
                            refine pure_ (i := 28) (N := some 106) (v := undef) (a' := ?_) #[true, true, true, true, true, true, true, true, true, true, true, true, true, true, true, true, true, true, true, true, true, true, true, true, true, true, true, true, true, false, false, false, false, false, false, false, false, false, false, false, false] rfl rfl (any_of HT_.out (by kernel_rfl)) (fun _ _ _ h => h) (Or.inr ⟨by rfl, rfl⟩) ?_ ?_
                            rotate_left
                            · simp only [Act.put, List.setIfInBounds_toArray, List.set_cons_zero, List.set_cons_succ, i64_w, i32_w]
                              rfl
                            refine pure_ (i := 29) (N := some 107) (v := undef) (a' := ?_) #[true, true, true, true, true, true, true, true, true, true, true, true, true, true, true, true, true, true, true, true, true, true, true, true, true, true, true, true, true, true, false, false, false, false, false, false, false, false, false, false, false] rfl rfl (any_of HT_.out (by kernel_rfl)) (fun _ _ _ h => h) (Or.inr ⟨by rfl, rfl⟩) ?_ ?_
                            rotate_left
                            · simp only [Act.put, List.setIfInBounds_toArray, List.set_cons_zero, List.set_cons_succ, i64_w, i32_w]
                              rfl
                            refine pure_ (i := 30) (N := some 108) (v := undef) (a' := ?_) #[true, true, true, true, true, true, true, true, true, true, true, true, true, true, true, true, true, true, true, true, true, true, true, true, true, true, true, true, true, true, true, false, false, false, false, false, false, false, false, false, false] rfl rfl (any_of HT_.out (by kernel_rfl)) (fun _ _ _ h => h) (Or.inr ⟨by rfl, rfl⟩) ?_ ?_
                            rotate_left
                            · simp only [Act.put, List.setIfInBounds_toArray, List.set_cons_zero, List.set_cons_succ, i64_w, i32_w]
                              rfl
                            refine pure_ (i := 31) (N := some 109) (v := undef) (a' := ?_) #[true, true, true, true, true, true, true, true, true, true, true, true, true, true, true, true, true, true, true, true, true, true, true, true, true, true, true, true, true, true, true, true, false, false, false, false, false, false, false, false, false] rfl rfl (any_of HT_.out (by kernel_rfl)) (fun _ _ _ h => h) (Or.inr ⟨by rfl, rfl⟩) ?_ ?_
                            rotate_left
                            · simp only [Act.put, List.setIfInBounds_toArray, List.set_cons_zero, List.set_cons_succ, i64_w, i32_w]
                              rfl
                            refine pure_ (i := 32) (N := some 110) (v := undef) (a' := ?_) #[true, true, true, true, true, true, true, true, true, true, true, true, true, true, true, true, true, true, true, true, true, true, true, true, true, true, true, true, true, true, true, true, true, false, false, false, false, false, false, false, false] rfl rfl (any_of HT_.out (by kernel_rfl)) (fun _ _ _ h => h) (Or.inr ⟨by rfl, rfl⟩) ?_ ?_
                            rotate_left
                            · simp only [Act.put, List.setIfInBounds_toArray, List.set_cons_zero, List.set_cons_succ, i64_w, i32_w]
                              rfl
                            refine pure_ (i := 33) (N := some 111) (v := undef) (a' := ?_) #[true, true, true, true, true, true, true, true, true, true, true, true, true, true, true, true, true, true, true, true, true, true, true, true, true, true, true, true, true, true, true, true, true, true, false, false, false, false, false, false, false] rfl rfl (any_of HT_.out (by kernel_rfl)) (fun _ _ _ h => h) (Or.inr ⟨by rfl, rfl⟩) ?_ ?_
                            rotate_left
                            · simp only [Act.put, List.setIfInBounds_toArray, List.set_cons_zero, List.set_cons_succ, i64_w, i32_w]
                              rfl
                            refine pure_ (i := 34) (N := some 112) (v := undef) (a' := ?_) #[true, true, true, true, true, true, true, true, true, true, true, true, true, true, true, true, true, true, true, true, true, true, true, true, true, true, true, true, true, true, true, true, true, true, true, false, false, false, false, false, false] rfl rfl (any_of HT_.out (by kernel_rfl)) (fun _ _ _ h => h) (Or.inr ⟨by rfl, rfl⟩) ?_ ?_
                            rotate_left
                            · simp only [Act.put, List.setIfInBounds_toArray, List.set_cons_zero, List.set_cons_succ, i64_w, i32_w]
                              rfl
                            refine pure_ (i := 35) (N := some 113) (v := undef) (a' := ?_) #[true, true, true, true, true, true, true, true, true, true, true, true, true, true, true, true, true, true, true, true, true, true, true, true, true, true, true, true, true, true, true, true, true, true, true, true, false, false, false, false, false] rfl rfl (any_of HT_.out (by kernel_rfl)) (fun _ _ _ h => h) (Or.inr ⟨by rfl, rfl⟩) ?_ ?_
                            rotate_left
                            · simp only [Act.put, List.setIfInBounds_toArray, List.set_cons_zero, List.set_cons_succ, i64_w, i32_w]
                              rfl
                            refine pure_ (i := 36) (N := some 114) (v := undef) (a' := ?_) #[true, true, true, true, true, true, true, true, true, true, true, true, true, true, true, true, true, true, true, true, true, true, true, true, true, true, true, true, true, true, true, true, true, true, true, true, true, false, false, false, false] rfl rfl (any_of HT_.out (by kernel_rfl)) (fun _ _ _ h => h) (Or.inr ⟨by rfl, rfl⟩) ?_ ?_
                            rotate_left
                            · simp only [Act.put, List.setIfInBounds_toArray, List.set_cons_zero, List.set_cons_succ, i64_w, i32_w]
                              rfl
                            refine pure_ (i := 37) (N := some 115) (v := undef) (a' := ?_) #[true, true, true, true, true, true, true, true, true, true, true, true, true, true, true, true, true, true, true, true, true, true, true, true, true, true, true, true, true, true, true, true, true, true, true, true, true, true, false, false, false] rfl rfl (any_of HT_.out (by kernel_rfl)) (fun _ _ _ h => h) (Or.inr ⟨by rfl, rfl⟩) ?_ ?_
                            rotate_left
                            · simp only [Act.put, List.setIfInBounds_toArray, List.set_cons_zero, List.set_cons_succ, i64_w, i32_w]
                              rfl
                            refine pure_ (i := 38) (N := some 116) (v := undef) (a' := ?_) #[true, true, true, true, true, true, true, true, true, true, true, true, true, true, true, true, true, true, true, true, true, true, true, true, true, true, true, true, true, true, true, true, true, true, true, true, true, true, true, false, false] rfl rfl (any_of HT_.out (by kernel_rfl)) (fun _ _ _ h => h) (Or.inr ⟨by rfl, rfl⟩) ?_ ?_
                            rotate_left
                            · simp only [Act.put, List.setIfInBounds_toArray, List.set_cons_zero, List.set_cons_succ, i64_w, i32_w]
                              rfl
                            refine pure_ (i := 39) (N := some 117) (v := ?_) (a' := ?_) #[true, true, true, true, true, true, true, true, true, true, true, true, true, true, true, true, true, true, true, true, true, true, true, true, true, true, true, true, true, true, true, true, true, true, true, true, true, true, true, true, false] rfl rfl (any_of HT_.out (by kernel_rfl)) (fun _ _ _ h => h) (Or.inl ⟨by rfl, ?_⟩) ?_ ?_
                            rotate_left
                            · intro w'
                              go_simp
                              with_reducible rfl
                            rotate_left
                            · simp only [Act.put, List.setIfInBounds_toArray, List.set_cons_zero, List.set_cons_succ, i64_w, i32_w]
                              rfl
                            refine pure_ (i := 40) (N := some 2) (v := ?_) (a' := ?_) #[true, true, true, true, true, true, true, true, true, true, true, true, true, true, true, true, true, true, true, true, true, true, true, true, true, true, true, true, true, true, true, true, true, true, true, true, true, true, true, true, true] rfl rfl (any_of HT_.out (by kernel_rfl)) (fun _ _ _ h => h) (Or.inl ⟨by rfl, ?_⟩) ?_ ?_
                            rotate_left
                            · intro w'
                              go_simp
                              with_reducible rfl
                            rotate_left
                            · simp only [Act.put, List.setIfInBounds_toArray, List.set_cons_zero, List.set_cons_succ, i64_w, i32_w]
                              rfl
                            refine done_ (done_of HT_.out (by kernel_rfl)) ?_
                            try go_wp2
                            go_ret
                            exact ⟨by first | rfl | (simp [errW_none, errW_some] <;> rfl) | (simp only [← hji22]; first | rfl | (simp [errW_none, errW_some] <;> rfl)) | (simp [*, errW_none, errW_some] <;> rfl), by repeat (first | (with_reducible first | exact HB.out | apply below_alloc | apply pw_below_drewN | apply below_drew1 | refine below_set ?_ GE429.out) | exact HB.out)⟩
                        · replace c27 := Bool.eq_false_iff.mpr c27
                          subst c27
                          have H1 : (some false) = some r := by rw [if_neg (show ¬ (false = true) by decide)] at H; exact H
                          clear H
                          have H := H1
                          clear H1
                          obtain rfl := Option.some.inj H
                          have q78 : ((wrap64 ((ji22) + (Int.tmod (wrap64 (a0_2)) (wrap64 ((wrap64 ((l0_0.length : Int) - (ji22))) + 1))))) : Int) ≤ ((l0_0.length : Int) : Int) := of_decide_eq_true (by first | (with_reducible assumption) | assumption)
                          obtain ⟨i078, hi078, _, hsz78, _⟩ := info_parts info78
                          have hroom78 : l0_0.length ≤ c0_0 := HC0_0.out
                          have hC78 : Kd.C k78 _ A0_0 l0_0.length l0_0 := HR0_0.out
                          have ql78 : ((ji22) : Int) ≤ ((wrap64 ((ji22) + (Int.tmod (wrap64 (a0_2)) (wrap64 ((wrap64 ((l0_0.length : Int) - (ji22))) + 1))))) : Int) := of_decide_eq_true (by first | (with_reducible assumption) | assumption)
                          have q078 : (0 : Int) ≤ ((ji22) : Int) := of_decide_eq_true (by first | (with_reducible assumption) | assumption)
                          have hcut78 := cut_mid (P := Try.prog) 54 78 .i64 .i64 Try.underlying54 hi078 2 hsz78 A0_0 l0_0.length c0_0 (ji22) (wrap64 ((ji22) + (Int.tmod (wrap64 (a0_2)) (wrap64 ((wrap64 ((l0_0.length : Int) - (ji22))) + 1))))) q078 ql78 q78 hroom78
                          have hr78 := Kd.C_mid (lo := ((ji22) : Int).toNat) (hi := ((wrap64 ((ji22) + (Int.tmod (wrap64 (a0_2)) (wrap64 ((wrap64 ((l0_0.length : Int) - (ji22))) + 1))))) : Int).toNat) (c := c0_0) hC78 (by omega) (by omega) hroom78
                          obtain ⟨A78, hA78⟩ : ∃ A1, A1 = (if c0_0 = ((ji22) : Int).toNat then A0_0 else (A0_0 : Option Addr).map (·.add (((ji22) : Int).toNat * 2))) := ⟨_, rfl⟩
                          obtain ⟨c78, hc78⟩ : ∃ c1, c1 = c0_0 - ((ji22) : Int).toNat := ⟨_, rfl⟩
                          have hy78 : y438.length = ((wrap64 ((ji22) + (Int.tmod (wrap64 (a0_2)) (wrap64 ((wrap64 ((l0_0.length : Int) - (ji22))) + 1))))) : Int).toNat - ((ji22) : Int).toNat := (by rw [Ny438.out, List.length_drop, List.length_take] <;> omega)
                          rw [show ((l0_0).take ((wrap64 ((ji22) + (Int.tmod (wrap64 (a0_2)) (wrap64 ((wrap64 ((l0_0.length : Int) - (ji22))) + 1))))) : Int).toNat).drop ((ji22) : Int).toNat = y438 from Ny438.out.symm] at hr78
                          replace hr78 : Kd.C k78 _ A78 y438.length y438 := (by rw [hA78]; exact hr78)
                          rw [← hy78, ← hA78, ← hc78] at hcut78
                          have HR441 := Aside0.mk hr78
                          have HC441 := Aside0.mk (show y438.length ≤ c78 from by rw [hy78, hc78]; exact Nat.sub_le_sub_right (Nat.le_trans (by omega) hroom78) _)
                          clear hr78 hC78 hroom78 hi078 hsz78 hc78
                          have KY78 := Aside0.mk hy78
                          have KA78 := Aside0.mk hA78
                          clear hy78 hA78
                          replace q78 := eq_true q78
                          obtain ⟨Ao79, co79, eo79⟩ := Kd.R_slice HO_10.out
                          subst eo79
                          try go_wp2_with (first | ((with_reducible refine gate_callee (f := 41) rfl ?_); refine goesL_ (some 77) rfl rfl Try.func41 (by kernel_rfl) rfl #[.slice Ao79 t431.length co79, .int .i64 (ji22), .int .i64 (l0_3.length : Int), .slice A78 y438.length c78] rfl (by (try simp only [List.map_toArray, List.map_cons, List.map_nil]); first | done | (simp only [hji22]; rfl) | rfl | (simp only [List.length_drop, List.length_take]; rfl)) ?_; (with_reducible refine (node_With.calls (fun k_ => some k_ = (.slice Ao79 t431.length co79 : Value).ownBlock) _ _ t431 (ji22) (l0_3.length : Int) (fun k_ => k_ < w.heap.size) _ _ y438 t442 _ ?side1 ?side2 A26.out).mono ?_); (case side1 => exact Kd.R_V (Kd.R_tight rfl (Kd.R_types (HO_10.out) BK429.out (by decide)))); (case side2 => exact Kd.V_mk HC441.out (Kd.F_below (Kd.C_F k78_heap HR441.out) (by repeat (first | (with_reducible first | exact HB.out | apply below_alloc | apply pw_below_drewN | apply below_drew1 | refine below_set ?_ GE429.out) | exact HB.out)))); rintro e w80 ⟨v443, rfl, ho0, hb⟩; refine ⟨_, rfl, ?_⟩; have n0 := Aside0.mk (Kd.R_elder' (by (with_reducible repeat (first | apply Kd.R_alloc | apply Kd.R_drewN | apply Kd.R_drew)); exact HO_10.out) (Kd.R_base ho0) hb); have n1 := Aside0.mk (Kd.R_lower (Kd.R_new' (Kd.R_mono (ok' := fun k_ => True) ho0 (fun _ hk_ => trivial)) (Kd.R_lt (by (with_reducible repeat (first | apply Kd.R_alloc | apply Kd.R_drewN | apply Kd.R_drew)); exact HO_10.out))) (below_size (by repeat (first | (with_reducible first | exact HB.out | apply below_alloc | apply pw_below_drewN | apply below_drew1 | refine below_set ?_ GE429.out) | exact HB.out)))); have n2 := Aside0.mk (blk_below (g := gb429) (o := .cells #[.slice A0_0 l0_0.length c0_0, .int .u8 a0_1, .int .u8 a0_2, .slice A0_3 l0_3.length c0_3] 81 (0, 0)) (by (with_reducible repeat (first | refine blk_drewN ?_ _ | refine blk_drew ?_ | refine blk_alloc ?_ _)); exact BK429.out) hb); have n3 := Aside0.mk (below_step (by repeat (first | (with_reducible first | exact HB.out | apply below_alloc | apply pw_below_drewN | apply below_drew1 | refine below_set ?_ GE429.out) | exact HB.out)) hb); clear HO_10; clear BK429; clear HB; have HO_10 := n0; have HO444 := n1; have BK429 := n2; have HB := n3; clear n0 n1 n2 n3; (try clear hb); (try clear hb2); (try clear hk); (try clear hi); (try clear ho0)))
                          have n0 := Aside0.mk (Kd.R_drew HO_10.out)
                          have n1 := Aside0.mk (Kd.R_drew HO444.out)
                          have n2 := Aside0.mk (blk_drew BK429.out)
                          have n3 := Aside0.mk (below_drew1 HB.out)
                          clear HO_10
                          clear HO444
                          clear BK429
                          clear HB
                          have HO_10 := n0
                          have HO444 := n1
                          have BK429 := n2
                          have HB := n3
                          clear n0 n1 n2 n3
                          refine start_ (n := 41) (S := fun w' => True) (ds := []) #[false, false, false, false, false, false, false, false, false, false, false, false, false, false, false, false, false, false, false, false, false, false, false, false, false, false, false, false, false, false, false, false, false, false, false, false, false, false, false, false, false] (by kernel_rfl) rfl rfl trivial (fun hHeld => ?_); refine with_tabW assartlaw04_NodeWith.tab14 assartlaw04_NodeWith.bits14 (fun HT_ HW_ => ?_)
                          generalize w80.drew = w81 at HO_10 HO444 BK429 HB hHeld ⊢
                          refine pure_ (i := 0) (N := some 78) (v := ?_) (a' := ?_) #[true, false, false, false, false, false, false, false, false, false, false, false, false, false, false, false, false, false, false, false, false, false, false, false, false, false, false, false, false, false, false, false, false, false, false, false, false, false, false, false, false] rfl rfl (any_of HT_.out (by kernel_rfl)) (fun _ _ _ h => h) (Or.inl ⟨by rfl, ?_⟩) ?_ ?_
                          rotate_left
                          · intro w'
                            go_simp
                            with_reducible rfl
                          rotate_left
                          · simp only [Act.put, List.setIfInBounds_toArray, List.set_cons_zero, List.set_cons_succ, i64_w, i32_w]
                            rfl
                          refine pure_ (i := 1) (N := some 79) (v := ?_) (a' := ?_) #[true, true, false, false, false, false, false, false, false, false, false, false, false, false, false, false, false, false, false, false, false, false, false, false, false, false, false, false, false, false, false, false, false, false, false, false, false, false, false, false, false] rfl rfl (any_of HT_.out (by kernel_rfl)) (fun _ _ _ h => h) (Or.inl ⟨by rfl, ?_⟩) ?_ ?_
                          rotate_left
                          · intro w'
                            go_simp
                            with_reducible rfl
                          rotate_left
                          · simp only [Act.put, List.setIfInBounds_toArray, List.set_cons_zero, List.set_cons_succ, i64_w, i32_w]
                            rfl
                          refine pure_ (i := 2) (N := some 80) (v := undef) (a' := ?_) #[true, true, true, false, false, false, false, false, false, false, false, false, false, false, false, false, false, false, false, false, false, false, false, false, false, false, false, false, false, false, false, false, false, false, false, false, false, false, false, false, false] rfl rfl (any_of HT_.out (by kernel_rfl)) (fun _ _ _ h => h) (Or.inr ⟨by rfl, rfl⟩) ?_ ?_
                          rotate_left
                          · simp only [Act.put, List.setIfInBounds_toArray, List.set_cons_zero, List.set_cons_succ, i64_w, i32_w]
                            rfl
                          refine pure_ (i := 3) (N := some 81) (v := undef) (a' := ?_) #[true, true, true, true, false, false, false, false, false, false, false, false, false, false, false, false, false, false, false, false, false, false, false, false, false, false, false, false, false, false, false, false, false, false, false, false, false, false, false, false, false] rfl rfl (any_of HT_.out (by kernel_rfl)) (fun _ _ _ h => h) (Or.inr ⟨by rfl, rfl⟩) ?_ ?_
                          rotate_left
                          · simp only [Act.put, List.setIfInBounds_toArray, List.set_cons_zero, List.set_cons_succ, i64_w, i32_w]
                            rfl
                          refine pure_ (i := 4) (N := some 82) (v := undef) (a' := ?_) #[true, true, true, true, true, false, false, false, false, false, false, false, false, false, false, false, false, false, false, false, false, false, false, false, false, false, false, false, false, false, false, false, false, false, false, false, false, false, false, false, false] rfl rfl (any_of HT_.out (by kernel_rfl)) (fun _ _ _ h => h) (Or.inr ⟨by rfl, rfl⟩) ?_ ?_
                          rotate_left
                          · simp only [Act.put, List.setIfInBounds_toArray, List.set_cons_zero, List.set_cons_succ, i64_w, i32_w]
                            rfl
                          refine pure_ (i := 5) (N := some 83) (v := ?_) (a' := ?_) #[true, true, true, true, true, true, false, false, false, false, false, false, false, false, false, false, false, false, false, false, false, false, false, false, false, false, false, false, false, false, false, false, false, false, false, false, false, false, false, false, false] rfl rfl (any_of HT_.out (by kernel_rfl)) (fun _ _ _ h => h) (Or.inl ⟨by rfl, ?_⟩) ?_ ?_
                          rotate_left
                          · intro w'
                            go_simp
                            with_reducible rfl
                          rotate_left
                          · simp only [Act.put, List.setIfInBounds_toArray, List.set_cons_zero, List.set_cons_succ, i64_w, i32_w]
                            rfl
                          refine pure_ (i := 6) (N := some 84) (v := ?_) (a' := ?_) #[true, true, true, true, true, true, true, false, false, false, false, false, false, false, false, false, false, false, false, false, false, false, false, false, false, false, false, false, false, false, false, false, false, false, false, false, false, false, false, false, false] rfl rfl (any_of HT_.out (by kernel_rfl)) (fun _ _ _ h => h) (Or.inl ⟨by rfl, ?_⟩) ?_ ?_
                          rotate_left
                          · intro w'
                            go_simp
                            with_reducible rfl
                          rotate_left
                          · simp only [Act.put, List.setIfInBounds_toArray, List.set_cons_zero, List.set_cons_succ, i64_w, i32_w]
                            rfl
                          refine pure_ (i := 7) (N := some 85) (v := undef) (a' := ?_) #[true, true, true, true, true, true, true, true, false, false, false, false, false, false, false, false, false, false, false, false, false, false, false, false, false, false, false, false, false, false, false, false, false, false, false, false, false, false, false, false, false] rfl rfl (any_of HT_.out (by kernel_rfl)) (fun _ _ _ h => h) (Or.inr ⟨by rfl, rfl⟩) ?_ ?_
                          rotate_left
                          · simp only [Act.put, List.setIfInBounds_toArray, List.set_cons_zero, List.set_cons_succ, i64_w, i32_w]
                            rfl
                          refine pure_ (i := 8) (N := some 86) (v := undef) (a' := ?_) #[true, true, true, true, true, true, true, true, true, false, false, false, false, false, false, false, false, false, false, false, false, false, false, false, false, false, false, false, false, false, false, false, false, false, false, false, false, false, false, false, false] rfl rfl (any_of HT_.out (by kernel_rfl)) (fun _ _ _ h => h) (Or.inr ⟨by rfl, rfl⟩) ?_ ?_
                          rotate_left
                          · simp only [Act.put, List.setIfInBounds_toArray, List.set_cons_zero, List.set_cons_succ, i64_w, i32_w]
                            rfl
                          refine pure_ (i := 9) (N := some 87) (v := undef) (a' := ?_) #[true, true, true, true, true, true, true, true, true, true, false, false, false, false, false, false, false, false, false, false, false, false, false, false, false, false, false, false, false, false, false, false, false, false, false, false, false, false, false, false, false] rfl rfl (any_of HT_.out (by kernel_rfl)) (fun _ _ _ h => h) (Or.inr ⟨by rfl, rfl⟩) ?_ ?_
                          rotate_left
                          · simp only [Act.put, List.setIfInBounds_toArray, List.set_cons_zero, List.set_cons_succ, i64_w, i32_w]
                            rfl
                          refine pure_ (i := 10) (N := some 88) (v := undef) (a' := ?_) #[true, true, true, true, true, true, true, true, true, true, true, false, false, false, false, false, false, false, false, false, false, false, false, false, false, false, false, false, false, false, false, false, false, false, false, false, false, false, false, false, false] rfl rfl (any_of HT_.out (by kernel_rfl)) (fun _ _ _ h => h) (Or.inr ⟨by rfl, rfl⟩) ?_ ?_
                          rotate_left
                          · simp only [Act.put, List.setIfInBounds_toArray, List.set_cons_zero, List.set_cons_succ, i64_w, i32_w]
                            rfl
                          refine pure_ (i := 11) (N := some 89) (v := undef) (a' := ?_) #[true, true, true, true, true, true, true, true, true, true, true, true, false, false, false, false, false, false, false, false, false, false, false, false, false, false, false, false, false, false, false, false, false, false, false, false, false, false, false, false, false] rfl rfl (any_of HT_.out (by kernel_rfl)) (fun _ _ _ h => h) (Or.inr ⟨by rfl, rfl⟩) ?_ ?_
                          rotate_left
                          · simp only [Act.put, List.setIfInBounds_toArray, List.set_cons_zero, List.set_cons_succ, i64_w, i32_w]
                            rfl
                          refine pure_ (i := 12) (N := some 90) (v := undef) (a' := ?_) #[true, true, true, true, true, true, true, true, true, true, true, true, true, false, false, false, false, false, false, false, false, false, false, false, false, false, false, false, false, false, false, false, false, false, false, false, false, false, false, false, false] rfl rfl (any_of HT_.out (by kernel_rfl)) (fun _ _ _ h => h) (Or.inr ⟨by rfl, rfl⟩) ?_ ?_
                          rotate_left
                          · simp only [Act.put, List.setIfInBounds_toArray, List.set_cons_zero, List.set_cons_succ, i64_w, i32_w]
                            rfl
                          refine pure_ (i := 13) (N := some 91) (v := undef) (a' := ?_) #[true, true, true, true, true, true, true, true, true, true, true, true, true, true, false, false, false, false, false, false, false, false, false, false, false, false, false, false, false, false, false, false, false, false, false, false, false, false, false, false, false] rfl rfl (any_of HT_.out (by kernel_rfl)) (fun _ _ _ h => h) (Or.inr ⟨by rfl, rfl⟩) ?_ ?_
                          rotate_left
                          · simp only [Act.put, List.setIfInBounds_toArray, List.set_cons_zero, List.set_cons_succ, i64_w, i32_w]
                            rfl
                          refine pure_ (i := 14) (N := some 92) (v := ?_) (a' := ?_) #[true, true, true, true, true, true, true, true, true, true, true, true, true, true, true, false, false, false, false, false, false, false, false, false, false, false, false, false, false, false, false, false, false, false, false, false, false, false, false, false, false] rfl rfl (any_of HT_.out (by kernel_rfl)) (fun _ _ _ h => h) (Or.inl ⟨by rfl, ?_⟩) ?_ ?_
                          rotate_left
                          · intro w'
                            go_simp
                            with_reducible rfl
                          rotate_left
                          · simp only [Act.put, List.setIfInBounds_toArray, List.set_cons_zero, List.set_cons_succ, i64_w, i32_w]
                            rfl
                          refine pure_ (i := 15) (N := some 93) (v := ?_) (a' := ?_) #[true, true, true, true, true, true, true, true, true, true, true, true, true, true, true, true, false, false, false, false, false, false, false, false, false, false, false, false, false, false, false, false, false, false, false, false, false, false, false, false, false] rfl rfl (any_of HT_.out (by kernel_rfl)) (fun _ _ _ h => h) (Or.inl ⟨by rfl, ?_⟩) ?_ ?_
                          rotate_left
                          · intro w'
                            go_simp
                            with_reducible rfl
                          rotate_left
                          · simp only [Act.put, List.setIfInBounds_toArray, List.set_cons_zero, List.set_cons_succ, i64_w, i32_w]
                            rfl
                          refine pure_ (i := 16) (N := some 94) (v := undef) (a' := ?_) #[true, true, true, true, true, true, true, true, true, true, true, true, true, true, true, true, true, false, false, false, false, false, false, false, false, false, false, false, false, false, false, false, false, false, false, false, false, false, false, false, false] rfl rfl (any_of HT_.out (by kernel_rfl)) (fun _ _ _ h => h) (Or.inr ⟨by rfl, rfl⟩) ?_ ?_
                          rotate_left
                          · simp only [Act.put, List.setIfInBounds_toArray, List.set_cons_zero, List.set_cons_succ, i64_w, i32_w]
                            rfl
                          refine pure_ (i := 17) (N := some 95) (v := undef) (a' := ?_) #[true, true, true, true, true, true, true, true, true, true, true, true, true, true, true, true, true, true, false, false, false, false, false, false, false, false, false, false, false, false, false, false, false, false, false, false, false, false, false, false, false] rfl rfl (any_of HT_.out (by kernel_rfl)) (fun _ _ _ h => h) (Or.inr ⟨by rfl, rfl⟩) ?_ ?_
                          rotate_left
                          · simp only [Act.put, List.setIfInBounds_toArray, List.set_cons_zero, List.set_cons_succ, i64_w, i32_w]
                            rfl
                          refine pure_ (i := 18) (N := some 96) (v := undef) (a' := ?_) #[true, true, true, true, true, true, true, true, true, true, true, true, true, true, true, true, true, true, true, false, false, false, false, false, false, false, false, false, false, false, false, false, false, false, false, false, false, false, false, false, false] rfl rfl (any_of HT_.out (by kernel_rfl)) (fun _ _ _ h => h) (Or.inr ⟨by rfl, rfl⟩) ?_ ?_
                          rotate_left
                          · simp only [Act.put, List.setIfInBounds_toArray, List.set_cons_zero, List.set_cons_succ, i64_w, i32_w]
                            rfl
                          refine pure_ (i := 19) (N := some 97) (v := undef) (a' := ?_) #[true, true, true, true, true, true, true, true, true, true, true, true, true, true, true, true, true, true, true, true, false, false, false, false, false, false, false, false, false, false, false, false, false, false, false, false, false, false, false, false, false] rfl rfl (any_of HT_.out (by kernel_rfl)) (fun _ _ _ h => h) (Or.inr ⟨by rfl, rfl⟩) ?_ ?_
                          rotate_left
                          · simp only [Act.put, List.setIfInBounds_toArray, List.set_cons_zero, List.set_cons_succ, i64_w, i32_w]
                            rfl
                          refine pure_ (i := 20) (N := some 98) (v := undef) (a' := ?_) #[true, true, true, true, true, true, true, true, true, true, true, true, true, true, true, true, true, true, true, true, true, false, false, false, false, false, false, false, false, false, false, false, false, false, false, false, false, false, false, false, false] rfl rfl (any_of HT_.out (by kernel_rfl)) (fun _ _ _ h => h) (Or.inr ⟨by rfl, rfl⟩) ?_ ?_
                          rotate_left
                          · simp only [Act.put, List.setIfInBounds_toArray, List.set_cons_zero, List.set_cons_succ, i64_w, i32_w]
                            rfl
                          refine pure_ (i := 21) (N := some 99) (v := undef) (a' := ?_) #[true, true, true, true, true, true, true, true, true, true, true, true, true, true, true, true, true, true, true, true, true, true, false, false, false, false, false, false, false, false, false, false, false, false, false, false, false, false, false, false, false] rfl rfl (any_of HT_.out (by kernel_rfl)) (fun _ _ _ h => h) (Or.inr ⟨by rfl, rfl⟩) ?_ ?_
                          rotate_left
                          · simp only [Act.put, List.setIfInBounds_toArray, List.set_cons_zero, List.set_cons_succ, i64_w, i32_w]
                            rfl
                          refine pure_ (i := 22) (N := some 100) (v := undef) (a' := ?_) #[true, true, true, true, true, true, true, true, true, true, true, true, true, true, true, true, true, true, true, true, true, true, true, false, false, false, false, false, false, false, false, false, false, false, false, false, false, false, false, false, false] rfl rfl (any_of HT_.out (by kernel_rfl)) (fun _ _ _ h => h) (Or.inr ⟨by rfl, rfl⟩) ?_ ?_
                          rotate_left
                          · simp only [Act.put, List.setIfInBounds_toArray, List.set_cons_zero, List.set_cons_succ, i64_w, i32_w]
                            rfl
                          refine pure_ (i := 23) (N := some 101) (v := undef) (a' := ?_) #[true, true, true, true, true, true, true, true, true, true, true, true, true, true, true, true, true, true, true, true, true, true, true, true, false, false, false, false, false, false, false, false, false, false, false, false, false, false, false, false, false] rfl rfl (any_of HT_.out (by kernel_rfl)) (fun _ _ _ h => h) (Or.inr ⟨by rfl, rfl⟩) ?_ ?_
                          rotate_left
                          · simp only [Act.put, List.setIfInBounds_toArray, List.set_cons_zero, List.set_cons_succ, i64_w, i32_w]
                            rfl
                          refine pure_ (i := 24) (N := some 102) (v := undef) (a' := ?_) #[true, true, true, true, true, true, true, true, true, true, true, true, true, true, true, true, true, true, true, true, true, true, true, true, true, false, false, false, false, false, false, false, false, false, false, false, false, false, false, false, false] rfl rfl (any_of HT_.out (by kernel_rfl)) (fun _ _ _ h => h) (Or.inr ⟨by rfl, rfl⟩) ?_ ?_
                          rotate_left
                          · simp only [Act.put, List.setIfInBounds_toArray, List.set_cons_zero, List.set_cons_succ, i64_w, i32_w]
                            rfl
                          refine pure_ (i := 25) (N := some 103) (v := ?_) (a' := ?_) #[true, true, true, true, true, true, true, true, true, true, true, true, true, true, true, true, true, true, true, true, true, true, true, true, true, true, false, false, false, false, false, false, false, false, false, false, false, false, false, false, false] rfl rfl (any_of HT_.out (by kernel_rfl)) (fun _ _ _ h => h) (Or.inl ⟨by rfl, ?_⟩) ?_ ?_
                          rotate_left
                          · intro w'
                            go_simp
                            with_reducible rfl
                          rotate_left
                          · simp only [Act.put, List.setIfInBounds_toArray, List.set_cons_zero, List.set_cons_succ, i64_w, i32_w]
                            rfl
                          refine pure_ (i := 26) (N := some 104) (v := ?_) (a' := ?_) #[true, true, true, true, true, true, true, true, true, true, true, true, true, true, true, true, true, true, true, true, true, true, true, true, true, true, true, false, false, false, false, false, false, false, false, false, false, false, false, false, false] rfl rfl (any_of HT_.out (by kernel_rfl)) (fun _ _ _ h => h) (Or.inl ⟨by rfl, ?_⟩) ?_ ?_
                          rotate_left
                          · intro w'
                            go_simp
                            with_reducible rfl
                          rotate_left
                          · simp only [Act.put, List.setIfInBounds_toArray, List.set_cons_zero, List.set_cons_succ, i64_w, i32_w]
                            rfl
                          refine pure_ (i := 27) (N := some 105) (v := undef) (a' := ?_) #[true, true, true, true, true, true, true, true, true, true, true, true, true, true, true, true, true, true, true, true, true, true, true, true, true, true, true, true, false, false, false, false, false, false, false, false, false, false, false, false, false] rfl rfl (any_of HT_.out (by kernel_rfl)) (fun _ _ _ h => h) (Or.inr ⟨by rfl, rfl⟩) ?_ ?_
                          rotate_left
                          · simp only [Act.put, List.setIfInBounds_toArray, List.set_cons_zero, List.set_cons_succ, i64_w, i32_w]
                            rfl
                          refine pure_ (i := 28) (N := some 106) (v := undef) (a' := ?_) #[true, true, true, true, true, true, true, true, true, true, true, true, true, true, true, true, true, true, true, true, true, true, true, true, true, true, true, true, true, false, false, false, false, false, false, false, false, false, false, false, false] rfl rfl (any_of HT_.out (by kernel_rfl)) (fun _ _ _ h => h) (Or.inr ⟨by rfl, rfl⟩) ?_ ?_
                          rotate_left
                          · simp only [Act.put, List.setIfInBounds_toArray, List.set_cons_zero, List.set_cons_succ, i64_w, i32_w]
                            rfl
                          refine pure_ (i := 29) (N := some 107) (v := undef) (a' := ?_) #[true, true, true, true, true, true, true, true, true, true, true, true, true, true, true, true, true, true, true, true, true, true, true, true, true, true, true, true, true, true, false, false, false, false, false, false, false, false, false, false, false] rfl rfl (any_of HT_.out (by kernel_rfl)) (fun _ _ _ h => h) (Or.inr ⟨by rfl, rfl⟩) ?_ ?_
                          rotate_left
                          · simp only [Act.put, List.setIfInBounds_toArray, List.set_cons_zero, List.set_cons_succ, i64_w, i32_w]
                            rfl
                          refine pure_ (i := 30) (N := some 108) (v := undef) (a' := ?_) #[true, true, true, true, true, true, true, true, true, true, true, true, true, true, true, true, true, true, true, true, true, true, true, true, true, true, true, true, true, true, true, false, false, false, false, false, false, false, false, false, false] rfl rfl (any_of HT_.out (by kernel_rfl)) (fun _ _ _ h => h) (Or.inr ⟨by rfl, rfl⟩) ?_ ?_
                          rotate_left
                          · simp only [Act.put, List.setIfInBounds_toArray, List.set_cons_zero, List.set_cons_succ, i64_w, i32_w]
                            rfl
                          refine pure_ (i := 31) (N := some 109) (v := undef) (a' := ?_) #[true, true, true, true, true, true, true, true, true, true, true, true, true, true, true, true, true, true, true, true, true, true, true, true, true, true, true, true, true, true, true, true, false, false, false, false, false, false, false, false, false] rfl rfl (any_of HT_.out (by kernel_rfl)) (fun _ _ _ h => h) (Or.inr ⟨by rfl, rfl⟩) ?_ ?_
                          rotate_left
                          · simp only [Act.put, List.setIfInBounds_toArray, List.set_cons_zero, List.set_cons_succ, i64_w, i32_w]
                            rfl
                          refine pure_ (i := 32) (N := some 110) (v := undef) (a' := ?_) #[true, true, true, true, true, true, true, true, true, true, true, true, true, true, true, true, true, true, true, true, true, true, true, true, true, true, true, true, true, true, true, true, true, false, false, false, false, false, false, false, false] rfl rfl (any_of HT_.out (by kernel_rfl)) (fun _ _ _ h => h) (Or.inr ⟨by rfl, rfl⟩) ?_ ?_
                          rotate_left
                          · simp only [Act.put, List.setIfInBounds_toArray, List.set_cons_zero, List.set_cons_succ, i64_w, i32_w]
                            rfl
                          refine pure_ (i := 33) (N := some 111) (v := undef) (a' := ?_) #[true, true, true, true, true, true, true, true, true, true, true, true, true, true, true, true, true, true, true, true, true, true, true, true, true, true, true, true, true, true, true, true, true, true, false, false, false, false, false, false, false] rfl rfl (any_of HT_.out (by kernel_rfl)) (fun _ _ _ h => h) (Or.inr ⟨by rfl, rfl⟩) ?_ ?_
                          rotate_left
                          · simp only [Act.put, List.setIfInBounds_toArray, List.set_cons_zero, List.set_cons_succ, i64_w, i32_w]
                            rfl
                          refine pure_ (i := 34) (N := some 112) (v := undef) (a' := ?_) #[true, true, true, true, true, true, true, true, true, true, true, true, true, true, true, true, true, true, true, true, true, true, true, true, true, true, true, true, true, true, true, true, true, true, true, false, false, false, false, false, false] rfl rfl (any_of HT_.out (by kernel_rfl)) (fun _ _ _ h => h) (Or.inr ⟨by rfl, rfl⟩) ?_ ?_
                          rotate_left
                          · simp only [Act.put, List.setIfInBounds_toArray, List.set_cons_zero, List.set_cons_succ, i64_w, i32_w]
                            rfl
                          refine pure_ (i := 35) (N := some 113) (v := undef) (a' := ?_) #[true, true, true, true, true, true, true, true, true, true, true, true, true, true, true, true, true, true, true, true, true, true, true, true, true, true, true, true, true, true, true, true, true, true, true, true, false, false, false, false, false] rfl rfl (any_of HT_.out (by kernel_rfl)) (fun _ _ _ h => h) (Or.inr ⟨by rfl, rfl⟩) ?_ ?_
                          rotate_left
                          · simp only [Act.put, List.setIfInBounds_toArray, List.set_cons_zero, List.set_cons_succ, i64_w, i32_w]
                            rfl
                          refine pure_ (i := 36) (N := some 114) (v := undef) (a' := ?_) #[true, true, true, true, true, true, true, true, true, true, true, true, true, true, true, true, true, true, true, true, true, true, true, true, true, true, true, true, true, true, true, true, true, true, true, true, true, false, false, false, false] rfl rfl (any_of HT_.out (by kernel_rfl)) (fun _ _ _ h => h) (Or.inr ⟨by rfl, rfl⟩) ?_ ?_
                          rotate_left
                          · simp only [Act.put, List.setIfInBounds_toArray, List.set_cons_zero, List.set_cons_succ, i64_w, i32_w]
                            rfl
                          refine pure_ (i := 37) (N := some 115) (v := undef) (a' := ?_) #[true, true, true, true, true, true, true, true, true, true, true, true, true, true, true, true, true, true, true, true, true, true, true, true, true, true, true, true, true, true, true, true, true, true, true, true, true, true, false, false, false] rfl rfl (any_of HT_.out (by kernel_rfl)) (fun _ _ _ h => h) (Or.inr ⟨by rfl, rfl⟩) ?_ ?_
                          rotate_left
                          · simp only [Act.put, List.setIfInBounds_toArray, List.set_cons_zero, List.set_cons_succ, i64_w, i32_w]
                            rfl
                          refine pure_ (i := 38) (N := some 116) (v := undef) (a' := ?_) #[true, true, true, true, true, true, true, true, true, true, true, true, true, true, true, true, true, true, true, true, true, true, true, true, true, true, true, true, true, true, true, true, true, true, true, true, true, true, true, false, false] rfl rfl (any_of HT_.out (by kernel_rfl)) (fun _ _ _ h => h) (Or.inr ⟨by rfl, rfl⟩) ?_ ?_
                          rotate_left
                          · simp only [Act.put, List.setIfInBounds_toArray, List.set_cons_zero, List.set_cons_succ, i64_w, i32_w]
                            rfl
                          refine pure_ (i := 39) (N := some 117) (v := ?_) (a' := ?_) #[true, true, true, true, true, true, true, true, true, true, true, true, true, true, true, true, true, true, true, true, true, true, true, true, true, true, true, true, true, true, true, true, true, true, true, true, true, true, true, true, false] rfl rfl (any_of HT_.out (by kernel_rfl)) (fun _ _ _ h => h) (Or.inl ⟨by rfl, ?_⟩) ?_ ?_
                          rotate_left
                          · intro w'
                            go_simp
                            with_reducible rfl
                          rotate_left
                          · simp only [Act.put, List.setIfInBounds_toArray, List.set_cons_zero, List.set_cons_succ, i64_w, i32_w]
                            rfl
                          refine pure_ (i := 40) (N := some 2) (v := ?_) (a' := ?_) #[true, true, true, true, true, true, true, true, true, true, true, true, true, true, true, true, true, true, true, true, true, true, true, true, true, true, true, true, true, true, true, true, true, true, true, true, true, true, true, true, true] rfl rfl (any_of HT_.out (by kernel_rfl)) (fun _ _ _ h => h) (Or.inl ⟨by rfl, ?_⟩) ?_ ?_
                          rotate_left
                          · intro w'
                            go_simp
                            with_reducible rfl
                          rotate_left
                          · simp only [Act.put, List.setIfInBounds_toArray, List.set_cons_zero, List.set_cons_succ, i64_w, i32_w]
                            rfl
                          refine done_ (done_of HT_.out (by kernel_rfl)) ?_
                          try go_wp2
                          go_ret
                          exact ⟨by first | rfl | (simp [errW_none, errW_some] <;> rfl) | (simp only [← hji22]; first | rfl | (simp [errW_none, errW_some] <;> rfl)) | (simp [*, errW_none, errW_some] <;> rfl), by repeat (first | (with_reducible first | exact HB.out | apply below_alloc | apply pw_below_drewN | apply below_drew1 | refine below_set ?_ GE429.out) | exact HB.out)⟩
                      · rw [if_neg c25] at H
                        exact absurd H (by simp)
                    · rw [if_neg c24] at H
                      exact absurd H (by simp)
                  · rw [if_neg c23] at H
                    exact absurd H (by simp)

end Go.Proofs.Ythjnkapkhphpeaa.P
end
