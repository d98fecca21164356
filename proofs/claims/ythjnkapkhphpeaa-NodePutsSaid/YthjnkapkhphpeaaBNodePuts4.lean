/- Texts of this claim's proof put together: F39, F42, PNode1, PureNodePuts, LawNodePuts. -/
import Derived.Test.YthjnkapkhphpeaaBNodePuts0
import Derived.Test.YthjnkapkhphpeaaBNodePuts1
import Derived.Test.YthjnkapkhphpeaaBNodePuts3
import Derived.Test.YthjnkapkhphpeaaRows
import Derived.WalkKit
import Derived.ProofKit
import Derived.OpenShut
import Derived.ShutString
import Derived.ChangeOld
import Derived.Below
import Derived.SizedLaws
section
namespace Go.Proofs.Ythjnkapkhphpeaa.P
open Go.RowKit Go.Proofs.YthjnkapkhphpeaaW.PrintWords Go.Proofs.YthjnkapkhphpeaaW.PrintLast Go.Proofs.YthjnkapkhphpeaaW.PrintMore
attribute [local go_sem] max2_int min2_int max_two min_two max_three min_three max_four min_four
set_option linter.unusedVariables false
set_option linter.unusedSimpArgs false

/-! ### assartref04_Split: function 39 -/
def assartref04_Split.f : Nat → List (S78) → Option ((List (List (S78))))
  | 0, _ => none
  | k + 1, l0 => if (l0.length : Int) = 0 then (some ([] : List (List (S78)))) else (if (l0.length : Int) ≤ 4 then (some (([l0] : List (List (S78))))) else (if 3 ≤ (l0.length : Int) then ((some (([(l0.take 3)] : List (List (S78))) : List (List (S78)))).bind fun y321 => ((assartref04_Split.f k (l0.drop 3)).bind fun t329 => (if y321.length + t329.length < 5864062014805 then (some (y321 ++ t329)) else (none)))) else (none)))
theorem assartref04_Split.mono_l : ∀ k, (∀ y0, LeO (assartref04_Split.f k y0) (assartref04_Split.f (k + 1) y0))
  | 0 => fun _ r h => by simp [assartref04_Split.f] at h
  | k + 1 => by
    have ih0 := assartref04_Split.mono_l k
    · intro y0
      unfold assartref04_Split.f
      repeat' first
      | (with_reducible exact ih0 _)
      | (with_reducible exact LeO.refl _)
      | (with_reducible exact LeO.none _)
      | (with_reducible refine LeO.ite ?_ ?_)
      | (with_reducible refine LeO.bind ?_ (fun _ => ?_))
      | exact ih0 _
      | exact LeO.none _
      | refine LeO.ite ?_ ?_
      | refine LeO.bind ?_ (fun _ => ?_)
theorem assartref04_Split.mono : ∀ a0 k, LeO (assartref04_Split.f k a0) (assartref04_Split.f (k + 1) a0) := by
  intro a0 k
  have ih0 := assartref04_Split.mono_l k
  exact ih0 a0
def assartref04_Split.T5 : Bool × List (List Nat × List Nat) := (true, [([], []), ([0], [0]), ([1], [1]), ([], []), ([3], [3]), ([4], [4]), ([2, 5, 5], [2, 5]), ([6, 6, 0, 1, 2, 3, 4, 5, 6], [6])])
def assartref04_Split.B5 : List Nat := [0, 1, 3, 0, 8, 24, 63, 127]
theorem assartref04_Split.tab5 : rtab .any (opsOf Try.f39 5) = assartref04_Split.T5 := by kernel_rfl
theorem assartref04_Split.bits5 : waitsOk assartref04_Split.T5.2 assartref04_Split.B5 = true := by kernel_rfl
set_option maxHeartbeats 8000000 in
set_option maxRecDepth 100000 in
theorem assartref04_Split.calls (k : Nat) : ∀ (P0_ : Nat → Prop) (A0 : Option Addr) (c0 : Nat) (l0 : List (S78)) (r : List (List (S78))) (w : World) (hs0 : Kd.V k78 78 w w.heap.size (fun k_ => P0_ k_) (.slice A0 l0.length c0) l0) (h : assartref04_Split.f k l0 = some r),
    Calls Try.prog 39 #[.slice A0 l0.length c0] w fun e w' => ∃ v0_ : Value, e = .returned (v0_) ∧ Kd.N (Kd.slice 78 k78) 54 w' w.heap.size (fun k_ => (P0_ k_ ∨ w.heap.size ≤ k_)) v0_ r ∧ Below w.heap.size w w' := by
  induction k using Nat.strongRecOn with
  | _ k ih =>
  intro P0_ A0 c0 l0 r w hs0 h
  cases k with
  | zero => exact absurd h (by simp [assartref04_Split.f])
  | succ k =>
  simp only [assartref04_Split.f] at h
  have HO0 := Aside0.mk (show Kd.V k78 78 w w.heap.size (fun k_ => (P0_ k_ ∨ w.heap.size ≤ k_)) (.slice A0 l0.length c0) l0 from Kd.V_mono hs0 (fun k_ hk => .inl hk))
  have HB := Aside0.mk (Below.refl w.heap.size w)
  have H : (if (l0.length : Int) = 0 then (some ([] : List (List (S78)))) else (if (l0.length : Int) ≤ 4 then (some (([l0] : List (List (S78))))) else (if 3 ≤ (l0.length : Int) then ((some (([(l0.take 3)] : List (List (S78))) : List (List (S78)))).bind fun y321 => ((assartref04_Split.f k (l0.drop 3)).bind fun t329 => (if y321.length + t329.length < 5864062014805 then (some (y321 ++ t329)) else (none)))) else (none)))) = some r := h
  clear h
  by_cases c2 : (l0.length : Int) = 0
  · rw [if_pos c2] at H
    have c2b0 : ((l0.length : Int) == 0) = true := beq_iff_eq.mpr c2
    have c2b1 : ((l0.length : Int) != 0) = false := bne_eq_false_iff_eq.mpr c2
    clear c2
    obtain rfl := Option.some.inj H
    go_enter Try.func39, Try.ntmps39
    go_wp2
    go_ret
    exact ⟨_, by first | rfl | (simp [errW_none, errW_some] <;> rfl) | (simp [*, errW_none, errW_some] <;> rfl), by first | exact Kd.S_nil _ _ _ _ _ | exact Kd.N_nil _ _ _ _ _ | exact Kd.V_nil _ _ _ _ _ | exact Kd.Q_nil _ _ _ _ _ | exact Kd.R_nil _ _ _ _ _, by repeat (first | (with_reducible first | exact HB.out | apply below_alloc | apply pw_below_drewN | apply below_drew1) | exact HB.out)⟩
  · rw [if_neg c2] at H
    have c2b0 : ((l0.length : Int) == 0) = false := beq_eq_false_iff_ne.mpr c2
    have c2b1 : ((l0.length : Int) != 0) = true := bne_iff_ne.mpr c2
    have c2b2 : ¬ (l0 = []) := fun h_ => c2 (by rw [h_]; rfl)
    by_cases c3 : (l0.length : Int) ≤ 4
    · rw [if_pos c3] at H
      have c3b0 : decide ((l0.length : Int) ≤ 4) = true := decide_eq_true c3
      have c3b1 : decide (l0.length ≤ 4) = true := decide_eq_true (by omega)
      clear c3
      obtain ⟨y313, hy313⟩ : ∃ y_ : List (List (S78)), y_ = (([l0] : List (List (S78)))) := ⟨_, rfl⟩
      replace H : (some y313) = some r := by first | (rw [hy313]; with_reducible exact H) | (have H2_ := (Option.bind_some _ _).symm.trans H; rw [hy313]; with_reducible exact H2_) | (have H2_ := (Option.bind_some _ _).symm.trans H; with_reducible exact H2_) | with_reducible exact H | (rw [hy313]; exact H) | exact H
      have Ny313 := Aside0.mk hy313
      clear hy313
      obtain rfl := Option.some.inj H
      go_enter Try.func39, Try.ntmps39
      go_wp2_with (first | ((with_reducible refine gate_dst (N := 10) rfl ?_); refine Kd.N_lit (Kd.slice 78 k78) _ 54 ?hg (N' := 10) ?hd (xs := ([l0] : List (List (S78)))) (inner := [.slice A0 l0.length c0]) (ok := (fun k_ => (P0_ k_ ∨ w.heap.size ≤ k_))) (okp := (fun k_ => (P0_ k_ ∨ w.heap.size ≤ k_))) ?hr ?hp (fun _ hk => hk) ((show ∀ k_, w.heap.size ≤ k_ → (fun k_ => (P0_ k_ ∨ w.heap.size ≤ k_)) k_ from fun k_ hk => (.inr (Nat.le_trans (below_size (by repeat (first | (with_reducible first | exact HB.out | apply below_alloc | apply pw_below_drewN | apply below_drew1) | exact HB.out))) hk))) _ (Nat.le_refl _)) (Below.refl _ _) (Nat.le_refl _) (by simp) ?_; (case hd => rfl); (case hg => rfl); (case hr => first | (go_simp; done) | (go_simp; rfl)); (case hp => exact (Reps.one (show Kd.FK (Kd.slice 78 k78) _ _ l0 [.slice A0 l0.length c0] from (Kd.FK_slice_mk (Kd.V_reads' (Kd.V_mono (ok' := (fun k_ => (P0_ k_ ∨ w.heap.size ≤ k_))) (HO0.out) (fun k_ hk => hk))).2.1 (Kd.V_F (Kd.V_mono (ok' := (fun k_ => (P0_ k_ ∨ w.heap.size ≤ k_))) (HO0.out) (fun k_ hk => hk))))) (Reps.none _ _))); intro v314 w4 ho5 hb hg_ hnew_; clear hg_ hnew_; (first | rw [← Ny313.out] at ho5 | (simp only [Int.reduceToNat] at ho5; rw [← Ny313.out] at ho5)); have n0_ := Aside0.mk (Kd.V_elder' (by (with_reducible repeat (first | apply Kd.V_alloc | apply Kd.V_drewN | apply Kd.V_drew)); exact HO0.out) (Kd.N_base ho5) hb); have n1_ := Aside0.mk (Kd.N_lower ho5 (below_size (by repeat (first | (with_reducible first | exact HB.out | apply below_alloc | apply pw_below_drewN | apply below_drew1) | exact HB.out)))); have n2_ := Aside0.mk (below_step (by repeat (first | (with_reducible first | exact HB.out | apply below_alloc | apply pw_below_drewN | apply below_drew1) | exact HB.out)) hb); clear HO0; clear HB; have HO0 := n0_; have HO315 := n1_; have HB := n2_; clear n0_ n1_ n2_; clear hb ho5))
      go_ret
      exact ⟨_, by first | rfl | (simp [errW_none, errW_some] <;> rfl) | (simp [*, errW_none, errW_some] <;> rfl), by (with_reducible repeat (first | apply Kd.N_alloc | apply Kd.N_drewN | apply Kd.N_drew)); exact HO315.out, by repeat (first | (with_reducible first | exact HB.out | apply below_alloc | apply pw_below_drewN | apply below_drew1) | exact HB.out)⟩
    · rw [if_neg c3] at H
      have c3b0 : decide ((l0.length : Int) ≤ 4) = false := decide_eq_false c3
      have c3b1 : decide (l0.length ≤ 4) = false := decide_eq_false (by omega)
      clear c3
      by_cases c6 : 3 ≤ (l0.length : Int)
      · rw [if_pos c6] at H
        have c6b0 := eq_true c6
        have c6b1 : decide (3 ≤ (l0.length : Int)) = true := decide_eq_true c6
        clear c6
        obtain ⟨y316, hy316⟩ : ∃ y_ : List (S78), y_ = (l0.take 3) := ⟨_, rfl⟩
        replace H : ((some (([y316] : List (List (S78))) : List (List (S78)))).bind fun y321 => ((assartref04_Split.f k (l0.drop 3)).bind fun t329 => (if y321.length + t329.length < 5864062014805 then (some (y321 ++ t329)) else (none)))) = some r := by first | (rw [hy316]; with_reducible exact H) | (have H2_ := (Option.bind_some _ _).symm.trans H; rw [hy316]; with_reducible exact H2_) | (have H2_ := (Option.bind_some _ _).symm.trans H; with_reducible exact H2_) | with_reducible exact H | (rw [hy316]; exact H) | exact H
        have Ny316 := Aside0.mk hy316
        clear hy316
        obtain ⟨y321, hy321⟩ : ∃ y_ : List (List (S78)), y_ = (([y316] : List (List (S78)))) := ⟨_, rfl⟩
        replace H : ((assartref04_Split.f k (l0.drop 3)).bind fun t329 => (if y321.length + t329.length < 5864062014805 then (some (y321 ++ t329)) else (none))) = some r := by first | (rw [hy321]; with_reducible exact H) | (have H2_ := (Option.bind_some _ _).symm.trans H; rw [hy321]; with_reducible exact H2_) | (have H2_ := (Option.bind_some _ _).symm.trans H; with_reducible exact H2_) | with_reducible exact H | (rw [hy321]; exact H) | exact H
        have Ny321 := Aside0.mk hy321
        clear hy321
        have c7b0 := eq_true (of_decide_eq_true (by first | (with_reducible assumption) | assumption) : 3 ≤ (l0.length : Int))
        obtain ⟨y324, hy324⟩ : ∃ y_ : List (S78), y_ = (l0.drop 3) := ⟨_, rfl⟩
        replace H : ((assartref04_Split.f k y324).bind fun t329 => (if y321.length + t329.length < 5864062014805 then (some (y321 ++ t329)) else (none))) = some r := by first | (rw [hy324]; with_reducible exact H) | (have H2_ := (Option.bind_some _ _).symm.trans H; rw [hy324]; with_reducible exact H2_) | (have H2_ := (Option.bind_some _ _).symm.trans H; with_reducible exact H2_) | with_reducible exact H | (rw [hy324]; exact H) | exact H
        have Ny324 := Aside0.mk hy324
        clear hy324
        replace H := Option.bind_eq_some_iff.mp H
        obtain ⟨t329, A80, H⟩ := H
        replace H : (if y321.length + t329.length < 5864062014805 then (some (y321 ++ t329)) else (none)) = some r := H
        have A8 := Aside0.mk A80
        clear A80
        by_cases c9 : y321.length + t329.length < 5864062014805
        · rw [if_pos c9] at H
          have LMc9 := Aside0.mk c9
          clear c9
          obtain ⟨y332, hy332⟩ : ∃ y_ : List (List (S78)), y_ = (y321 ++ t329) := ⟨_, rfl⟩
          replace H : (some y332) = some r := by first | (rw [hy332]; with_reducible exact H) | (have H2_ := (Option.bind_some _ _).symm.trans H; rw [hy332]; with_reducible exact H2_) | (have H2_ := (Option.bind_some _ _).symm.trans H; with_reducible exact H2_) | with_reducible exact H | (rw [hy332]; exact H) | exact H
          have Ny332 := Aside0.mk hy332
          clear hy332
          obtain rfl := Option.some.inj H
          go_enter Try.func39, Try.ntmps39
          try go_wp2
          have n0_ := Aside0.mk (Kd.V_drew HO0.out)
          have n1_ := Aside0.mk (below_drew1 HB.out)
          clear HO0
          clear HB
          have HO0 := n0_
          have HB := n1_
          clear n0_ n1_
          have q11 : (3 : Int) ≤ ((l0.length : Int) : Int) := of_decide_eq_true (by first | (with_reducible assumption) | assumption)
          obtain ⟨i011, hi011, _, hsz11, _⟩ := info_parts info78
          have hroom11 : l0.length ≤ c0 := (Kd.V_reads' HO0.out).2.1
          have hC11 : Kd.F k78 _ _ A0 l0.length l0 := (Kd.V_at (base := w.heap.size) HO0.out).2.2
          have hcut11 := cut_to (P := Try.prog) 54 78 .i64 Try.underlying54 hi011 A0 l0.length c0 3 (by omega) q11 hroom11
          have hr11 := Kd.F_take (m := 3) hC11 (by omega)
          have hy11 : y316.length = (3 : Int).toNat := (by rw [Ny316.out, List.length_take]; omega)
          rw [← Ny316.out] at hr11
          rw [← hy11] at hcut11
          have HO320 := Aside0.mk (show Kd.V k78 78 _ w.heap.size _ (.slice A0 y316.length c0) y316 from Kd.V_mk (by omega) hr11)
          have HC320 := Aside0.mk (show y316.length ≤ c0 from by omega)
          clear hr11 hC11 hroom11 hi011 hsz11
          have KY11 := Aside0.mk hy11
          clear hy11
          replace q11 := eq_true q11
          have q12 : (3 : Int) ≤ ((l0.length : Int) : Int) := of_decide_eq_true (by first | (with_reducible assumption) | assumption)
          obtain ⟨i012, hi012, _, hsz12, _⟩ := info_parts info78
          have hroom12 : l0.length ≤ c0 := (Kd.V_reads' HO0.out).2.1
          have hC12 : Kd.F k78 _ _ A0 l0.length l0 := (Kd.V_at (base := w.heap.size) HO0.out).2.2
          have hcut12 := cut_from (P := Try.prog) 54 78 .i64 Try.underlying54 hi012 2 hsz12 A0 l0.length c0 3 (by omega) q12
          have hr12 := Kd.F_cut (m := (3 : Int).toNat) (c := c0) hC12 (by omega) hroom12
          obtain ⟨A12, hA12⟩ : ∃ A1, A1 = (if c0 = (3 : Int).toNat then A0 else (A0 : Option Addr).map (·.add ((3 : Int).toNat * 2))) := ⟨_, rfl⟩
          obtain ⟨c12, hc12⟩ : ∃ c1, c1 = c0 - (3 : Int).toNat := ⟨_, rfl⟩
          have hy12 : y324.length = l0.length - (3 : Int).toNat := (by rw [Ny324.out, List.length_drop] <;> omega)
          rw [show (l0).drop (3 : Int).toNat = y324 from Ny324.out.symm] at hr12
          replace hr12 : Kd.F k78 _ _ A12 y324.length y324 := (by rw [hA12]; exact hr12)
          rw [← hy12, ← hA12, ← hc12] at hcut12
          have HO328 := Aside0.mk (show Kd.V k78 78 _ w.heap.size _ (.slice A12 y324.length c12) y324 from Kd.V_mk (by rw [hy12, hc12]; exact Nat.sub_le_sub_right hroom12 _) hr12)
          have HC328 := Aside0.mk (show y324.length ≤ c12 from by rw [hy12, hc12]; exact Nat.sub_le_sub_right hroom12 _)
          clear hr12 hC12 hroom12 hi012 hsz12 hc12
          have KY12 := Aside0.mk hy12
          have KA12 := Aside0.mk hA12
          clear hy12 hA12
          replace q12 := eq_true q12
          refine start_ (n := 8) (S := fun w' => True) (ds := []) #[false, false, false, false, false, false, false, false] (by kernel_rfl) rfl rfl trivial (fun hHeld => ?_); refine with_tabW assartref04_Split.tab5 assartref04_Split.bits5 (fun HT_ HW_ => ?_)
          generalize w.drew = w10 at HO0 HB HO320 HO328 hHeld ⊢
          refine pure_ (i := 0) (N := some 11) (v := ?_) (a' := ?_) #[true, false, false, false, false, false, false, false] rfl rfl (any_of HT_.out (by kernel_rfl)) (fun _ _ _ h => h) (Or.inl ⟨by rfl, ?_⟩) ?_ ?_
          rotate_left
          · intro w'
            go_simp
            with_reducible rfl
          rotate_left
          · simp only [Act.put, List.setIfInBounds_toArray, List.set_cons_zero, List.set_cons_succ, i64_w, i32_w]
            rfl
          refine pure_ (i := 1) (N := some 12) (v := ?_) (a' := ?_) #[true, true, false, false, false, false, false, false] rfl rfl (any_of HT_.out (by kernel_rfl)) (fun _ _ _ h => h) (Or.inl ⟨by rfl, ?_⟩) ?_ ?_
          rotate_left
          · intro w'
            go_simp
            with_reducible rfl
          rotate_left
          · simp only [Act.put, List.setIfInBounds_toArray, List.set_cons_zero, List.set_cons_succ, i64_w, i32_w]
            rfl
          refine pure_ (i := 3) (N := some 14) (v := ?_) (a' := ?_) #[true, true, false, true, false, false, false, false] rfl rfl (any_of HT_.out (by kernel_rfl)) (fun _ _ _ h => h) (Or.inl ⟨by rfl, ?_⟩) ?_ ?_
          rotate_left
          · intro w'
            go_simp
            with_reducible rfl
          rotate_left
          · simp only [Act.put, List.setIfInBounds_toArray, List.set_cons_zero, List.set_cons_succ, i64_w, i32_w]
            rfl
          refine pure_ (i := 4) (N := some 15) (v := ?_) (a' := ?_) #[true, true, false, true, true, false, false, false] rfl rfl (any_of HT_.out (by kernel_rfl)) (fun _ _ _ h => h) (Or.inl ⟨by rfl, ?_⟩) ?_ ?_
          rotate_left
          · intro w'
            go_simp
            with_reducible rfl
          rotate_left
          · simp only [Act.put, List.setIfInBounds_toArray, List.set_cons_zero, List.set_cons_succ, i64_w, i32_w]
            rfl
          refine join_ (σ := Value × Value) 2 #[true, true, true, true, true, true, false, false] (fun s_ => [(13, s_.1), (16, s_.2)]) (fun s_ w' => (Kd.V k78 78 w' w.heap.size (fun k_ => (P0_ k_ ∨ w.heap.size ≤ k_) ∧ some k_ ≠ (s_.1 : Value).ownBlock ∧ some k_ ≠ (s_.2 : Value).ownBlock) (.slice A0 l0.length c0) l0) ∧ (Kd.V k78 78 w' w.heap.size (fun k_ => (P0_ k_ ∨ w.heap.size ≤ k_) ∧ some k_ ≠ (s_.1 : Value).ownBlock ∧ some k_ ≠ (s_.2 : Value).ownBlock) (.slice A0 y316.length c0) y316) ∧ (Kd.N (Kd.slice 78 k78) 54 w' w.heap.size (fun k_ => (P0_ k_ ∨ w.heap.size ≤ k_) ∧ some k_ ≠ (s_.2 : Value).ownBlock) s_.1 y321) ∧ (Kd.V k78 78 w' w.heap.size (fun k_ => (P0_ k_ ∨ w.heap.size ≤ k_) ∧ some k_ ≠ (s_.1 : Value).ownBlock ∧ some k_ ≠ (s_.2 : Value).ownBlock) (.slice A12 y324.length c12) y324) ∧ (Kd.N (Kd.slice 78 k78) 54 w' w.heap.size (fun k_ => (P0_ k_ ∨ w.heap.size ≤ k_) ∧ some k_ ≠ (s_.1 : Value).ownBlock) s_.2 t329) ∧ (Below w.heap.size w w')) ?_ ?_
          rotate_left
          · intro hCont
            refine two_ (i := 2) (j := 5) (Ni := some 13) (Nj := some 16) #[true, true, true, true, true, false, false, false] #[true, true, false, true, true, true, false, false] rfl rfl rfl rfl (two_of HT_.out (by kernel_rfl)) (by decide) (by decide) (fun K hK => ?_) (fun K hK => ?_)
            · skip
              refine Kd.N_lit_step (Kd.slice 78 k78) _ 54 ?hg (N' := 13) ?hd (xs := ([y316] : List (List (S78)))) (inner := [.slice A0 y316.length c0]) (ok := (fun k_ => (P0_ k_ ∨ w.heap.size ≤ k_))) (okp := (fun k_ => (P0_ k_ ∨ w.heap.size ≤ k_))) ?hr ?hp (fun _ hk => hk) ((show ∀ k_, w10.heap.size ≤ k_ → (fun k_ => (P0_ k_ ∨ w.heap.size ≤ k_)) k_ from fun k_ hk => (.inr (Nat.le_trans (below_size (by repeat (first | (with_reducible first | exact HB.out | apply below_alloc | apply pw_below_drewN | apply below_drew1) | exact HB.out))) hk))) _ (Nat.le_refl _)) (Below.refl _ _) (Nat.le_refl _) (by simp) ?_; (case hd => rfl); (case hg => rfl); (case hr => first | (go_simp; done) | (go_simp; rfl)); (case hp => exact (Reps.one (show Kd.FK (Kd.slice 78 k78) _ _ y316 [.slice A0 y316.length c0] from (Kd.FK_slice_mk (Kd.V_reads' (Kd.V_mono (ok' := (fun k_ => (P0_ k_ ∨ w.heap.size ≤ k_))) (HO320.out) (fun k_ hk => hk))).2.1 (Kd.V_F (Kd.V_mono (ok' := (fun k_ => (P0_ k_ ∨ w.heap.size ≤ k_))) (HO320.out) (fun k_ hk => hk))))) (Reps.none _ _)))
              intro v322 w13 ho14 hb hg_ hnew_
              clear hg_ hnew_
              (first | rw [← Ny321.out] at ho14 | (simp only [Int.reduceToNat] at ho14; rw [← Ny321.out] at ho14))
              have n0_ := Aside0.mk (Kd.V_elder' (by (with_reducible repeat (first | apply Kd.V_alloc | apply Kd.V_drewN | apply Kd.V_drew)); exact HO0.out) (Kd.N_base ho14) hb)
              have n1_ := Aside0.mk (Kd.V_elder' (by (with_reducible repeat (first | apply Kd.V_alloc | apply Kd.V_drewN | apply Kd.V_drew)); exact HO320.out) (Kd.N_base ho14) hb)
              have n2_ := Aside0.mk (Kd.V_elder' (by (with_reducible repeat (first | apply Kd.V_alloc | apply Kd.V_drewN | apply Kd.V_drew)); exact HO328.out) (Kd.N_base ho14) hb)
              have n3_ := Aside0.mk (Kd.N_lower ho14 (below_size (by repeat (first | (with_reducible first | exact HB.out | apply below_alloc | apply pw_below_drewN | apply below_drew1) | exact HB.out))))
              have n4_ := Aside0.mk (below_step (by repeat (first | (with_reducible first | exact HB.out | apply below_alloc | apply pw_below_drewN | apply below_drew1) | exact HB.out)) hb)
              clear HO0
              clear HO320
              clear HO328
              clear HB
              have HO0 := n0_
              have HO320 := n1_
              have HO328 := n2_
              have HO323 := n3_
              have HB := n4_
              clear n0_ n1_ n2_ n3_ n4_
              clear hb ho14
              refine hK.out _ _ trivial (fun hHeld => ?_)
              clear hK K
              refine norm_ (a' := ?_) ?_ ?_
              rotate_left
              · show Act.put _ (some 13) _ = _
                simp only [Act.put, List.setIfInBounds_toArray, List.set_cons_zero, List.set_cons_succ, i64_w, i32_w]
                rfl
              refine one_ (i := 5) (N := some 16) #[true, true, true, true, true, true, false, false] rfl rfl (one_of HT_.out (by kernel_rfl)) (by decide) (fun K hK => ?_)
              refine goes_ Try.func39 (by kernel_rfl) rfl #[.slice A12 y324.length c12] (by rfl) rfl rfl (by (try simp only [List.map_toArray, List.map_cons, List.map_nil]); first | done | rfl | (simp only [List.length_drop, List.length_take]; rfl)) ?_
              with_reducible refine (ih k (by omega) (fun k_ => ((P0_ k_ ∨ w.heap.size ≤ k_) ∧ some k_ ≠ (v322 : Value).ownBlock)) _ _ y324 t329 _ ?side1 A8.out).mono ?_
              (case side1 => exact HO328.out)
              rintro e w15 ⟨v330, rfl, ho0, hb⟩
              refine ⟨_, rfl, ?_⟩
              have n0_ := Aside0.mk (Kd.V_elder' (by (with_reducible repeat (first | apply Kd.V_alloc | apply Kd.V_drewN | apply Kd.V_drew)); exact HO0.out) (Kd.N_base ho0) hb)
              have n1_ := Aside0.mk (Kd.V_elder' (by (with_reducible repeat (first | apply Kd.V_alloc | apply Kd.V_drewN | apply Kd.V_drew)); exact HO320.out) (Kd.N_base ho0) hb)
              have n2_ := Aside0.mk (Kd.V_elder' (by (with_reducible repeat (first | apply Kd.V_alloc | apply Kd.V_drewN | apply Kd.V_drew)); exact HO328.out) (Kd.N_base ho0) hb)
              have n3_ := Aside0.mk (Kd.N_elder' (by (with_reducible repeat (first | apply Kd.N_alloc | apply Kd.N_drewN | apply Kd.N_drew)); exact HO323.out) (Kd.N_base ho0) hb)
              have n4_ := Aside0.mk (Kd.N_lower (Kd.N_mono (ok' := fun k_ => (P0_ k_ ∨ w.heap.size ≤ k_) ∧ some k_ ≠ (v322 : Value).ownBlock) ho0 (fun k_ hk_ => ⟨Or.elim hk_ (fun hs_ => hs_.1) (fun hn_ => (.inr (Nat.le_trans (below_size (by repeat (first | (with_reducible first | exact HB.out | apply below_alloc | apply pw_below_drewN | apply below_drew1) | exact HB.out))) hn_))), Or.elim hk_ (fun hs_ => hs_.2) (fun hn_ => (Kd.fresh' (Kd.N_lt (by (with_reducible repeat (first | apply Kd.N_alloc | apply Kd.N_drewN | apply Kd.N_drew)); exact HO323.out)) k_ hn_))⟩)) (below_size (by repeat (first | (with_reducible first | exact HB.out | apply below_alloc | apply pw_below_drewN | apply below_drew1) | exact HB.out))))
              have n5_ := Aside0.mk (below_step (by repeat (first | (with_reducible first | exact HB.out | apply below_alloc | apply pw_below_drewN | apply below_drew1) | exact HB.out)) hb)
              clear HO0
              clear HO320
              clear HO328
              clear HO323
              clear HB
              have HO0 := n0_
              have HO320 := n1_
              have HO328 := n2_
              have HO323 := n3_
              have HO331 := n4_
              have HB := n5_
              clear n0_ n1_ n2_ n3_ n4_ n5_
              (try clear hb)
              (try clear hb2)
              (try clear hk)
              (try clear hi)
              (try clear ho0)
              refine hK.out _ _ trivial (fun hHeld => ?_)
              clear hK K
              refine norm_ (a' := ?_) ?_ ?_
              rotate_left
              · show Act.put _ (some 16) _ = _
                simp only [Act.put, List.setIfInBounds_toArray, List.set_cons_zero, List.set_cons_succ, i64_w, i32_w]
                rfl
              exact norm_ (by simp only [putAll, Act.put, List.setIfInBounds_toArray, List.set_cons_zero, List.set_cons_succ]) (hCont (v322, v330) _ ⟨(by (with_reducible repeat (first | apply Kd.V_alloc | apply Kd.V_drewN | apply Kd.V_drew)); exact Kd.V_mono HO0.out (fun _ hk => ⟨hk.1.1, ⟨hk.1.2, hk.2⟩⟩)), (by (with_reducible repeat (first | apply Kd.V_alloc | apply Kd.V_drewN | apply Kd.V_drew)); exact Kd.V_mono HO320.out (fun _ hk => ⟨hk.1.1, ⟨hk.1.2, hk.2⟩⟩)), (by (with_reducible repeat (first | apply Kd.N_alloc | apply Kd.N_drewN | apply Kd.N_drew)); exact HO323.out), (by (with_reducible repeat (first | apply Kd.V_alloc | apply Kd.V_drewN | apply Kd.V_drew)); exact Kd.V_mono HO328.out (fun _ hk => ⟨hk.1.1, ⟨hk.1.2, hk.2⟩⟩)), (by (with_reducible repeat (first | apply Kd.N_alloc | apply Kd.N_drewN | apply Kd.N_drew)); exact HO331.out), (by repeat (first | (with_reducible first | exact HB.out | apply below_alloc | apply pw_below_drewN | apply below_drew1) | exact HB.out))⟩)
            · skip
              refine goes_ Try.func39 (by kernel_rfl) rfl #[.slice A12 y324.length c12] (by rfl) rfl rfl (by (try simp only [List.map_toArray, List.map_cons, List.map_nil]); first | done | rfl | (simp only [List.length_drop, List.length_take]; rfl)) ?_
              with_reducible refine (ih k (by omega) (fun k_ => (P0_ k_ ∨ w.heap.size ≤ k_)) _ _ y324 t329 _ ?side1 A8.out).mono ?_
              (case side1 => exact HO328.out)
              rintro e w13 ⟨v330, rfl, ho0, hb⟩
              refine ⟨_, rfl, ?_⟩
              have n0_ := Aside0.mk (Kd.V_elder' (by (with_reducible repeat (first | apply Kd.V_alloc | apply Kd.V_drewN | apply Kd.V_drew)); exact HO0.out) (Kd.N_base ho0) hb)
              have n1_ := Aside0.mk (Kd.V_elder' (by (with_reducible repeat (first | apply Kd.V_alloc | apply Kd.V_drewN | apply Kd.V_drew)); exact HO320.out) (Kd.N_base ho0) hb)
              have n2_ := Aside0.mk (Kd.V_elder' (by (with_reducible repeat (first | apply Kd.V_alloc | apply Kd.V_drewN | apply Kd.V_drew)); exact HO328.out) (Kd.N_base ho0) hb)
              have n3_ := Aside0.mk (Kd.N_lower (Kd.N_mono (ok' := fun k_ => (P0_ k_ ∨ w.heap.size ≤ k_)) ho0 (fun k_ hk_ => Or.elim hk_ (fun hs_ => hs_) (fun hn_ => (.inr (Nat.le_trans (below_size (by repeat (first | (with_reducible first | exact HB.out | apply below_alloc | apply pw_below_drewN | apply below_drew1) | exact HB.out))) hn_))))) (below_size (by repeat (first | (with_reducible first | exact HB.out | apply below_alloc | apply pw_below_drewN | apply below_drew1) | exact HB.out))))
              have n4_ := Aside0.mk (below_step (by repeat (first | (with_reducible first | exact HB.out | apply below_alloc | apply pw_below_drewN | apply below_drew1) | exact HB.out)) hb)
              clear HO0
              clear HO320
              clear HO328
              clear HB
              have HO0 := n0_
              have HO320 := n1_
              have HO328 := n2_
              have HO331 := n3_
              have HB := n4_
              clear n0_ n1_ n2_ n3_ n4_
              (try clear hb)
              (try clear hb2)
              (try clear hk)
              (try clear hi)
              (try clear ho0)
              refine hK.out _ _ trivial (fun hHeld => ?_)
              clear hK K
              refine norm_ (a' := ?_) ?_ ?_
              rotate_left
              · show Act.put _ (some 16) _ = _
                simp only [Act.put, List.setIfInBounds_toArray, List.set_cons_zero, List.set_cons_succ, i64_w, i32_w]
                rfl
              refine one_ (i := 2) (N := some 13) #[true, true, true, true, true, true, false, false] rfl rfl (one_of HT_.out (by kernel_rfl)) (by decide) (fun K hK => ?_)
              refine Kd.N_lit_step (Kd.slice 78 k78) _ 54 ?hg (N' := 13) ?hd (xs := ([y316] : List (List (S78)))) (inner := [.slice A0 y316.length c0]) (ok := (fun k_ => (P0_ k_ ∨ w.heap.size ≤ k_) ∧ some k_ ≠ (v330 : Value).ownBlock)) (okp := (fun k_ => (P0_ k_ ∨ w.heap.size ≤ k_) ∧ some k_ ≠ (v330 : Value).ownBlock)) ?hr ?hp (fun _ hk => hk) ((show ∀ k_, w13.heap.size ≤ k_ → (fun k_ => (P0_ k_ ∨ w.heap.size ≤ k_) ∧ some k_ ≠ (v330 : Value).ownBlock) k_ from fun k_ hk => ⟨(.inr (Nat.le_trans (below_size (by repeat (first | (with_reducible first | exact HB.out | apply below_alloc | apply pw_below_drewN | apply below_drew1) | exact HB.out))) hk)), Kd.fresh' (Kd.N_lt (by (with_reducible repeat (first | apply Kd.N_alloc | apply Kd.N_drewN | apply Kd.N_drew)); exact HO331.out)) k_ hk⟩) _ (Nat.le_refl _)) (Below.refl _ _) (Nat.le_refl _) (by simp) ?_; (case hd => rfl); (case hg => rfl); (case hr => first | (go_simp; done) | (go_simp; rfl)); (case hp => exact (Reps.one (show Kd.FK (Kd.slice 78 k78) _ _ y316 [.slice A0 y316.length c0] from (Kd.FK_slice_mk (Kd.V_reads' (Kd.V_mono (ok' := (fun k_ => (P0_ k_ ∨ w.heap.size ≤ k_) ∧ some k_ ≠ (v330 : Value).ownBlock)) (HO320.out) (fun k_ hk => ⟨hk.1, hk.2⟩))).2.1 (Kd.V_F (Kd.V_mono (ok' := (fun k_ => (P0_ k_ ∨ w.heap.size ≤ k_) ∧ some k_ ≠ (v330 : Value).ownBlock)) (HO320.out) (fun k_ hk => ⟨hk.1, hk.2⟩))))) (Reps.none _ _)))
              intro v322 w14 ho15 hb hg_ hnew_
              clear hg_ hnew_
              (first | rw [← Ny321.out] at ho15 | (simp only [Int.reduceToNat] at ho15; rw [← Ny321.out] at ho15))
              have n0_ := Aside0.mk (Kd.V_elder' (by (with_reducible repeat (first | apply Kd.V_alloc | apply Kd.V_drewN | apply Kd.V_drew)); exact HO0.out) (Kd.N_base ho15) hb)
              have n1_ := Aside0.mk (Kd.V_elder' (by (with_reducible repeat (first | apply Kd.V_alloc | apply Kd.V_drewN | apply Kd.V_drew)); exact HO320.out) (Kd.N_base ho15) hb)
              have n2_ := Aside0.mk (Kd.V_elder' (by (with_reducible repeat (first | apply Kd.V_alloc | apply Kd.V_drewN | apply Kd.V_drew)); exact HO328.out) (Kd.N_base ho15) hb)
              have n3_ := Aside0.mk (Kd.N_elder' (by (with_reducible repeat (first | apply Kd.N_alloc | apply Kd.N_drewN | apply Kd.N_drew)); exact HO331.out) (Kd.N_base ho15) hb)
              have n4_ := Aside0.mk (Kd.N_lower ho15 (below_size (by repeat (first | (with_reducible first | exact HB.out | apply below_alloc | apply pw_below_drewN | apply below_drew1) | exact HB.out))))
              have n5_ := Aside0.mk (below_step (by repeat (first | (with_reducible first | exact HB.out | apply below_alloc | apply pw_below_drewN | apply below_drew1) | exact HB.out)) hb)
              clear HO0
              clear HO320
              clear HO328
              clear HO331
              clear HB
              have HO0 := n0_
              have HO320 := n1_
              have HO328 := n2_
              have HO331 := n3_
              have HO323 := n4_
              have HB := n5_
              clear n0_ n1_ n2_ n3_ n4_ n5_
              clear hb ho15
              refine hK.out _ _ trivial (fun hHeld => ?_)
              clear hK K
              refine norm_ (a' := ?_) ?_ ?_
              rotate_left
              · show Act.put _ (some 13) _ = _
                simp only [Act.put, List.setIfInBounds_toArray, List.set_cons_zero, List.set_cons_succ, i64_w, i32_w]
                rfl
              exact norm_ (by simp only [putAll, Act.put, List.setIfInBounds_toArray, List.set_cons_zero, List.set_cons_succ]) (hCont (v322, v330) _ ⟨(by (with_reducible repeat (first | apply Kd.V_alloc | apply Kd.V_drewN | apply Kd.V_drew)); exact Kd.V_mono HO0.out (fun _ hk => ⟨hk.1.1, ⟨hk.2, hk.1.2⟩⟩)), (by (with_reducible repeat (first | apply Kd.V_alloc | apply Kd.V_drewN | apply Kd.V_drew)); exact Kd.V_mono HO320.out (fun _ hk => ⟨hk.1.1, ⟨hk.2, hk.1.2⟩⟩)), (by (with_reducible repeat (first | apply Kd.N_alloc | apply Kd.N_drewN | apply Kd.N_drew)); exact HO323.out), (by (with_reducible repeat (first | apply Kd.V_alloc | apply Kd.V_drewN | apply Kd.V_drew)); exact Kd.V_mono HO328.out (fun _ hk => ⟨hk.1.1, ⟨hk.2, hk.1.2⟩⟩)), (by (with_reducible repeat (first | apply Kd.N_alloc | apply Kd.N_drewN | apply Kd.N_drew)); exact HO331.out), (by repeat (first | (with_reducible first | exact HB.out | apply below_alloc | apply pw_below_drewN | apply below_drew1) | exact HB.out))⟩)
          rintro ⟨v322, v330⟩ w16 ⟨h0_, h1_, h2_, h3_, h4_, h5_⟩
          have n0_ : Aside0 (Kd.V k78 78 w16 w.heap.size (fun k_ => (P0_ k_ ∨ w.heap.size ≤ k_) ∧ some k_ ≠ (v322 : Value).ownBlock ∧ some k_ ≠ (v330 : Value).ownBlock) (.slice A0 l0.length c0) l0) := ⟨h0_⟩
          have n1_ : Aside0 (Kd.V k78 78 w16 w.heap.size (fun k_ => (P0_ k_ ∨ w.heap.size ≤ k_) ∧ some k_ ≠ (v322 : Value).ownBlock ∧ some k_ ≠ (v330 : Value).ownBlock) (.slice A0 y316.length c0) y316) := ⟨h1_⟩
          have n2_ : Aside0 (Kd.N (Kd.slice 78 k78) 54 w16 w.heap.size (fun k_ => (P0_ k_ ∨ w.heap.size ≤ k_) ∧ some k_ ≠ (v330 : Value).ownBlock) v322 y321) := ⟨h2_⟩
          have n3_ : Aside0 (Kd.V k78 78 w16 w.heap.size (fun k_ => (P0_ k_ ∨ w.heap.size ≤ k_) ∧ some k_ ≠ (v322 : Value).ownBlock ∧ some k_ ≠ (v330 : Value).ownBlock) (.slice A12 y324.length c12) y324) := ⟨h3_⟩
          have n4_ : Aside0 (Kd.N (Kd.slice 78 k78) 54 w16 w.heap.size (fun k_ => (P0_ k_ ∨ w.heap.size ≤ k_) ∧ some k_ ≠ (v322 : Value).ownBlock) v330 t329) := ⟨h4_⟩
          have n5_ : Aside0 (Below w.heap.size w w16) := ⟨h5_⟩
          clear HO0
          clear HB
          clear h0_ h1_ h2_ h3_ h4_ h5_
          have HO0 := n0_
          have HO320 := n1_
          have HO323 := n2_
          have HO328 := n3_
          have HO331 := n4_
          have HB := n5_
          clear n0_ n1_ n2_ n3_ n4_ n5_
          have hHeld := trivial
          obtain ⟨Ao18, co18, eo18⟩ := Kd.N_slice HO331.out
          (first | subst eo18 | (injection eo18 with f1_ f2_ f3_; have f4_ := f1_.symm; have f5_ := f3_.symm; clear f1_ f2_ f3_; subst f4_; subst f5_))
          refine norm_ (a' := ?_) ?_ ?_
          rotate_left
          · simp only [putAll, Act.put, List.setIfInBounds_toArray, List.set_cons_zero, List.set_cons_succ]
            rfl
          refine one_ (i := 6) (N := some 17) #[true, true, true, true, true, true, true, false] rfl rfl (one_of HT_.out (by kernel_rfl)) (by decide) (fun K hK => ?_)
          refine Kd.N_append_rows_step (Kd.slice 78 k78) (w0 := w) w.heap.size (by rfl) (.tmp 13) (.tmp 16) 71 54 (.slice none 0 0) 24 rfl Try.underlying71 info54 rfl (by decide) (by omega) v322 y321 t329 _ _ _ (fun k_ => (P0_ k_ ∨ w.heap.size ≤ k_)) (fun k_ => ((fun k_ => (P0_ k_ ∨ w.heap.size ≤ k_))) k_ ∧ some k_ ≠ (v322 : Value).ownBlock) rfl rfl ?aO ?aR (fun _ hk => hk) ?aF ?aB ?aS ?aL ?_
          (case aR => exact (by skip; exact Kd.N_F (Kd.N_mono (ok' := (fun k_ => ((fun k_ => (P0_ k_ ∨ w.heap.size ≤ k_))) k_ ∧ some k_ ≠ (v322 : Value).ownBlock)) (HO331.out) (fun k_ hk => ⟨hk.1, hk.2⟩))))
          (case aB => exact (by repeat (first | (with_reducible first | exact HB.out | apply below_alloc | apply pw_below_drewN | apply below_drew1) | exact HB.out)))
          (case aF => exact (fun k_ hk => (.inr (Nat.le_trans (below_size (by repeat (first | (with_reducible first | exact HB.out | apply below_alloc | apply pw_below_drewN | apply below_drew1) | exact HB.out))) hk))))
          (case aO => exact (by (with_reducible repeat (first | apply Kd.N_alloc | apply Kd.N_drewN | apply Kd.N_drew)); exact Kd.N_mono HO323.out (fun _ hk => hk.1)))
          (case aS => exact (below_size (by repeat (first | (with_reducible first | exact HB.out | apply below_alloc | apply pw_below_drewN | apply below_drew1) | exact HB.out))))
          (case aL => have := LMc9.out; omega)
          intro v333 w17 ho hb hg hat
          rw [← Ny332.out] at ho
          have n0_ := Aside0.mk (Kd.V_afterv (ok := (fun k_ => (P0_ k_ ∨ w.heap.size ≤ k_) ∧ some k_ ≠ (.slice Ao18 t329.length co18 : Value).ownBlock)) (by (with_reducible repeat (first | apply Kd.V_alloc | apply Kd.V_drewN | apply Kd.V_drew)); exact Kd.V_mono HO0.out (fun _ hk => ⟨⟨hk.1, hk.2.2⟩, hk.2.1⟩)) hg hat)
          have n1_ := Aside0.mk (Kd.V_afterv (ok := (fun k_ => (P0_ k_ ∨ w.heap.size ≤ k_) ∧ some k_ ≠ (.slice Ao18 t329.length co18 : Value).ownBlock)) (by (with_reducible repeat (first | apply Kd.V_alloc | apply Kd.V_drewN | apply Kd.V_drew)); exact Kd.V_mono HO320.out (fun _ hk => ⟨⟨hk.1, hk.2.2⟩, hk.2.1⟩)) hg hat)
          have n2_ := Aside0.mk (Kd.V_afterv (ok := (fun k_ => (P0_ k_ ∨ w.heap.size ≤ k_) ∧ some k_ ≠ (.slice Ao18 t329.length co18 : Value).ownBlock)) (by (with_reducible repeat (first | apply Kd.V_alloc | apply Kd.V_drewN | apply Kd.V_drew)); exact Kd.V_mono HO328.out (fun _ hk => ⟨⟨hk.1, hk.2.2⟩, hk.2.1⟩)) hg hat)
          have n3_ := Aside0.mk (Kd.N_afterv (ok := (fun k_ => (P0_ k_ ∨ w.heap.size ≤ k_))) (by (with_reducible repeat (first | apply Kd.N_alloc | apply Kd.N_drewN | apply Kd.N_drew)); exact HO331.out) hg hat)
          have n4_ := Aside0.mk (hb)
          have n5_ := Aside0.mk (ho)
          clear HO0
          clear HO320
          clear HO328
          clear HO331
          clear HB
          clear HO323
          have HO0 := n0_
          have HO320 := n1_
          have HO328 := n2_
          have HO331 := n3_
          have HB := n4_
          have HO334 := n5_
          clear n0_ n1_ n2_ n3_ n4_ n5_
          clear ho hb hg hat
          refine hK.out _ _ trivial (fun hHeld => ?_)
          clear hK K
          refine norm_ (a' := ?_) ?_ ?_
          rotate_left
          · show Act.put _ (some 17) _ = _
            simp only [Act.put, List.setIfInBounds_toArray, List.set_cons_zero, List.set_cons_succ, i64_w, i32_w]
            rfl
          refine pure_ (i := 7) (N := some 2) (v := ?_) (a' := ?_) #[true, true, true, true, true, true, true, true] rfl rfl (any_of HT_.out (by kernel_rfl)) (fun _ _ _ h => h) (Or.inl ⟨by rfl, ?_⟩) ?_ ?_
          rotate_left
          · intro w'
            go_simp
            with_reducible rfl
          rotate_left
          · simp only [Act.put, List.setIfInBounds_toArray, List.set_cons_zero, List.set_cons_succ, i64_w, i32_w]
            rfl
          refine done_ (done_of HT_.out (by kernel_rfl)) ?_
          try go_wp2
          go_ret
          exact ⟨_, by first | rfl | (simp [errW_none, errW_some] <;> rfl) | (simp [*, errW_none, errW_some] <;> rfl), by (with_reducible repeat (first | apply Kd.N_alloc | apply Kd.N_drewN | apply Kd.N_drew)); exact HO334.out, by repeat (first | (with_reducible first | exact HB.out | apply below_alloc | apply pw_below_drewN | apply below_drew1) | exact HB.out)⟩
        · rw [if_neg c9] at H
          exact absurd H (by simp)
      · rw [if_neg c6] at H
        exact absurd H (by simp)

end Go.Proofs.Ythjnkapkhphpeaa.P
end
section
namespace Go.Proofs.Ythjnkapkhphpeaa.P
open Go.RowKit Go.Proofs.YthjnkapkhphpeaaW.PrintWords Go.Proofs.YthjnkapkhphpeaaW.PrintLast Go.Proofs.YthjnkapkhphpeaaW.PrintMore
attribute [local go_sem] max2_int min2_int max_two min_two max_three min_three max_four min_four
set_option linter.unusedVariables false
set_option linter.unusedSimpArgs false

/-! ### assartref04_With: function 42 -/
def assartref04_With.f (l0 : List (S78)) (a1 : Int) (a2 : Int) (l3 : List (S78)) : Option ((List (S78))) := (some (([] : List (S78)) : List (S78))).bind fun y335 => (if 0 ≤ a1 then (if a1 ≤ (l0.length : Int) then ((some (l0.take (a1 : Int).toNat : List (S78))).bind fun y338 => (if y335.length + y338.length < 8796093022208 then ((some (y335 ++ y338 : List (S78))).bind fun y342 => (if y342.length + l3.length < 8796093022208 then ((some (y342 ++ l3 : List (S78))).bind fun y345 => (if 0 ≤ (wrap64 (a1 + a2)) then (if (wrap64 (a1 + a2)) ≤ (l0.length : Int) then ((some (l0.drop ((wrap64 (a1 + a2)) : Int).toNat : List (S78))).bind fun y348 => (if y345.length + y348.length < 8796093022208 then (some (y345 ++ y348)) else (none))) else (none)) else (none))) else (none))) else (none))) else (none)) else (none))
set_option maxHeartbeats 8000000 in
set_option maxRecDepth 100000 in
theorem assartref04_With.calls (A0 : Option Addr) (c0 : Nat) (l0 : List (S78)) (a1 : Int) (a2 : Int) (A3 : Option Addr) (c3 : Nat) (l3 : List (S78)) (r : List (S78)) (w : World) (hr0 : Kd.C k78 w A0 l0.length l0) (hc0 : l0.length ≤ c0) (hr3 : Kd.C k78 w A3 l3.length l3) (hc3 : l3.length ≤ c3) (h : assartref04_With.f l0 a1 a2 l3 = some r) :
    Calls Try.prog 42 #[.slice A0 l0.length c0, .int .i64 a1, .int .i64 a2, .slice A3 l3.length c3] w fun e w' => ∃ v0_ : Value, e = .returned (v0_) ∧ Kd.R k78 78 w' w.heap.size (fun _ => True) v0_ r ∧ Below w.heap.size w w' := by
  have HR0 := Aside0.mk hr0
  have HC0 := Aside0.mk hc0
  clear hr0 hc0
  have HR3 := Aside0.mk hr3
  have HC3 := Aside0.mk hc3
  clear hr3 hc3
  have HB := Aside0.mk (Below.refl w.heap.size w)
  have H : ((some (([] : List (S78)) : List (S78))).bind fun y335 => (if 0 ≤ a1 then (if a1 ≤ (l0.length : Int) then ((some (l0.take (a1 : Int).toNat : List (S78))).bind fun y338 => (if y335.length + y338.length < 8796093022208 then ((some (y335 ++ y338 : List (S78))).bind fun y342 => (if y342.length + l3.length < 8796093022208 then ((some (y342 ++ l3 : List (S78))).bind fun y345 => (if 0 ≤ (wrap64 (a1 + a2)) then (if (wrap64 (a1 + a2)) ≤ (l0.length : Int) then ((some (l0.drop ((wrap64 (a1 + a2)) : Int).toNat : List (S78))).bind fun y348 => (if y345.length + y348.length < 8796093022208 then (some (y345 ++ y348)) else (none))) else (none)) else (none))) else (none))) else (none))) else (none)) else (none))) = some r := h
  clear h
  obtain ⟨y335, hy335⟩ : ∃ y_ : List (S78), y_ = (([] : List (S78))) := ⟨_, rfl⟩
  replace H : (if 0 ≤ a1 then (if a1 ≤ (l0.length : Int) then ((some (l0.take (a1 : Int).toNat : List (S78))).bind fun y338 => (if y335.length + y338.length < 8796093022208 then ((some (y335 ++ y338 : List (S78))).bind fun y342 => (if y342.length + l3.length < 8796093022208 then ((some (y342 ++ l3 : List (S78))).bind fun y345 => (if 0 ≤ (wrap64 (a1 + a2)) then (if (wrap64 (a1 + a2)) ≤ (l0.length : Int) then ((some (l0.drop ((wrap64 (a1 + a2)) : Int).toNat : List (S78))).bind fun y348 => (if y345.length + y348.length < 8796093022208 then (some (y345 ++ y348)) else (none))) else (none)) else (none))) else (none))) else (none))) else (none)) else (none)) = some r := by first | (rw [hy335]; with_reducible exact H) | (have H2_ := (Option.bind_some _ _).symm.trans H; rw [hy335]; with_reducible exact H2_) | (have H2_ := (Option.bind_some _ _).symm.trans H; with_reducible exact H2_) | with_reducible exact H | (rw [hy335]; exact H) | exact H
  have Ny335 := Aside0.mk hy335
  clear hy335
  by_cases c5 : 0 ≤ a1
  · rw [if_pos c5] at H
    have c5b0 := eq_true c5
    have c5b1 : decide (0 ≤ a1) = true := decide_eq_true c5
    clear c5
    by_cases c6 : a1 ≤ (l0.length : Int)
    · rw [if_pos c6] at H
      have c6b0 := eq_true c6
      have c6b1 : decide (a1 ≤ (l0.length : Int)) = true := decide_eq_true c6
      clear c6
      obtain ⟨y338, hy338⟩ : ∃ y_ : List (S78), y_ = (l0.take (a1 : Int).toNat) := ⟨_, rfl⟩
      replace H : (if y335.length + y338.length < 8796093022208 then ((some (y335 ++ y338 : List (S78))).bind fun y342 => (if y342.length + l3.length < 8796093022208 then ((some (y342 ++ l3 : List (S78))).bind fun y345 => (if 0 ≤ (wrap64 (a1 + a2)) then (if (wrap64 (a1 + a2)) ≤ (l0.length : Int) then ((some (l0.drop ((wrap64 (a1 + a2)) : Int).toNat : List (S78))).bind fun y348 => (if y345.length + y348.length < 8796093022208 then (some (y345 ++ y348)) else (none))) else (none)) else (none))) else (none))) else (none)) = some r := by first | (rw [hy338]; with_reducible exact H) | (have H2_ := (Option.bind_some _ _).symm.trans H; rw [hy338]; with_reducible exact H2_) | (have H2_ := (Option.bind_some _ _).symm.trans H; with_reducible exact H2_) | with_reducible exact H | (rw [hy338]; exact H) | exact H
      have Ny338 := Aside0.mk hy338
      clear hy338
      by_cases c7 : y335.length + y338.length < 8796093022208
      · rw [if_pos c7] at H
        have LMc7 := Aside0.mk c7
        clear c7
        obtain ⟨y342, hy342⟩ : ∃ y_ : List (S78), y_ = (y335 ++ y338) := ⟨_, rfl⟩
        replace H : (if y342.length + l3.length < 8796093022208 then ((some (y342 ++ l3 : List (S78))).bind fun y345 => (if 0 ≤ (wrap64 (a1 + a2)) then (if (wrap64 (a1 + a2)) ≤ (l0.length : Int) then ((some (l0.drop ((wrap64 (a1 + a2)) : Int).toNat : List (S78))).bind fun y348 => (if y345.length + y348.length < 8796093022208 then (some (y345 ++ y348)) else (none))) else (none)) else (none))) else (none)) = some r := by first | (rw [hy342]; with_reducible exact H) | (have H2_ := (Option.bind_some _ _).symm.trans H; rw [hy342]; with_reducible exact H2_) | (have H2_ := (Option.bind_some _ _).symm.trans H; with_reducible exact H2_) | with_reducible exact H | (rw [hy342]; exact H) | exact H
        have Ny342 := Aside0.mk hy342
        clear hy342
        by_cases c8 : y342.length + l3.length < 8796093022208
        · rw [if_pos c8] at H
          have LMc8 := Aside0.mk c8
          clear c8
          obtain ⟨y345, hy345⟩ : ∃ y_ : List (S78), y_ = (y342 ++ l3) := ⟨_, rfl⟩
          replace H : (if 0 ≤ (wrap64 (a1 + a2)) then (if (wrap64 (a1 + a2)) ≤ (l0.length : Int) then ((some (l0.drop ((wrap64 (a1 + a2)) : Int).toNat : List (S78))).bind fun y348 => (if y345.length + y348.length < 8796093022208 then (some (y345 ++ y348)) else (none))) else (none)) else (none)) = some r := by first | (rw [hy345]; with_reducible exact H) | (have H2_ := (Option.bind_some _ _).symm.trans H; rw [hy345]; with_reducible exact H2_) | (have H2_ := (Option.bind_some _ _).symm.trans H; with_reducible exact H2_) | with_reducible exact H | (rw [hy345]; exact H) | exact H
          have Ny345 := Aside0.mk hy345
          clear hy345
          obtain ⟨ji9, hji9⟩ : ∃ j_ : Int, (wrap64 (a1 + a2)) = j_ := ⟨_, rfl⟩
          replace H : (if 0 ≤ (ji9) then (if (ji9) ≤ (l0.length : Int) then ((some (l0.drop ((ji9) : Int).toNat : List (S78))).bind fun y348 => (if y345.length + y348.length < 8796093022208 then (some (y345 ++ y348)) else (none))) else (none)) else (none)) = some r := by first | (rw [hji9] at H; exact H) | (simp only [hji9] at H ⊢; exact H)
          have hji9w : (IntKind.i64.wrap (a1 + a2)) = ji9 := (i64_w _).trans hji9
          by_cases c10 : 0 ≤ (ji9)
          · rw [if_pos c10] at H
            have c10b0 := eq_true c10
            have c10b1 : decide (0 ≤ (ji9)) = true := decide_eq_true c10
            clear c10
            by_cases c11 : (ji9) ≤ (l0.length : Int)
            · rw [if_pos c11] at H
              have c11b0 := eq_true c11
              have c11b1 : decide ((ji9) ≤ (l0.length : Int)) = true := decide_eq_true c11
              clear c11
              obtain ⟨y348, hy348⟩ : ∃ y_ : List (S78), y_ = (l0.drop ((ji9) : Int).toNat) := ⟨_, rfl⟩
              replace H : (if y345.length + y348.length < 8796093022208 then (some (y345 ++ y348)) else (none)) = some r := by first | (rw [hy348]; with_reducible exact H) | (have H2_ := (Option.bind_some _ _).symm.trans H; rw [hy348]; with_reducible exact H2_) | (have H2_ := (Option.bind_some _ _).symm.trans H; with_reducible exact H2_) | with_reducible exact H | (rw [hy348]; exact H) | exact H
              have Ny348 := Aside0.mk hy348
              clear hy348
              by_cases c12 : y345.length + y348.length < 8796093022208
              · rw [if_pos c12] at H
                have LMc12 := Aside0.mk c12
                clear c12
                obtain ⟨y352, hy352⟩ : ∃ y_ : List (S78), y_ = (y345 ++ y348) := ⟨_, rfl⟩
                replace H : (some y352) = some r := by first | (rw [hy352]; with_reducible exact H) | (have H2_ := (Option.bind_some _ _).symm.trans H; rw [hy352]; with_reducible exact H2_) | (have H2_ := (Option.bind_some _ _).symm.trans H; with_reducible exact H2_) | with_reducible exact H | (rw [hy352]; exact H) | exact H
                have Ny352 := Aside0.mk hy352
                clear hy352
                obtain rfl := Option.some.inj H
                go_enter Try.func42, Try.ntmps42
                go_wp2_with (first | ((with_reducible refine gate_dst (N := 10) rfl ?_); refine Kd.R_lit k78 _ 78 ?hg (N := 10) ?hd (xs := ([] : List (S78))) (inner := []) (ok := fun _ => True) (okp := fun _ => True) ?hr ?hp (fun _ hk => hk) trivial (Below.refl _ _) (Nat.le_refl _) (by simp) ?_; (case hd => rfl); (case hg => rfl); (case hr => first | (go_simp; done) | (go_simp; rfl)); (case hp => exact (Reps.none _ _)); intro v336 w13 ho14 hb hg_ hnew_; clear hg_ hnew_; (first | rw [← Ny335.out] at ho14 | (simp only [Int.reduceToNat] at ho14; rw [← Ny335.out] at ho14)); have n0_ := Aside0.mk (Kd.R_lower ho14 (below_size (by repeat (first | (with_reducible first | exact HB.out | apply below_alloc | apply pw_below_drewN | apply below_drew1) | exact HB.out)))); have n1_ := Aside0.mk (below_step (by repeat (first | (with_reducible first | exact HB.out | apply below_alloc | apply pw_below_drewN | apply below_drew1) | exact HB.out)) hb); clear HB; have HO337 := n0_; have HB := n1_; clear n0_ n1_; clear hb ho14; have q15 : (a1 : Int) ≤ ((l0.length : Int) : Int) := of_decide_eq_true (by first | (with_reducible assumption) | assumption); obtain ⟨i015, hi015, _, hsz15, _⟩ := info_parts info78; have hroom15 : l0.length ≤ c0 := HC0.out; have hC15 : Kd.C k78 _ A0 l0.length l0 := HR0.out; have hcut15 := cut_to (P := Try.prog) 54 78 .i64 Try.underlying54 hi015 A0 l0.length c0 a1 (of_decide_eq_true (by first | (with_reducible assumption) | assumption)) q15 hroom15; have hr15 := Kd.C_take (m := (a1 : Int).toNat) hC15 (by omega); have hy15 : y338.length = (a1 : Int).toNat := (by rw [Ny338.out, List.length_take]; omega); rw [← Ny338.out] at hr15; rw [← hy15] at hcut15; have HR341 := Aside0.mk hr15; have HC341 := Aside0.mk (show y338.length ≤ c0 from by omega); clear hr15 hC15 hroom15 hi015 hsz15; have KY15 := Aside0.mk hy15; clear hy15; replace q15 := eq_true q15) | ((with_reducible refine gate_builtin (b := .append) (xs := #[.tmp 10, .tmp 13]) rfl ?_); at_builtin; refine Kd.R_append_rows k78 (w0 := w) w.heap.size rfl (.tmp 10) (.tmp 13) 54 78 (.agg #[(.int .i64 0), (.int .i64 0)]) 16 rfl Try.underlying54 info78 rfl (by decide) (by omega) v336 y335 y338 _ _ _ (fun _ => True) (fun _ => False) rfl rfl ?aO ?aR (fun _ _ h => h) (fun _ h => h.elim) ?aF ?aB ?aS ?aL ?_; (case aR => repeat (first | exact (Kd.C_below HR341.out HB.out) | (with_reducible refine Kd.C_alloc ?_ _) | (with_reducible refine Kd.C_drewN ?_ _) | (with_reducible refine Kd.C_drew ?_))); (case aB => exact (by repeat (first | (with_reducible first | exact HB.out | apply below_alloc | apply pw_below_drewN | apply below_drew1) | exact HB.out))); (case aF => exact (fun _ _ => trivial)); (case aO => exact (by (with_reducible repeat (first | apply Kd.R_alloc | apply Kd.R_drewN | apply Kd.R_drew)); exact HO337.out)); (case aS => exact (below_size (by repeat (first | (with_reducible first | exact HB.out | apply below_alloc | apply pw_below_drewN | apply below_drew1) | exact HB.out)))); (case aL => have := LMc7.out; omega); intro v343 w16 ho hb hg hat; rw [← Ny342.out] at ho; have n0_ := Aside0.mk (hb); have n1_ := Aside0.mk (ho); clear HB; clear HO337; have HB := n0_; have HO344 := n1_; clear n0_ n1_; clear ho hb hg hat) | ((with_reducible refine gate_builtin (b := .append) (xs := #[.tmp 14, .tmp 15]) rfl ?_); at_builtin; refine Kd.R_append_rows k78 (w0 := w) w.heap.size rfl (.tmp 14) (.tmp 15) 54 78 (.agg #[(.int .i64 0), (.int .i64 0)]) 16 rfl Try.underlying54 info78 rfl (by decide) (by omega) v343 y342 l3 _ _ _ (fun _ => True) (fun _ => False) rfl rfl ?aO ?aR (fun _ _ h => h) (fun _ h => h.elim) ?aF ?aB ?aS ?aL ?_; (case aR => repeat (first | exact (Kd.C_below HR3.out HB.out) | (with_reducible refine Kd.C_alloc ?_ _) | (with_reducible refine Kd.C_drewN ?_ _) | (with_reducible refine Kd.C_drew ?_))); (case aB => exact (by repeat (first | (with_reducible first | exact HB.out | apply below_alloc | apply pw_below_drewN | apply below_drew1) | exact HB.out))); (case aF => exact (fun _ _ => trivial)); (case aO => exact (by (with_reducible repeat (first | apply Kd.R_alloc | apply Kd.R_drewN | apply Kd.R_drew)); exact HO344.out)); (case aS => exact (below_size (by repeat (first | (with_reducible first | exact HB.out | apply below_alloc | apply pw_below_drewN | apply below_drew1) | exact HB.out)))); (case aL => have := LMc8.out; omega); intro v346 w17 ho hb hg hat; rw [← Ny345.out] at ho; have n0_ := Aside0.mk (hb); have n1_ := Aside0.mk (ho); clear HB; clear HO344; have HB := n0_; have HO347 := n1_; clear n0_ n1_; clear ho hb hg hat; have q18 : ((ji9) : Int) ≤ ((l0.length : Int) : Int) := of_decide_eq_true (by first | (with_reducible assumption) | assumption); obtain ⟨i018, hi018, _, hsz18, _⟩ := info_parts info78; have hroom18 : l0.length ≤ c0 := HC0.out; have hC18 : Kd.C k78 _ A0 l0.length l0 := HR0.out; have q018 : (0 : Int) ≤ ((ji9) : Int) := of_decide_eq_true (by first | (with_reducible assumption) | assumption); have hcut18 := cut_from (P := Try.prog) 54 78 .i64 Try.underlying54 hi018 2 hsz18 A0 l0.length c0 (ji9) q018 q18; have hr18 := Kd.C_drop (m := ((ji9) : Int).toNat) (c := c0) hC18 (by omega) hroom18; obtain ⟨A18, hA18⟩ : ∃ A1, A1 = (if c0 = ((ji9) : Int).toNat then A0 else (A0 : Option Addr).map (·.add (((ji9) : Int).toNat * 2))) := ⟨_, rfl⟩; obtain ⟨c18, hc18⟩ : ∃ c1, c1 = c0 - ((ji9) : Int).toNat := ⟨_, rfl⟩; have hy18 : y348.length = l0.length - ((ji9) : Int).toNat := (by rw [Ny348.out, List.length_drop] <;> omega); rw [show (l0).drop ((ji9) : Int).toNat = y348 from Ny348.out.symm] at hr18; replace hr18 : Kd.C k78 _ A18 y348.length y348 := (by rw [hA18]; exact hr18); rw [← hy18, ← hA18, ← hc18] at hcut18; have HR351 := Aside0.mk hr18; have HC351 := Aside0.mk (show y348.length ≤ c18 from by rw [hy18, hc18]; exact Nat.sub_le_sub_right hroom18 _); clear hr18 hC18 hroom18 hi018 hsz18 hc18; have KY18 := Aside0.mk hy18; have KA18 := Aside0.mk hA18; clear hy18 hA18; replace q18 := eq_true q18) | ((with_reducible refine gate_builtin (b := .append) (xs := #[.tmp 17, .tmp 22]) rfl ?_); at_builtin; refine Kd.R_append_rows k78 (w0 := w) w.heap.size rfl (.tmp 17) (.tmp 22) 54 78 (.agg #[(.int .i64 0), (.int .i64 0)]) 16 rfl Try.underlying54 info78 rfl (by decide) (by omega) v346 y345 y348 _ _ _ (fun _ => True) (fun _ => False) rfl rfl ?aO ?aR (fun _ _ h => h) (fun _ h => h.elim) ?aF ?aB ?aS ?aL ?_; (case aR => repeat (first | exact (Kd.C_below HR351.out HB.out) | (with_reducible refine Kd.C_alloc ?_ _) | (with_reducible refine Kd.C_drewN ?_ _) | (with_reducible refine Kd.C_drew ?_))); (case aB => exact (by repeat (first | (with_reducible first | exact HB.out | apply below_alloc | apply pw_below_drewN | apply below_drew1) | exact HB.out))); (case aF => exact (fun _ _ => trivial)); (case aO => exact (by (with_reducible repeat (first | apply Kd.R_alloc | apply Kd.R_drewN | apply Kd.R_drew)); exact HO347.out)); (case aS => exact (below_size (by repeat (first | (with_reducible first | exact HB.out | apply below_alloc | apply pw_below_drewN | apply below_drew1) | exact HB.out)))); (case aL => have := LMc12.out; omega); intro v353 w19 ho hb hg hat; rw [← Ny352.out] at ho; have n0_ := Aside0.mk (hb); have n1_ := Aside0.mk (ho); clear HB; clear HO347; have HB := n0_; have HO354 := n1_; clear n0_ n1_; clear ho hb hg hat))
                go_ret
                exact ⟨_, by first | rfl | (simp [errW_none, errW_some] <;> rfl) | (simp only [← hji9]; first | rfl | (simp [errW_none, errW_some] <;> rfl)) | (simp [*, errW_none, errW_some] <;> rfl), by (with_reducible repeat (first | apply Kd.R_alloc | apply Kd.R_drewN | apply Kd.R_drew)); exact HO354.out, by repeat (first | (with_reducible first | exact HB.out | apply below_alloc | apply pw_below_drewN | apply below_drew1) | exact HB.out)⟩
              · rw [if_neg c12] at H
                exact absurd H (by simp)
            · rw [if_neg c11] at H
              exact absurd H (by simp)
          · rw [if_neg c10] at H
            exact absurd H (by simp)
        · rw [if_neg c8] at H
          exact absurd H (by simp)
      · rw [if_neg c7] at H
        exact absurd H (by simp)
    · rw [if_neg c6] at H
      exact absurd H (by simp)
  · rw [if_neg c5] at H
    exact absurd H (by simp)

end Go.Proofs.Ythjnkapkhphpeaa.P
end
section
/- The plain laws of node: what is right, rows of items, where a key stands, items with others, items split. -/
namespace Go.Proofs.Ythjnkapkhphpeaa.P
open Go.RowKit Go.Proofs.YthjnkapkhphpeaaW.PrintWords Go.Proofs.YthjnkapkhphpeaaW.PrintLast Go.Proofs.YthjnkapkhphpeaaW.PrintMore
set_option linter.unusedVariables false
set_option linter.unusedSimpArgs false
instance decS78 : DecidableEq S78 := fun x y =>
  if h : x.f0 = y.f0 ∧ x.f1 = y.f1 then isTrue (by cases x; cases y; simp at h; simp [h]) else isFalse (fun e => h (by rw [e]; exact ⟨rfl, rfl⟩))
abbrev kAt (l : List S78) (i : Nat) : Int := (rd_T78 l (i : Nat)).f0
abbrev vAt (l : List S78) (i : Nat) : Int := (rd_T78 l (i : Nat)).f1
theorem rd_eq (l : List S78) (i : Nat) (h : i < l.length) : rd_T78 l (i : Nat) = l[i] := by simp [rd_T78, h]
theorem wsucc (j : Nat) (h : j < 2000000) : wrap64 ((j : Int) + 1) = ((j + 1 : Nat) : Int) := by unfold wrap64; omega
theorem wpred (j : Nat) (h0 : 0 < j) (h : j < 2000000) : wrap64 ((j : Int) - 1) = ((j - 1 : Nat) : Int) := by unfold wrap64; omega
def okAt (l : List S78) (i : Nat) : Prop := 0 ≤ kAt l i ∧ kAt l i ≤ 2147483647 ∧ 0 ≤ vAt l i ∧ vAt l i ≤ 2147483647 ∧ (0 < i → kAt l (i - 1) < kAt l i)
instance (l : List S78) (i : Nat) : Decidable (okAt l i) := by unfold okAt; infer_instance
def okFrom (l : List S78) (j : Nat) : Prop := ∀ i, i < l.length → j ≤ i → okAt l i
instance (l : List S78) (j : Nat) : Decidable (okFrom l j) := by unfold okFrom; infer_instance
theorem okFrom_end (l : List S78) : okFrom l l.length := fun i h1 h2 => by omega
theorem okFrom_step {l : List S78} {j : Nat} (h : j < l.length) : okFrom l j ↔ okAt l j ∧ okFrom l (j + 1) :=
  ⟨fun hh => ⟨hh j h (Nat.le_refl _), fun i h1 h2 => hh i h1 (by omega)⟩, fun ⟨h1, h2⟩ i hi hj => by
    by_cases e : i = j
    · subst e; exact h1
    · exact h2 i hi (by omega)⟩
theorem okFrom_dec {l : List S78} {j : Nat} (h : j < l.length) : decide (okFrom l j) = (decide (okAt l j) && decide (okFrom l (j + 1))) := by
  rw [← Bool.decide_and, decide_eq_decide]
  exact okFrom_step h
def RtN (l : List S78) : Prop := 1 ≤ l.length ∧ l.length ≤ 4 ∧ okFrom l 0
instance (l : List S78) : Decidable (RtN l) := by unfold RtN; infer_instance
theorem refRight04_l0 (leaf : Bool) (l : List S78) (hl : l.length ≤ 1000) : ∀ (d k j : Nat), j + d = l.length → d < k → assartref04_Right.l0 k (j : Int) leaf l = some (decide (okFrom l j)) := by
  intro d
  induction d with
  | zero =>
    intro k j hj hk
    obtain ⟨k, rfl⟩ : ∃ m, k = m + 1 := ⟨k - 1, by omega⟩
    obtain rfl : j = l.length := by omega
    simp only [assartref04_Right.l0]
    rw [if_neg (by omega), decide_eq_true (okFrom_end l)]
  | succ d ih =>
    intro k j hj hk
    obtain ⟨k, rfl⟩ : ∃ m, k = m + 1 := ⟨k - 1, by omega⟩
    have hlt : j < l.length := by omega
    have ih' := ih k (j + 1) (by omega) (by omega)
    simp only [assartref04_Right.l0]
    rw [okFrom_dec hlt, if_pos (by omega), if_pos (by omega), wsucc j (by omega), ih']
    by_cases h1 : kAt l j < 0
    · rw [if_pos h1, decide_eq_false (fun h : okAt l j => by have := h.1; omega), Bool.false_and]
    by_cases h2 : kAt l j > 2147483647
    · rw [if_neg h1, if_pos h2, decide_eq_false (fun h : okAt l j => by have := h.2.1; omega), Bool.false_and]
    by_cases h3 : vAt l j < 0
    · rw [if_neg h1, if_neg h2, if_pos h3, decide_eq_false (fun h : okAt l j => by have := h.2.2.1; omega), Bool.false_and]
    by_cases h4 : vAt l j > 2147483647
    · rw [if_neg h1, if_neg h2, if_neg h3, if_pos h4, decide_eq_false (fun h : okAt l j => by have := h.2.2.2.1; omega), Bool.false_and]
    rw [if_neg h1, if_neg h2, if_neg h3, if_neg h4]
    by_cases h5 : j = 0
    · subst h5
      rw [if_neg (by simp), decide_eq_true (show okAt l 0 from ⟨by omega, by omega, by omega, by omega, fun h => absurd h (by omega)⟩), Bool.true_and]
    · rw [if_pos (by omega), wpred j (by omega) (by omega), if_pos (by omega), if_pos (by omega)]
      by_cases h6 : kAt l (j - 1) ≥ kAt l j
      · rw [if_pos h6, decide_eq_false (fun h : okAt l j => by have := h.2.2.2.2 (by omega); omega), Bool.false_and]
      · rw [if_neg h6, decide_eq_true (show okAt l j from ⟨by omega, by omega, by omega, by omega, fun _ => by omega⟩), Bool.true_and]
theorem refRight04_val (leaf : Bool) (l : List S78) (k : Nat) (hk : 2 + l.length ≤ k ∨ 6 ≤ k) : assartref04_Right.f k leaf l = some (decide (RtN l)) := by
  unfold assartref04_Right.f
  obtain ⟨k, rfl⟩ : ∃ m, k = m + 1 := ⟨k - 1, by omega⟩
  by_cases h1 : l.length < 1
  · rw [if_pos (by omega)]
    simp only [assartref04_Right.j0]
    rw [if_pos trivial, decide_eq_false (fun h : RtN l => by have := h.1; omega)]
  · rw [if_neg (by omega)]
    simp only [assartref04_Right.j0]
    by_cases h4 : l.length ≤ 4
    · rw [decide_eq_false (show ¬ (l.length : Int) > 4 by omega), if_neg (by simp)]
      have := refRight04_l0 leaf l (by omega) l.length k 0 (by omega) (by omega)
      rw [show ((0 : Nat) : Int) = 0 from rfl] at this
      rw [this]
      congr 1
      rw [decide_eq_decide]
      exact ⟨fun h => ⟨by omega, h4, h⟩, fun h => h.2.2⟩
    · rw [decide_eq_true (show (l.length : Int) > 4 by omega), if_pos rfl, decide_eq_false (fun h : RtN l => h4 h.2.1)]
theorem fits_val (a : Int) : node_fits.f a = some (decide (0 ≤ a ∧ a ≤ 2147483647)) := by
  unfold node_fits.f
  by_cases h : a ≥ 0
  · rw [if_pos h]
    have : (0 ≤ a ∧ a ≤ 2147483647) = (a ≤ 2147483647) := by apply propext; omega
    simp only [this]
  · rw [if_neg h, decide_eq_false (by omega)]
theorem right04_l0 (leaf : Bool) (l : List S78) (hl : l.length ≤ 1000) : ∀ (d k j : Nat), j + d = l.length → d < k → node_Right.l0 k l (l.length : Int) (j : Int) leaf l = some (decide (okFrom l j)) := by
  intro d
  induction d with
  | zero =>
    intro k j hj hk
    obtain ⟨k, rfl⟩ : ∃ m, k = m + 1 := ⟨k - 1, by omega⟩
    obtain rfl : j = l.length := by omega
    simp only [node_Right.l0]
    rw [if_neg (by omega), decide_eq_true (okFrom_end l)]
  | succ d ih =>
    intro k j hj hk
    obtain ⟨k, rfl⟩ : ∃ m, k = m + 1 := ⟨k - 1, by omega⟩
    have hlt : j < l.length := by omega
    have ih' := ih k (j + 1) (by omega) (by omega)
    simp only [node_Right.l0]
    rw [okFrom_dec hlt, if_pos (by omega), if_pos (by omega), if_pos (by omega), wsucc j (by omega), ih', fits_val, Option.bind_some, fits_val, Option.bind_some]
    by_cases h1 : 0 ≤ kAt l j ∧ kAt l j ≤ 2147483647
    · rw [if_pos (decide_eq_true h1)]
      by_cases h3 : 0 ≤ vAt l j ∧ vAt l j ≤ 2147483647
      · rw [if_pos (decide_eq_true h3)]
        by_cases h5 : j = 0
        · subst h5
          rw [if_neg (by simp), decide_eq_true (show okAt l 0 from ⟨by omega, by omega, by omega, by omega, fun h => absurd h (by omega)⟩), Bool.true_and]
        · rw [if_pos (by omega), wpred j (by omega) (by omega), if_pos (by omega), if_pos (by omega)]
          by_cases h6 : kAt l j ≤ kAt l (j - 1)
          · rw [if_pos h6, decide_eq_false (fun h : okAt l j => by have := h.2.2.2.2 (by omega); omega), Bool.false_and]
          · rw [if_neg h6, decide_eq_true (show okAt l j from ⟨by omega, by omega, by omega, by omega, fun _ => by omega⟩), Bool.true_and]
      · rw [if_neg (by simpa using h3), decide_eq_false (fun h : okAt l j => h3 ⟨h.2.2.1, h.2.2.2.1⟩), Bool.false_and]
    · rw [if_neg (by simpa using h1), decide_eq_false (fun h : okAt l j => h1 ⟨h.1, h.2.1⟩), Bool.false_and]
theorem right04_val (leaf : Bool) (l : List S78) (k : Nat) (hk : 6 ≤ k) : node_Right.f k leaf l = some (decide (RtN l)) := by
  unfold node_Right.f
  obtain ⟨k, rfl⟩ : ∃ m, k = m + 1 := ⟨k - 1, by omega⟩
  by_cases h1 : l.length < 1
  · rw [if_pos (by omega)]
    simp only [node_Right.j0]
    rw [if_pos trivial, decide_eq_false (fun h : RtN l => by have := h.1; omega)]
  · rw [if_neg (by omega)]
    simp only [node_Right.j0]
    by_cases h4 : l.length ≤ 4
    · rw [decide_eq_false (show ¬ (l.length : Int) > 4 by omega), if_neg (by simp)]
      have := right04_l0 leaf l (by omega) l.length k 0 (by omega) (by omega)
      rw [show ((0 : Nat) : Int) = 0 from rfl] at this
      rw [this]
      congr 1
      rw [decide_eq_decide]
      exact ⟨fun h => ⟨by omega, h4, h⟩, fun h => h.2.2⟩
    · rw [decide_eq_true (show (l.length : Int) > 4 by omega), if_pos rfl, decide_eq_false (fun h : RtN l => h4 h.2.1)]
theorem items_l0 (a b : List S78) (hl : a.length ≤ 1000000) (hab : a.length = b.length) : ∀ (d k j : Nat), j + d = a.length → d < k → assartref04_Items.l0 k a b (j : Int) = some (decide (a.drop j = b.drop j)) := by
  intro d
  induction d with
  | zero =>
    intro k j hj hk
    obtain ⟨k, rfl⟩ : ∃ m, k = m + 1 := ⟨k - 1, by omega⟩
    obtain rfl : j = a.length := by omega
    simp only [assartref04_Items.l0]
    rw [if_neg (by omega), decide_eq_true (by rw [List.drop_of_length_le (Nat.le_refl _), List.drop_of_length_le (by omega)])]
  | succ d ih =>
    intro k j hj hk
    obtain ⟨k, rfl⟩ : ∃ m, k = m + 1 := ⟨k - 1, by omega⟩
    have hlt : j < a.length := by omega
    have hlt2 : j < b.length := by omega
    simp only [assartref04_Items.l0]
    rw [if_pos (by omega), if_pos (by omega), if_pos (by omega), wsucc j (by omega), ih k (j + 1) (by omega) (by omega), rd_eq a j hlt, rd_eq b j hlt2, List.drop_eq_getElem_cons hlt, List.drop_eq_getElem_cons hlt2]
    by_cases h : a[j] = b[j]
    · rw [h, if_neg (by simp)]
      congr 1
      rw [decide_eq_decide]
      exact ⟨fun hh => by rw [hh], fun hh => (List.cons.inj hh).2⟩
    · rw [if_pos]
      · rw [decide_eq_false]
        intro hh
        exact h (List.cons.inj hh).1
      · have : ¬ (a[j].f0 = b[j].f0 ∧ a[j].f1 = b[j].f1) := fun ⟨h1, h2⟩ => h (by
          generalize a[j] = x at h1 h2; generalize b[j] = y at h1 h2
          cases x; cases y; simp at h1 h2; simp [h1, h2])
        by_cases e : a[j].f0 = b[j].f0
        · have : ¬ a[j].f1 = b[j].f1 := fun h2 => this ⟨e, h2⟩
          simp [e, this]
        · simp [e]
theorem items_val (a b : List S78) (hl : a.length ≤ 1000000) (k : Nat) (hk : a.length < k) : assartref04_Items.f k a b = some (decide (a = b)) := by
  unfold assartref04_Items.f
  by_cases h : a.length = b.length
  · rw [if_pos (by omega)]
    have := items_l0 a b hl h a.length k 0 (by omega) hk
    rw [show ((0 : Nat) : Int) = 0 from rfl] at this
    rw [this, List.drop_zero, List.drop_zero]
  · rw [if_neg (by omega), decide_eq_false (fun e => h (by rw [e]))]
/-- Items in rows that nodes can have. -/
def splitN : Nat → List S78 → List (List S78)
  | 0, _ => []
  | n + 1, l => if l.length = 0 then [] else if l.length ≤ 4 then [l] else l.take 3 :: splitN n (l.drop 3)
theorem splitN_len : ∀ (n : Nat) (l : List S78), (splitN n l).length ≤ n
  | 0, l => by simp [splitN]
  | n + 1, l => by
    unfold splitN
    split
    · simp
    · split
      · simp
      · have := splitN_len n (l.drop 3)
        simp
        omega
theorem split_val : ∀ (n : Nat) (l : List S78) (k : Nat), l.length ≤ n → n ≤ 1000 → n < k → node_Split.f k l = some (splitN (n + 1) l) := by
  intro n
  induction n with
  | zero =>
    intro l k h _ hk
    obtain ⟨k, rfl⟩ : ∃ m, k = m + 1 := ⟨k - 1, by omega⟩
    unfold node_Split.f splitN
    rw [if_pos (by omega), if_pos (by omega)]
  | succ n ih =>
    intro l k h hn hk
    obtain ⟨k, rfl⟩ : ∃ m, k = m + 1 := ⟨k - 1, by omega⟩
    unfold node_Split.f splitN
    by_cases h0 : l.length = 0
    · rw [if_pos (by omega), if_pos h0]
    · rw [if_neg (by omega), if_neg h0]
      by_cases h4 : l.length ≤ 4
      · rw [if_pos (by omega), if_pos h4]
      · have := splitN_len (n + 1) (l.drop 3)
        rw [if_neg (by omega), if_neg h4, if_pos (by omega), Option.bind_some, ih (l.drop 3) k (by simp; omega) (by omega) (by omega), Option.bind_some, if_pos (by simp; omega)]
        rfl
theorem refSplit_val : ∀ (n : Nat) (l : List S78) (k : Nat), l.length ≤ n → n ≤ 1000 → n < k → assartref04_Split.f k l = some (splitN (n + 1) l) := by
  intro n
  induction n with
  | zero =>
    intro l k h _ hk
    obtain ⟨k, rfl⟩ : ∃ m, k = m + 1 := ⟨k - 1, by omega⟩
    unfold assartref04_Split.f splitN
    rw [if_pos (by omega), if_pos (by omega)]
  | succ n ih =>
    intro l k h hn hk
    obtain ⟨k, rfl⟩ : ∃ m, k = m + 1 := ⟨k - 1, by omega⟩
    unfold assartref04_Split.f splitN
    by_cases h0 : l.length = 0
    · rw [if_pos (by omega), if_pos h0]
    · rw [if_neg (by omega), if_neg h0]
      by_cases h4 : l.length ≤ 4
      · rw [if_pos (by omega), if_pos h4]
      · have := splitN_len (n + 1) (l.drop 3)
        rw [if_neg (by omega), if_neg h4, if_pos (by omega), Option.bind_some, ih (l.drop 3) k (by simp; omega) (by omega) (by omega), Option.bind_some, if_pos (by simp; omega)]
        rfl
theorem splitN_row_le : ∀ (n : Nat) (l : List S78), ∀ r ∈ splitN n l, r.length ≤ 4
  | 0, l => by simp [splitN]
  | n + 1, l => by
    unfold splitN
    split
    · simp
    · split
      · intro r hr; simp at hr; subst hr; assumption
      · intro r hr
        rcases List.mem_cons.1 hr with rfl | hr
        · simp; omega
        · exact splitN_row_le n (l.drop 3) r hr
theorem rows_l0 (a b : List (List S78)) (hab : a = b) (hl : a.length ≤ 1000) (hr : ∀ r ∈ a, r.length ≤ 1000) : ∀ (d k j : Nat), j + d = a.length → d + 1001 < k → assartref04_Rows.l0 k a b (j : Int) = some true := by
  subst hab
  intro d
  induction d with
  | zero =>
    intro k j hj hk
    obtain ⟨k, rfl⟩ : ∃ m, k = m + 1 := ⟨k - 1, by omega⟩
    simp only [assartref04_Rows.l0]
    rw [if_neg (by omega)]
  | succ d ih =>
    intro k j hj hk
    obtain ⟨k, rfl⟩ : ∃ m, k = m + 1 := ⟨k - 1, by omega⟩
    have hlt : j < a.length := by omega
    have hrd : rd_L7 a (j : Int) = a[j] := by simp [rd_L7, hlt]
    have hlen := hr _ (List.getElem_mem hlt)
    simp only [assartref04_Rows.l0]
    rw [if_pos (by omega), if_pos (by omega), if_pos (by omega), hrd, items_val _ _ (by omega) k (by omega), Option.bind_some, decide_eq_true rfl, if_pos rfl, wsucc j (by omega), ih k (j + 1) (by omega) (by omega)]
theorem rows_same (a : List (List S78)) (hl : a.length ≤ 1000) (hr : ∀ r ∈ a, r.length ≤ 1000) (k : Nat) (hk : 3000 < k) : assartref04_Rows.f k a a = some true := by
  unfold assartref04_Rows.f
  rw [if_pos rfl]
  have := rows_l0 a a rfl hl hr a.length k 0 (by omega) (by omega)
  rwa [show ((0 : Nat) : Int) = 0 from rfl] at this
theorem with_val (l m : List S78) (a g : Nat) (h : a + g ≤ l.length) (hl : l.length ≤ 1000) (hm : m.length ≤ 1000) : node_With.f l (a : Int) (g : Int) m = some (l.take a ++ m ++ l.drop (a + g)) := by
  have hw : wrap64 ((a : Int) + (g : Int)) = ((a + g : Nat) : Int) := by unfold wrap64; omega
  unfold node_With.f
  rw [hw, if_pos (by omega), if_pos (by omega), if_pos (by omega), if_pos (by omega)]
  unfold api_Item_59.f
  simp only [Int.toNat_natCast]
  rw [if_pos]
  · simp
  · simp
    omega
theorem refWith_val (l m : List S78) (a g : Nat) (h : a + g ≤ l.length) (hl : l.length ≤ 1000) (hm : m.length ≤ 1000) : assartref04_With.f l (a : Int) (g : Int) m = some (l.take a ++ m ++ l.drop (a + g)) := by
  have hw : wrap64 ((a : Int) + (g : Int)) = ((a + g : Nat) : Int) := by unfold wrap64; omega
  have ht : (l.take a).length ≤ 1000 := by rw [List.length_take]; omega
  have hd : (l.drop (a + g)).length ≤ 1000 := by rw [List.length_drop]; omega
  unfold assartref04_With.f
  rw [Option.bind_some, hw, if_pos (by omega), if_pos (by omega), Option.bind_some, Int.toNat_natCast, if_pos (by simp; omega), Option.bind_some, if_pos (by simp; omega), Option.bind_some, if_pos (by omega), if_pos (by omega), Option.bind_some, Int.toNat_natCast, if_pos (by simp; omega)]
  simp
def atAns (leaf : Bool) (c : Nat) (is' : Bool) : Option (Int × Bool) := some (if leaf = false ∧ is' = false then (if (c : Int) - 1 < 0 then 0 else (c : Int) - 1) else (c : Int), is')
theorem at_ans {l : List S78} (leaf : Bool) (key : Int) (hl : l.length ≤ 1000) (hris : rising l = true) (c : Nat) (hc : c ≤ l.length) (h0 : ∀ i, i < c → kAt l i < key) (h1 : ∀ i, c ≤ i → i < l.length → key ≤ kAt l i) :
    node_At.f leaf l key = atAns leaf c (decide (c < l.length) && (kAt l c == key)) := by
  have hn : atN l key = c := cut_at (p := fun i => decide (key ≤ kAt l i)) c hc (fun t ht => decide_eq_false (by have := h0 t ht; omega)) (fun t ht htn => decide_eq_true (h1 t ht htn))
  unfold node_At.f atAns
  rw [if_pos ⟨hris, by omega⟩]
  unfold atIs
  rw [hn]
theorem end_ans (leaf : Bool) (c : Nat) (hc : c ≤ 1000) : (if leaf = true then some ((c : Int), false) else some (mx (wrap64 ((c : Int) - 1)) 0, false)) = atAns leaf c false := by
  have hw : wrap64 ((c : Int) - 1) = (c : Int) - 1 := by unfold wrap64; omega
  unfold atAns
  rw [hw]
  cases leaf
  · simp [mx]
  · simp
theorem refAt_tail (leaf : Bool) (l : List S78) (key : Int) (hl : l.length ≤ 1000) (c : Nat) (hc : c ≤ 1000) : ∀ (d k j : Nat), j + d = l.length → d < k → (∀ i, j ≤ i → i < l.length → key < kAt l i) →
    assartref04_At.l0 k key (c : Int) (j : Int) leaf l = atAns leaf c false := by
  intro d
  induction d with
  | zero =>
    intro k j hj hk _
    obtain ⟨k, rfl⟩ : ∃ m, k = m + 1 := ⟨k - 1, by omega⟩
    simp only [assartref04_At.l0]
    rw [if_neg (by omega), end_ans leaf c hc]
  | succ d ih =>
    intro k j hj hk h
    obtain ⟨k, rfl⟩ : ∃ m, k = m + 1 := ⟨k - 1, by omega⟩
    have hj2 := h j (Nat.le_refl _) (by omega)
    simp only [assartref04_At.l0]
    rw [if_pos (by omega), if_pos (by omega), if_neg (by show ¬ kAt l j = key; omega), if_neg (by show ¬ kAt l j < key; omega), wsucc j (by omega), ih k (j + 1) (by omega) (by omega) (fun i hi => h i (by omega))]
theorem refAt_l0 (leaf : Bool) (l : List S78) (key : Int) (hl : l.length ≤ 1000) (hris : rising l = true) : ∀ (d k j : Nat), j + d = l.length → d < k → (∀ i, i < j → kAt l i < key) →
    assartref04_At.l0 k key (j : Int) (j : Int) leaf l = node_At.f leaf l key := by
  intro d
  induction d with
  | zero =>
    intro k j hj hk h
    obtain ⟨k, rfl⟩ : ∃ m, k = m + 1 := ⟨k - 1, by omega⟩
    simp only [assartref04_At.l0]
    rw [at_ans leaf key hl hris j (by omega) h (fun i hi hl => by omega), decide_eq_false (by omega), Bool.false_and, if_neg (by omega), end_ans leaf j (by omega)]
  | succ d ih =>
    intro k j hj hk h
    obtain ⟨k, rfl⟩ : ∃ m, k = m + 1 := ⟨k - 1, by omega⟩
    have hlt : j < l.length := by omega
    have hup : ∀ i, j < i → i < l.length → kAt l j < kAt l i := fun i hi hl => rising_lt hris j i hi hl
    simp only [assartref04_At.l0]
    rw [if_pos (by omega), if_pos (by omega)]
    by_cases h1 : kAt l j = key
    · rw [if_pos h1, at_ans leaf key hl hris j (by omega) h (fun i hi hl => by
        by_cases e : i = j
        · subst e; omega
        · have := hup i (by omega) hl; omega), decide_eq_true hlt, Bool.true_and, h1]
      simp [atAns]
    · rw [if_neg h1]
      by_cases h2 : kAt l j < key
      · rw [if_pos h2, wsucc j (by omega), ih k (j + 1) (by omega) (by omega) (fun i hi => by
          by_cases e : i = j
          · subst e; exact h2
          · exact h i (by omega))]
      · have h3 : (kAt l j == key) = false := by simpa using h1
        rw [if_neg h2, wsucc j (by omega), at_ans leaf key hl hris j (by omega) h (fun i hi hl => by
          by_cases e : i = j
          · subst e; omega
          · have := hup i (by omega) hl; omega), h3, Bool.and_false, refAt_tail leaf l key hl j (by omega) d k (j + 1) (by omega) (by omega) (fun i hi hl => by have := hup i (by omega) hl; omega)]
theorem refAt_val (leaf : Bool) (l : List S78) (key : Int) (hl : l.length ≤ 1000) (hris : rising l = true) (k : Nat) (hk : l.length < k) : assartref04_At.f k leaf l key = node_At.f leaf l key := by
  unfold assartref04_At.f
  have := refAt_l0 leaf l key hl hris l.length k 0 (by omega) hk (fun i hi => by omega)
  rwa [show ((0 : Nat) : Int) = 0 from rfl] at this
theorem rising_of {l : List S78} (h : RtN l) : rising l = true := by
  have step : ∀ i, i + 1 < l.length → kAt l i < kAt l (i + 1) := fun i hi => (h.2.2 (i + 1) hi (by omega)).2.2.2.2 (by omega)
  have all : ∀ d a, a + d + 1 < l.length → kAt l a < kAt l (a + d + 1) := by
    intro d
    induction d with
    | zero => intro a ha; exact step a ha
    | succ d ih => intro a ha; have h1 := ih a (by omega); have h2 := step (a + d + 1) (by omega); rw [show a + (d + 1) + 1 = a + d + 1 + 1 by omega]; omega
  unfold rising
  rw [List.all_eq_true]
  intro b hb
  rw [List.all_eq_true]
  intro a ha
  have hb := List.mem_range.1 hb
  have ha := List.mem_range.1 ha
  have := all (b - a - 1) a (by omega)
  rw [show a + (b - a - 1) + 1 = b by omega] at this
  exact decide_eq_true this
end Go.Proofs.Ythjnkapkhphpeaa.P
end
section
/- NodePuts: an item that is put in a leaf at the place where its key stands, or would, makes items that rise; split, each row is a right node. -/
namespace Go.Proofs.Ythjnkapkhphpeaa.Pure
open Go.RowKit Go.Proofs.Ythjnkapkhphpeaa.P Go.Proofs.YthjnkapkhphpeaaW.PrintWords Go.Proofs.YthjnkapkhphpeaaW.PrintLast Go.Proofs.YthjnkapkhphpeaaW.PrintMore

/-- Where a key stands: how many keys are below it. -/
theorem atN_split' {l : List S78} (key : Int) (hris : rising l = true) : (∀ i, i < atN l key → kAt l i < key) ∧ (∀ i, atN l key ≤ i → i < l.length → key ≤ kAt l i) := by
  have ex : ∃ c, c ≤ l.length ∧ (∀ i, i < c → kAt l i < key) ∧ (∀ i, c ≤ i → i < l.length → key ≤ kAt l i) := by
    have gen : ∀ d j, j + d = l.length → (∀ i, i < j → kAt l i < key) → ∃ c, c ≤ l.length ∧ (∀ i, i < c → kAt l i < key) ∧ (∀ i, c ≤ i → i < l.length → key ≤ kAt l i) := by
      intro d
      induction d with
      | zero => intro j hj h; exact ⟨j, by omega, h, fun i h1 h2 => by omega⟩
      | succ d ih =>
        intro j hj h
        by_cases hx : kAt l j < key
        · exact ih (j + 1) (by omega) (fun i hi => by
            by_cases e : i = j
            · subst e; exact hx
            · exact h i (by omega))
        · refine ⟨j, by omega, h, fun i h1 h2 => ?_⟩
          by_cases e : i = j
          · subst e; omega
          · have : kAt l j < kAt l i := rising_lt hris j i (by omega) h2
            omega
    exact gen l.length 0 (by omega) (fun i hi => by omega)
  obtain ⟨c, hc, h0, h1⟩ := ex
  have hn : atN l key = c := cut_at (p := fun i => decide (key ≤ kAt l i)) c hc (fun t ht => decide_eq_false (by have := h0 t ht; omega)) (fun t ht htn => decide_eq_true (h1 t ht htn))
  rw [hn]
  exact ⟨h0, h1⟩
def Up (l : List S78) : Prop := l.Pairwise (fun a b => a.f0 < b.f0)
def Fit (l : List S78) : Prop := ∀ y ∈ l, 0 ≤ y.f0 ∧ y.f0 ≤ 2147483647 ∧ 0 ≤ y.f1 ∧ y.f1 ≤ 2147483647
theorem up_get {l : List S78} (h : Up l) (a b : Nat) (hab : a < b) (hb : b < l.length) : kAt l a < kAt l b := by
  have := List.pairwise_iff_getElem.1 h a b (by omega) hb hab
  rw [← rd_eq l a (by omega), ← rd_eq l b hb] at this
  exact this
theorem right_of {l : List S78} (hu : Up l) (hf : Fit l) (h1 : 1 ≤ l.length) (h4 : l.length ≤ 4) : RtN l := by
  refine ⟨h1, h4, fun i hi _ => ?_⟩
  have hb := hf l[i] (List.getElem_mem hi)
  rw [← rd_eq l i hi] at hb
  exact ⟨hb.1, hb.2.1, hb.2.2.1, hb.2.2.2, fun h0 => up_get hu (i - 1) i (by omega) hi⟩
theorem of_right {l : List S78} (h : RtN l) : Up l ∧ Fit l := by
  have hris := rising_of h
  constructor
  · refine List.pairwise_iff_getElem.2 fun a b ha hb hab => ?_
    have := rising_lt hris a b hab hb
    rwa [rd_eq l a ha, rd_eq l b hb] at this
  · intro y hy
    obtain ⟨i, hi, rfl⟩ := List.getElem_of_mem hy
    have := h.2.2 i hi (by omega)
    unfold okAt kAt vAt at this
    rw [rd_eq l i hi] at this
    exact ⟨this.1, this.2.1, this.2.2.1, this.2.2.2.1⟩
theorem puts_round (k : Nat) (rows : List (List S78)) (last : Int) (j : Nat) (r : List S78) (hj : j < rows.length) (hj2 : j < 100) (hr : rd_L7 rows (j : Int) = r) (hu : Up r) (hf : Fit r) (h1 : 1 ≤ r.length) (h4 : r.length ≤ 4) (hl : last < kAt r 0) (hk : 10 ≤ k) :
    assartlaw04_NodePuts.l0 (k + 1) true rows last (j : Int) = assartlaw04_NodePuts.l0 k true rows (kAt r (r.length - 1)) ((j + 1 : Nat) : Int) := by
  conv => lhs; unfold assartlaw04_NodePuts.l0
  rw [if_pos (by omega), if_pos (by omega), hr, refRight04_val true r k (by omega), Option.bind_some, if_pos (decide_eq_true (right_of hu hf h1 h4)), if_pos (by omega), if_neg (by show ¬ kAt r 0 ≤ last; omega), wpred r.length (by omega) (by omega), if_pos (by omega), if_pos (by omega), wsucc j (by omega)]
theorem puts_end (k : Nat) (rows : List (List S78)) (last : Int) (h1 : 1 ≤ rows.length) (h2 : rows.length ≤ 2) : assartlaw04_NodePuts.l0 (k + 1) true rows last (rows.length : Int) = some true := by
  unfold assartlaw04_NodePuts.l0
  rw [if_neg (by omega), if_pos rfl, if_pos (by omega), decide_eq_true (by omega)]
theorem puts_loop (w : List S78) (hu : Up w) (hf : Fit w) (h1 : 1 ≤ w.length) (h5 : w.length ≤ 5) (k : Nat) (hk : 20 ≤ k) : assartlaw04_NodePuts.l0 k true (splitN 6 w) (-1) 0 = some true := by
  have h0 : ¬ w.length = 0 := by omega
  have e0 : ((0 : Nat) : Int) = 0 := rfl
  have e1 : ((1 : Nat) : Int) = 1 := rfl
  unfold splitN
  rw [if_neg h0]
  by_cases h4 : w.length ≤ 4
  · rw [if_pos h4]
    obtain ⟨k, rfl⟩ : ∃ n, k = n + 2 := ⟨k - 2, by omega⟩
    have hk0 : 0 ≤ kAt w 0 := by
      have := (hf w[0] (List.getElem_mem (by omega))).1
      rwa [← rd_eq w 0 (by omega)] at this
    have r1 := puts_round (k + 1) [w] (-1) 0 w (by simp) (by omega) rfl hu hf h1 h4 (by omega) (by omega)
    rw [e0] at r1
    rw [r1]
    exact puts_end k [w] _ (by simp) (by simp)
  · rw [if_neg h4]
    obtain ⟨k, rfl⟩ : ∃ n, k = n + 3 := ⟨k - 3, by omega⟩
    have hd : (w.drop 3).length = 2 := by rw [List.length_drop]; omega
    have ht : (w.take 3).length = 3 := by rw [List.length_take]; omega
    have hs : splitN 5 (w.drop 3) = [w.drop 3] := by
      unfold splitN
      rw [if_neg (by omega), if_pos (by omega)]
    rw [hs]
    have hut : Up (w.take 3) := List.Pairwise.sublist (List.take_sublist 3 w) hu
    have hud : Up (w.drop 3) := List.Pairwise.sublist (List.drop_sublist 3 w) hu
    have hft : Fit (w.take 3) := fun y hy => hf y (List.mem_of_mem_take hy)
    have hfd : Fit (w.drop 3) := fun y hy => hf y (List.mem_of_mem_drop hy)
    have t0 : kAt (w.take 3) 0 = kAt w 0 := by unfold kAt; rw [rd_eq _ 0 (by omega), rd_eq w 0 (by omega)]; simp
    have t2 : kAt (w.take 3) 2 = kAt w 2 := by unfold kAt; rw [rd_eq _ 2 (by omega), rd_eq w 2 (by omega)]; simp
    have d0 : kAt (w.drop 3) 0 = kAt w 3 := by unfold kAt; rw [rd_eq _ 0 (by omega), rd_eq w 3 (by omega)]; simp
    have hk0 : 0 ≤ kAt w 0 := by
      have := (hf w[0] (List.getElem_mem (by omega))).1
      rwa [← rd_eq w 0 (by omega)] at this
    have h23 := up_get hu 2 3 (by omega) (by omega)
    have r1 := puts_round (k + 2) [w.take 3, w.drop 3] (-1) 0 (w.take 3) (by simp) (by omega) rfl hut hft (by omega) (by omega) (by omega) (by omega)
    rw [e0, ht] at r1
    have r2 := puts_round (k + 1) [w.take 3, w.drop 3] (kAt (w.take 3) (3 - 1)) 1 (w.drop 3) (by simp) (by omega) rfl hud hfd (by omega) (by omega) (by rw [d0]; show kAt (w.take 3) 2 < _; omega) (by omega)
    rw [r1]
    refine r2.trans ?_
    exact puts_end k [w.take 3, w.drop 3] _ (by simp) (by simp)
theorem NodePuts : assartlaw04_NodePuts.QPure := by
  intro leaf l xk xv _ hk hv
  refine ⟨100, ?_⟩
  unfold assartlaw04_NodePuts.f
  rw [show assartlaw04_shown.f = some true from rfl, Option.bind_some, refRight04_val leaf l 100 (by omega), Option.bind_some]
  have early : assartlaw04_NodePuts.j0 100 true true leaf l xk xv = some true := by
    rw [show (100 : Nat) = 99 + 1 from rfl]
    simp only [assartlaw04_NodePuts.j0]
    rw [if_pos trivial]
  by_cases hr : RtN l
  · rw [if_pos (decide_eq_true hr)]
    cases leaf with
    | false => rw [if_neg (by simp)]; exact early
    | true =>
      rw [if_pos rfl]
      by_cases h1 : xk < 0
      · rw [if_pos h1]; exact early
      by_cases h2 : xk > 2147483647
      · rw [if_neg h1, if_pos h2]; exact early
      by_cases h3 : xv < 0
      · rw [if_neg h1, if_neg h2, if_pos h3]; exact early
      rw [if_neg h1, if_neg h2, if_neg h3]
      by_cases h4 : xv > 2147483647
      · rw [decide_eq_true h4]; exact early
      rw [decide_eq_false h4]
      have hris := rising_of hr
      have hlen := hr.2.1
      have hlen1 := hr.1
      obtain ⟨hu, hf⟩ := of_right hr
      obtain ⟨h0, h5⟩ := atN_split' (l := l) xk hris
      have hle := atN_le l xk
      rw [show (100 : Nat) = 99 + 1 from rfl]
      simp only [assartlaw04_NodePuts.j0]
      unfold node_At.f
      rw [if_neg (by simp), if_pos ⟨hris, by omega⟩, Option.bind_some]
      have his : atIs l xk = (decide (atN l xk < l.length) && (kAt l (atN l xk) == xk)) := rfl
      generalize atN l xk = c at h0 h5 hle his ⊢
      generalize atIs l xk = is' at his ⊢
      simp only [show ¬ (true = false ∧ is' = false) from fun h => by simp at h, if_false]
      have main : ∀ g : Nat, g ≤ 1 → c + g ≤ l.length → (∀ i, c + g ≤ i → i < l.length → xk < kAt l i) → assartlaw04_NodePuts.j1 99 true (c : Int) (g : Int) true l xk xv = some true := by
        intro g hg hcg hup
        rw [show (99 : Nat) = 98 + 1 from rfl]
        simp only [assartlaw04_NodePuts.j1]
        have hw : wrap64 ((l.length : Int) - (g : Int)) = (l.length : Int) - (g : Int) := by unfold wrap64; omega
        rw [if_neg (by omega), hw, decide_eq_false (by omega)]
        rw [show (98 : Nat) = 97 + 1 from rfl]
        simp only [assartlaw04_NodePuts.j2]
        rw [if_neg (by simp), with_val l [⟨xk, xv⟩] c g hcg (by omega) (by simp), Option.bind_some]
        have hwl : (l.take c ++ [(⟨xk, xv⟩ : S78)] ++ l.drop (c + g)).length = l.length - g + 1 := by
          rw [List.length_append, List.length_append, List.length_take, List.length_drop]
          simp
          omega
        have hwu : Up (l.take c ++ [(⟨xk, xv⟩ : S78)] ++ l.drop (c + g)) := by
          unfold Up
          rw [List.append_assoc, List.pairwise_append]
          refine ⟨List.Pairwise.sublist (List.take_sublist c l) hu, ?_, ?_⟩
          · rw [List.singleton_append, List.pairwise_cons]
            refine ⟨fun y hy => ?_, List.Pairwise.sublist (List.drop_sublist _ l) hu⟩
            obtain ⟨i, hi, rfl⟩ := List.getElem_of_mem hy
            rw [List.length_drop] at hi
            have := hup (c + g + i) (by omega) (by omega)
            unfold kAt at this
            rw [rd_eq l _ (by omega)] at this
            simpa using this
          · intro a ha b hb
            obtain ⟨i, hi, rfl⟩ := List.getElem_of_mem ha
            rw [List.length_take] at hi
            have hlow := h0 i (by omega)
            unfold kAt at hlow
            rw [rd_eq l i (by omega)] at hlow
            have ea : (l.take c)[i] = l[i] := by simp
            rw [ea]
            rcases List.mem_append.1 hb with hb | hb
            · simp at hb
              rw [hb]
              exact hlow
            · obtain ⟨m, hm, rfl⟩ := List.getElem_of_mem hb
              rw [List.length_drop] at hm
              have hhi := hup (c + g + m) (by omega) (by omega)
              unfold kAt at hhi
              rw [rd_eq l _ (by omega)] at hhi
              have eb : (l.drop (c + g))[m] = l[c + g + m] := by simp
              rw [eb]
              omega
        have hwf : Fit (l.take c ++ [(⟨xk, xv⟩ : S78)] ++ l.drop (c + g)) := by
          intro y hy
          rcases List.mem_append.1 hy with hy | hy
          · rcases List.mem_append.1 hy with hy | hy
            · exact hf y (List.mem_of_mem_take hy)
            · simp at hy
              rw [hy]
              show 0 ≤ xk ∧ xk ≤ 2147483647 ∧ 0 ≤ xv ∧ xv ≤ 2147483647
              omega
          · exact hf y (List.mem_of_mem_drop hy)
        generalize l.take c ++ [(⟨xk, xv⟩ : S78)] ++ l.drop (c + g) = w at hwl hwu hwf
        rw [split_val 5 w 97 (by omega) (by omega) (by omega), Option.bind_some]
        exact puts_loop w hwu hwf (by omega) (by omega) 97 (by omega)
      cases is' with
      | true =>
        have hb := his.symm
        rw [Bool.and_eq_true] at hb
        have hc := of_decide_eq_true hb.1
        have he : kAt l c = xk := by simpa using hb.2
        rw [if_pos rfl]
        exact main 1 (Nat.le_refl _) (by omega) (fun i hi hil => by have := up_get hu c i (by omega) hil; omega)
      | false =>
        rw [if_neg (by simp)]
        refine main 0 (by omega) (by omega) (fun i hi hil => ?_)
        have h6 := h5 i (by omega) hil
        have hne : kAt l c ≠ xk := by
          rw [decide_eq_true (by omega : c < l.length), Bool.true_and] at his
          have := his.symm
          simpa using this
        by_cases e : i = c
        · subst e; omega
        · have := up_get hu c i (by omega) hil
          have := h5 c (by omega) (by omega)
          omega
  · rw [if_neg (by simpa using hr)]
    exact early
end Go.Proofs.Ythjnkapkhphpeaa.Pure
end
section
namespace Go.Proofs.Ythjnkapkhphpeaa.nodePuts
open Go.ChangeShapes Go.WideShapes Go.ChangeAt Go.RowKit Go.Proofs.Ythjnkapkhphpeaa.P Go.Proofs.YthjnkapkhphpeaaW.PrintWords Go.Proofs.YthjnkapkhphpeaaW.PrintLast Go.Proofs.YthjnkapkhphpeaaW.PrintMore
open Go.ChangeMaps (open_string shut_string)
set_option linter.unusedVariables false
set_option linter.unusedSimpArgs false
theorem own : ownKnob Try.prog.godebug = none := by kernel_rfl
theorem laidOut : laidOutB Try.prog = true := by kernel_rfl
set_option maxHeartbeats 1000000 in
set_option maxRecDepth 100000 in
theorem lifted (os : Os) (started : os.Started) (H : Type) (enc : TypeId × Value → H) :
    ReturnsInHanded {} Try.checked os 14 .any (Rows.nodePutsSpec.pre6 enc Try.prog Try.f14 Rows.nodePutsRow.domain false) (Rows.nodePutsSpec.post enc Try.prog Try.f14 false true false false) := by
  refine returnsInHanded_of_change_sized (C := Try.checked) own started (by kernel_rfl) Try.func14
    (ChangeSpec.witness6 (enc := enc) (C := Try.checked) false ⟨#[], #[.agg #[.bool false, .slice none 0 0], .agg #[.int .i64 0, .int .i64 0]], []⟩ 8 (by kernel_rfl) (by kernel_rfl) (by kernel_rfl) (by kernel_rfl)) ?_
  intro W base args ds gs before hval0 hW hcnd hsz0 _
  have hsz : (DataW.weightsEach Try.prog (Try.f14.params.toList ++ Rows.nodePutsSpec.plain.varTypes Try.prog) (ds ++ gs)).all (· ≤ reachBytes) = true := hsz0
  have hval : ∀ (j : Nat) t v, Try.f14.params[j]? = some t → args[j]? = some v → Value.okWide Try.prog W .any base t v := hval0
  have hW' := hW
  obtain ⟨p, q, hA0, hV, rfl, hfz, hnd⟩ := hW
  have hA : DataW.TrodAll enc Try.prog W 0 (fun _ => true) true Try.f14.params.toList args.toList ds p := hA0
  rw [Try.params14] at hA hval hsz
  obtain ⟨v0, vs0, d0, ds0, p0, q0, hargs, rfl, rfl, h0, r0⟩ := trodAll_cons hA
  obtain ⟨v1, vs1, d1, ds1, p1, q1, rfl, rfl, rfl, h1, r1⟩ := trodAll_cons r0
  obtain ⟨rfl, rfl, rfl⟩ := trodAll_nil r1
  obtain rfl : args = #[v0, v1] := by cases args; simp_all
  obtain ⟨rfl, rfl⟩ := trodVars_none hV
  have k0 := h0
  have lt0 : ∀ x ∈ p0, x.block < W.heap.size := by obtain ⟨m, hm⟩ := k0; exact DataW.trod_lt m _ _ _ hm
  have wt0 := weights_at hsz (j := 0) (t := 56) (d := d0) rfl rfl
  obtain ⟨fuel0, hf0⟩ := h0
  obtain ⟨x0, hK0, hok0⟩ := (Opens.struct (f := id) (g := id) (fun _ => rfl) Try.underlying56 rfl (by kernel_rfl) (OpensFs.cons rfl rfl (Opens.bool Try.underlying4 (by kernel_rfl)) rfl (OpensFs.one rfl rfl (Opens.slice (B := 16) Try.underlying54 (by kernel_rfl) (by kernel_rfl) opens78)))).op hf0 wt0
  obtain ⟨cs0, rfl, hsz0⟩ := okWide_struct Try.underlying56 (hval 0 56 v0 rfl rfl)
  obtain ⟨a0_0, l0_1⟩ := x0
  obtain ⟨L0, hL0⟩ : ∃ L, (Value.agg cs0).cells.toList = L := ⟨_, rfl⟩
  rw [hL0] at hK0
  obtain ⟨_, _, rfl, rfl, ⟨A0_1, c0_1, rfl, hc0_1, hr0_1⟩⟩ := hK0
  obtain rfl : cs0 = #[.bool a0_0, .slice A0_1 l0_1.length c0_1] := by have h := hL0; simp [Value.cells] at h; cases cs0; simp_all
  obtain ⟨o0_0, o0_1⟩ := hok0
  have k1 := h1
  have lt1 : ∀ x ∈ p1, x.block < W.heap.size := by obtain ⟨m, hm⟩ := k1; exact DataW.trod_lt m _ _ _ hm
  have wt1 := weights_at hsz (j := 1) (t := 78) (d := d1) rfl rfl
  obtain ⟨fuel1, hf1⟩ := h1
  obtain ⟨x1, hK1, hok1⟩ := (Opens.struct (f := id) (g := id) (fun _ => rfl) Try.underlying78 rfl (by kernel_rfl) (OpensFs.cons rfl rfl (Opens.int Try.underlying3 (by kernel_rfl)) rfl (OpensFs.one rfl rfl (Opens.int Try.underlying3 (by kernel_rfl))))).op hf1 wt1
  obtain ⟨cs1, rfl, hsz1⟩ := okWide_struct Try.underlying78 (hval 1 78 v1 rfl rfl)
  obtain ⟨a1_0, a1_1⟩ := x1
  obtain ⟨L1, hL1⟩ : ∃ L, (Value.agg cs1).cells.toList = L := ⟨_, rfl⟩
  rw [hL1] at hK1
  obtain ⟨_, _, rfl, rfl, rfl⟩ := hK1
  obtain rfl : cs1 = #[.int .i64 a1_0, .int .i64 a1_1] := by have h := hL1; simp [Value.cells] at h; cases cs1; simp_all
  obtain ⟨o1_0, o1_1⟩ := hok1
  clear hA0 hval0 hsz0 hsz
  obtain ⟨k, h⟩ := Pure.NodePuts a0_0 l0_1 a1_0 a1_1 o0_1 o1_0 o1_1
  refine (assartlaw04_NodePuts.calls k a0_0 _ _ l0_1 a1_0 a1_1 true W hr0_1 hc0_1 h).mono fun e W' ⟨he, bel0⟩ => ?_
  have bel := bel0
  subst he
  exact ⟨_, rfl, _, _, _, [], _, [], hW', trodAll_mk1 (shut_bool Try.underlying4 _), (trodAll_cons_mk (Below.trod laidOut (by kernel_rfl) (of_decide_eq_true (by kernel_rfl)) k0 bel lt0) (trodAll_cons_mk (Below.trod laidOut (by kernel_rfl) (of_decide_eq_true (by kernel_rfl)) k1 bel lt1) trodAll_mk0)), rfl, bel.frame _, fun h => by cases h⟩
theorem over : Rows.nodePutsRow.holds Try.pinned (OpenSpec.ofChange Rows.nodePutsSpec) :=
  OpenClaim.holds_of_wide 14 Try.f14 rfl rfl rfl rfl rfl rfl rfl ⟨rfl, rfl, rfl, rfl, rfl⟩ rfl rfl rfl rfl rfl (by kernel_rfl) Try.func14 (by kernel_rfl)
    (of_decide_eq_true (by kernel_rfl)) (by unfold Func.isWrapper; first | (rw [if_pos (by decide +kernel)]; kernel_rfl) | (rw [if_neg (by decide +kernel)]; exact ⟨rfl, rfl⟩))
    (fun os started H enc _ => lifted os started H enc)
theorem proved : Rows.NodePutsSaid := over
#print axioms proved
end Go.Proofs.Ythjnkapkhphpeaa.nodePuts
namespace Go.Proofs.Ythjnkapkhphpeaa
/-- The row, under a short name, for the claim. -/
theorem nodePuts_holds : Rows.NodePutsSaid := nodePuts.proved
end Go.Proofs.Ythjnkapkhphpeaa
end
