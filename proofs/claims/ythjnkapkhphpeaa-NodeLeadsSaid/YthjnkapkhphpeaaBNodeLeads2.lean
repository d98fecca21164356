/- Texts of this claim's proof put together: F41, HShown4, F12, HRow, QNodeLeads, F36, F40, F37. -/
import Derived.Test.YthjnkapkhphpeaaBNodeLeads0
import Derived.Test.YthjnkapkhphpeaaBNodeLeads1
import Derived.ChangeArms
import Derived.DataReads
import Derived.DataElems
import Derived.SizedLaws
section
/- node.With: items with others instead of some (drafted by xprint.py, mended by mend.py). -/
namespace Go.Proofs.Ythjnkapkhphpeaa.P
open Go.RowKit Go.Proofs.YthjnkapkhphpeaaW.PrintWords Go.Proofs.YthjnkapkhphpeaaW.PrintLast Go.Proofs.YthjnkapkhphpeaaW.PrintMore
attribute [local go_sem] max2_int min2_int max_two min_two max_three min_three max_four min_four
set_option linter.unusedVariables false
set_option linter.unusedSimpArgs false

/-! ### node_With: function 41 -/
def node_With.f (l0 : List (S78)) (a1 : Int) (a2 : Int) (l3 : List (S78)) : Option ((List (S78))) := if 0 ≤ a1 then (if a1 ≤ (l0.length : Int) then (if 0 ≤ (wrap64 (a1 + a2)) then (if (wrap64 (a1 + a2)) ≤ (l0.length : Int) then ((api_Item_59.f (([(l0.take (a1 : Int).toNat), l3, (l0.drop ((wrap64 (a1 + a2)) : Int).toNat)] : List (List (S78))))).bind fun t197 => (some t197)) else (none)) else (none)) else (none)) else (none)
def node_With.T1 : Bool × List (List Nat × List Nat) := (true, [([], []), ([], []), ([], []), ([0, 1, 2], [0, 1, 2]), ([], []), ([], []), ([], []), ([], []), ([6, 7], [6, 7]), ([5, 8], [5, 8]), ([3, 4, 9], [3, 4, 9]), ([10], [10]), ([11, 11, 0, 1, 2, 3, 4, 5, 6, 7, 8, 9, 10, 11], [11])])
def node_With.B1 : List Nat := [0, 0, 0, 7, 0, 0, 0, 0, 192, 480, 1023, 2047, 4095]
theorem node_With.tab1 : rtab .any (opsOf Try.f41 1) = node_With.T1 := by kernel_rfl
theorem node_With.bits1 : waitsOk node_With.T1.2 node_With.B1 = true := by kernel_rfl
set_option maxHeartbeats 8000000 in
set_option maxRecDepth 100000 in
theorem node_With.calls (P0_ : Nat → Prop) (A0 : Option Addr) (c0 : Nat) (l0 : List (S78)) (a1 : Int) (a2 : Int) (P3_ : Nat → Prop) (A3 : Option Addr) (c3 : Nat) (l3 : List (S78)) (r : List (S78)) (w : World) (hs0 : Kd.V k78 78 w w.heap.size (fun k_ => P0_ k_) (.slice A0 l0.length c0) l0) (hs3 : Kd.V k78 78 w w.heap.size (fun k_ => P3_ k_) (.slice A3 l3.length c3) l3) (h : node_With.f l0 a1 a2 l3 = some r) :
    Calls Try.prog 41 #[.slice A0 l0.length c0, .int .i64 a1, .int .i64 a2, .slice A3 l3.length c3] w fun e w' => ∃ v0_ : Value, e = .returned (v0_) ∧ Kd.R k78 78 w' w.heap.size (fun k_ => (w.heap.size ≤ k_)) v0_ r ∧ Below w.heap.size w w' := by
  have HO0 := Aside0.mk (show Kd.V k78 78 w w.heap.size (fun k_ => ((P0_ k_ ∨ P3_ k_) ∨ w.heap.size ≤ k_)) (.slice A0 l0.length c0) l0 from Kd.V_mono hs0 (fun k_ hk => .inl (.inl hk)))
  have HO3 := Aside0.mk (show Kd.V k78 78 w w.heap.size (fun k_ => ((P0_ k_ ∨ P3_ k_) ∨ w.heap.size ≤ k_)) (.slice A3 l3.length c3) l3 from Kd.V_mono hs3 (fun k_ hk => .inl (.inr hk)))
  have HB := Aside0.mk (Below.refl w.heap.size w)
  have H : (if 0 ≤ a1 then (if a1 ≤ (l0.length : Int) then (if 0 ≤ (wrap64 (a1 + a2)) then (if (wrap64 (a1 + a2)) ≤ (l0.length : Int) then ((api_Item_59.f (([(l0.take (a1 : Int).toNat), l3, (l0.drop ((wrap64 (a1 + a2)) : Int).toNat)] : List (List (S78))))).bind fun t197 => (some t197)) else (none)) else (none)) else (none)) else (none)) = some r := h
  clear h
  by_cases c5 : 0 ≤ a1
  · rw [if_pos c5] at H
    have c5b0 := eq_true c5
    have c5b1 : decide (0 ≤ a1) = true := decide_eq_true c5
    clear c5
    by_cases c6 : a1 ≤ (l0.length : Int)
    · rw [if_pos c6] at H
      have c6b0 := eq_true c6
      have c6b1 : decide (a1 ≤ (l0.length : Int)) = true := decide_eq_true c6
      clear c6
      obtain ⟨y184, hy184⟩ : ∃ y_ : List (S78), y_ = (l0.take (a1 : Int).toNat) := ⟨_, rfl⟩
      replace H : (if 0 ≤ (wrap64 (a1 + a2)) then (if (wrap64 (a1 + a2)) ≤ (l0.length : Int) then ((api_Item_59.f (([y184, l3, (l0.drop ((wrap64 (a1 + a2)) : Int).toNat)] : List (List (S78))))).bind fun t197 => (some t197)) else (none)) else (none)) = some r := by first | (rw [hy184]; with_reducible exact H) | (have H2_ := (Option.bind_some _ _).symm.trans H; rw [hy184]; with_reducible exact H2_) | (have H2_ := (Option.bind_some _ _).symm.trans H; with_reducible exact H2_) | with_reducible exact H | (rw [hy184]; exact H) | exact H
      have Ny184 := Aside0.mk hy184
      clear hy184
      obtain ⟨ji7, hji7⟩ : ∃ j_ : Int, (wrap64 (a1 + a2)) = j_ := ⟨_, rfl⟩
      replace H : (if 0 ≤ (ji7) then (if (ji7) ≤ (l0.length : Int) then ((api_Item_59.f (([y184, l3, (l0.drop ((ji7) : Int).toNat)] : List (List (S78))))).bind fun t197 => (some t197)) else (none)) else (none)) = some r := by first | (rw [hji7] at H; exact H) | (simp only [hji7] at H ⊢; exact H)
      have hji7w : (IntKind.i64.wrap (a1 + a2)) = ji7 := (i64_w _).trans hji7
      by_cases c8 : 0 ≤ (ji7)
      · rw [if_pos c8] at H
        have c8b0 := eq_true c8
        have c8b1 : decide (0 ≤ (ji7)) = true := decide_eq_true c8
        clear c8
        by_cases c9 : (ji7) ≤ (l0.length : Int)
        · rw [if_pos c9] at H
          have c9b0 := eq_true c9
          have c9b1 : decide ((ji7) ≤ (l0.length : Int)) = true := decide_eq_true c9
          clear c9
          obtain ⟨y189, hy189⟩ : ∃ y_ : List (S78), y_ = (l0.drop ((ji7) : Int).toNat) := ⟨_, rfl⟩
          replace H : ((api_Item_59.f (([y184, l3, y189] : List (List (S78))))).bind fun t197 => (some t197)) = some r := by first | (rw [hy189]; with_reducible exact H) | (have H2_ := (Option.bind_some _ _).symm.trans H; rw [hy189]; with_reducible exact H2_) | (have H2_ := (Option.bind_some _ _).symm.trans H; with_reducible exact H2_) | with_reducible exact H | (rw [hy189]; exact H) | exact H
          have Ny189 := Aside0.mk hy189
          clear hy189
          obtain ⟨y194, hy194⟩ : ∃ y_ : List (List (S78)), y_ = (([y184, l3, y189] : List (List (S78)))) := ⟨_, rfl⟩
          replace H : ((api_Item_59.f y194).bind fun t197 => (some t197)) = some r := by first | (rw [hy194]; with_reducible exact H) | (have H2_ := (Option.bind_some _ _).symm.trans H; rw [hy194]; with_reducible exact H2_) | (have H2_ := (Option.bind_some _ _).symm.trans H; with_reducible exact H2_) | with_reducible exact H | (rw [hy194]; exact H) | exact H
          have Ny194 := Aside0.mk hy194
          clear hy194
          replace H := Option.bind_eq_some_iff.mp H
          obtain ⟨t197, A100, H⟩ := H
          replace H : (some t197) = some r := H
          have A10 := Aside0.mk A100
          clear A100
          obtain rfl := Option.some.inj H
          go_enter Try.func41, Try.ntmps41
          try go_wp2
          have n0_ := Aside0.mk (Kd.V_drew HO0.out)
          have n1_ := Aside0.mk (Kd.V_drew HO3.out)
          have n2_ := Aside0.mk (below_drew1 HB.out)
          clear HO0
          clear HO3
          clear HB
          have HO0 := n0_
          have HO3 := n1_
          have HB := n2_
          clear n0_ n1_ n2_
          have q12 : (a1 : Int) ≤ ((l0.length : Int) : Int) := of_decide_eq_true (by first | (with_reducible assumption) | assumption)
          obtain ⟨i012, hi012, _, hsz12, _⟩ := info_parts info78
          have hroom12 : l0.length ≤ c0 := (Kd.V_reads' HO0.out).2.1
          have hC12 : Kd.F k78 _ _ A0 l0.length l0 := (Kd.V_at (base := w.heap.size) HO0.out).2.2
          have hcut12 := cut_hm (P := Try.prog) 54 78 .i64 Try.underlying54 hi012 A0 l0.length c0 a1 (of_decide_eq_true (by first | (with_reducible assumption) | assumption)) q12 hroom12
          have hr12 := Kd.F_take (m := (a1 : Int).toNat) hC12 (by omega)
          have hy12 : y184.length = (a1 : Int).toNat := (by rw [Ny184.out, List.length_take]; omega)
          rw [← Ny184.out] at hr12
          rw [← hy12] at hcut12
          have HO188 := Aside0.mk (show Kd.V k78 78 _ w.heap.size _ (.slice A0 y184.length y184.length) y184 from Kd.V_mk (by omega) hr12)
          have HC188 := Aside0.mk (show y184.length ≤ y184.length from by omega)
          clear hr12 hC12 hroom12 hi012 hsz12
          have KY12 := Aside0.mk hy12
          clear hy12
          replace q12 := eq_true q12
          have q13 : ((ji7) : Int) ≤ ((l0.length : Int) : Int) := of_decide_eq_true (by first | (with_reducible assumption) | assumption)
          obtain ⟨i013, hi013, _, hsz13, _⟩ := info_parts info78
          have hroom13 : l0.length ≤ c0 := (Kd.V_reads' HO0.out).2.1
          have hC13 : Kd.F k78 _ _ A0 l0.length l0 := (Kd.V_at (base := w.heap.size) HO0.out).2.2
          have q013 : (0 : Int) ≤ ((ji7) : Int) := of_decide_eq_true (by first | (with_reducible assumption) | assumption)
          have hcut13 := cut_from (P := Try.prog) 54 78 .i64 Try.underlying54 hi013 2 hsz13 A0 l0.length c0 (ji7) q013 q13
          have hr13 := Kd.F_cut (m := ((ji7) : Int).toNat) (c := c0) hC13 (by omega) hroom13
          obtain ⟨A13, hA13⟩ : ∃ A1, A1 = (if c0 = ((ji7) : Int).toNat then A0 else (A0 : Option Addr).map (·.add (((ji7) : Int).toNat * 2))) := ⟨_, rfl⟩
          obtain ⟨c13, hc13⟩ : ∃ c1, c1 = c0 - ((ji7) : Int).toNat := ⟨_, rfl⟩
          have hy13 : y189.length = l0.length - ((ji7) : Int).toNat := (by rw [Ny189.out, List.length_drop] <;> omega)
          rw [show (l0).drop ((ji7) : Int).toNat = y189 from Ny189.out.symm] at hr13
          replace hr13 : Kd.F k78 _ _ A13 y189.length y189 := (by rw [hA13]; exact hr13)
          rw [← hy13, ← hA13, ← hc13] at hcut13
          have HO193 := Aside0.mk (show Kd.V k78 78 _ w.heap.size _ (.slice A13 y189.length c13) y189 from Kd.V_mk (by rw [hy13, hc13]; exact Nat.sub_le_sub_right hroom13 _) hr13)
          have HC193 := Aside0.mk (show y189.length ≤ c13 from by rw [hy13, hc13]; exact Nat.sub_le_sub_right hroom13 _)
          clear hr13 hC13 hroom13 hi013 hsz13 hc13
          have KY13 := Aside0.mk hy13
          have KA13 := Aside0.mk hA13
          clear hy13 hA13
          replace q13 := eq_true q13
          refine start_ (n := 13) (S := fun w' => True) (ds := []) #[false, false, false, false, false, false, false, false, false, false, false, false, false] (by kernel_rfl) rfl rfl trivial (fun hHeld => ?_); refine with_tabW node_With.tab1 node_With.bits1 (fun HT_ HW_ => ?_)
          generalize w.drew = w11 at HO0 HO3 HB HO188 HO193 hHeld ⊢
          refine pure_ (i := 0) (N := some 9) (v := ?_) (a' := ?_) #[true, false, false, false, false, false, false, false, false, false, false, false, false] rfl rfl (any_of HT_.out (by kernel_rfl)) (fun _ _ _ h => h) (Or.inl ⟨by rfl, ?_⟩) ?_ ?_
          rotate_left
          · intro w'
            go_simp
            with_reducible rfl
          rotate_left
          · simp only [Act.put, List.setIfInBounds_toArray, List.set_cons_zero, List.set_cons_succ, i64_w, i32_w]
            rfl
          refine pure_ (i := 1) (N := some 10) (v := ?_) (a' := ?_) #[true, true, false, false, false, false, false, false, false, false, false, false, false] rfl rfl (any_of HT_.out (by kernel_rfl)) (fun _ _ _ h => h) (Or.inl ⟨by rfl, ?_⟩) ?_ ?_
          rotate_left
          · intro w'
            go_simp
            with_reducible rfl
          rotate_left
          · simp only [Act.put, List.setIfInBounds_toArray, List.set_cons_zero, List.set_cons_succ, i64_w, i32_w]
            rfl
          refine pure_ (i := 2) (N := some 11) (v := ?_) (a' := ?_) #[true, true, true, false, false, false, false, false, false, false, false, false, false] rfl rfl (any_of HT_.out (by kernel_rfl)) (fun _ _ _ h => h) (Or.inl ⟨by rfl, ?_⟩) ?_ ?_
          rotate_left
          · intro w'
            go_simp
            with_reducible rfl
          rotate_left
          · simp only [Act.put, List.setIfInBounds_toArray, List.set_cons_zero, List.set_cons_succ, i64_w, i32_w]
            rfl
          refine pure_ (i := 3) (N := some 12) (v := ?_) (a' := ?_) #[true, true, true, true, false, false, false, false, false, false, false, false, false] rfl rfl (any_of HT_.out (by kernel_rfl)) (fun _ _ _ h => h) (Or.inl ⟨by rfl, ?_⟩) ?_ ?_
          rotate_left
          · intro w'
            go_simp
            with_reducible rfl
          rotate_left
          · simp only [Act.put, List.setIfInBounds_toArray, List.set_cons_zero, List.set_cons_succ, i64_w, i32_w]
            rfl
          refine pure_ (i := 4) (N := some 13) (v := ?_) (a' := ?_) #[true, true, true, true, true, false, false, false, false, false, false, false, false] rfl rfl (any_of HT_.out (by kernel_rfl)) (fun _ _ _ h => h) (Or.inl ⟨by rfl, ?_⟩) ?_ ?_
          rotate_left
          · intro w'
            go_simp
            with_reducible rfl
          rotate_left
          · simp only [Act.put, List.setIfInBounds_toArray, List.set_cons_zero, List.set_cons_succ, i64_w, i32_w]
            rfl
          refine pure_ (i := 5) (N := some 14) (v := ?_) (a' := ?_) #[true, true, true, true, true, true, false, false, false, false, false, false, false] rfl rfl (any_of HT_.out (by kernel_rfl)) (fun _ _ _ h => h) (Or.inl ⟨by rfl, ?_⟩) ?_ ?_
          rotate_left
          · intro w'
            go_simp
            with_reducible rfl
          rotate_left
          · simp only [Act.put, List.setIfInBounds_toArray, List.set_cons_zero, List.set_cons_succ, i64_w, i32_w]
            rfl
          refine pure_ (i := 6) (N := some 15) (v := ?_) (a' := ?_) #[true, true, true, true, true, true, true, false, false, false, false, false, false] rfl rfl (any_of HT_.out (by kernel_rfl)) (fun _ _ _ h => h) (Or.inl ⟨by rfl, ?_⟩) ?_ ?_
          rotate_left
          · intro w'
            go_simp
            with_reducible rfl
          rotate_left
          · simp only [Act.put, List.setIfInBounds_toArray, List.set_cons_zero, List.set_cons_succ, i64_w, i32_w]
            rfl
          refine pure_ (i := 7) (N := some 16) (v := ?_) (a' := ?_) #[true, true, true, true, true, true, true, true, false, false, false, false, false] rfl rfl (any_of HT_.out (by kernel_rfl)) (fun _ _ _ h => h) (Or.inl ⟨by rfl, ?_⟩) ?_ ?_
          rotate_left
          · intro w'
            go_simp
            with_reducible rfl
          rotate_left
          · simp only [Act.put, List.setIfInBounds_toArray, List.set_cons_zero, List.set_cons_succ, i64_w, i32_w]
            rfl
          refine pure_ (i := 8) (N := some 17) (v := ?_) (a' := ?_) #[true, true, true, true, true, true, true, true, true, false, false, false, false] rfl rfl (any_of HT_.out (by kernel_rfl)) (fun _ _ _ h => h) (Or.inl ⟨by rfl, ?_⟩) ?_ ?_
          rotate_left
          · intro w'
            go_simp
            with_reducible rfl
          rotate_left
          · simp only [Act.put, List.setIfInBounds_toArray, List.set_cons_zero, List.set_cons_succ, i64_w, i32_w]
            rfl
          refine pure_ (i := 9) (N := some 18) (v := ?_) (a' := ?_) #[true, true, true, true, true, true, true, true, true, true, false, false, false] rfl rfl (any_of HT_.out (by kernel_rfl)) (fun _ _ _ h => h) (Or.inl ⟨by rfl, ?_⟩) ?_ ?_
          rotate_left
          · intro w'
            go_simp
            with_reducible rfl
          rotate_left
          · simp only [Act.put, List.setIfInBounds_toArray, List.set_cons_zero, List.set_cons_succ, i64_w, i32_w]
            rfl
          refine one_ (i := 10) (N := some 19) #[true, true, true, true, true, true, true, true, true, true, true, false, false] rfl rfl (one_of HT_.out (by kernel_rfl)) (by decide) (fun K hK => ?_)
          refine Kd.N_lit_step (Kd.slice 78 k78) _ 54 ?hg (N' := 19) ?hd (xs := ([y184, l3, y189] : List (List (S78)))) (inner := [.slice A0 y184.length y184.length, .slice A3 l3.length c3, .slice A13 y189.length c13]) (ok := (fun k_ => ((P0_ k_ ∨ P3_ k_) ∨ w.heap.size ≤ k_))) (okp := (fun k_ => ((P0_ k_ ∨ P3_ k_) ∨ w.heap.size ≤ k_))) ?hr ?hp (fun _ hk => hk) ((show ∀ k_, w11.heap.size ≤ k_ → (fun k_ => ((P0_ k_ ∨ P3_ k_) ∨ w.heap.size ≤ k_)) k_ from fun k_ hk => (.inr (Nat.le_trans (below_size (by repeat (first | (with_reducible first | exact HB.out | apply below_alloc | apply pw_below_drewN | apply below_drew1) | exact HB.out))) hk))) _ (Nat.le_refl _)) (Below.refl _ _) (Nat.le_refl _) (by simp) ?_; (case hd => rfl); (case hg => rfl); (case hr => first | (go_simp; done) | (go_simp; rfl)); (case hp => exact (Reps.one (show Kd.FK (Kd.slice 78 k78) _ _ y184 [.slice A0 y184.length y184.length] from (Kd.FK_slice_mk (Kd.V_reads' (Kd.V_mono (ok' := (fun k_ => ((P0_ k_ ∨ P3_ k_) ∨ w.heap.size ≤ k_))) (HO188.out) (fun k_ hk => hk))).2.1 (Kd.V_F (Kd.V_mono (ok' := (fun k_ => ((P0_ k_ ∨ P3_ k_) ∨ w.heap.size ≤ k_))) (HO188.out) (fun k_ hk => hk))))) (Reps.one (show Kd.FK (Kd.slice 78 k78) _ _ l3 [.slice A3 l3.length c3] from (Kd.FK_slice_mk (Kd.V_reads' (Kd.V_mono (ok' := (fun k_ => ((P0_ k_ ∨ P3_ k_) ∨ w.heap.size ≤ k_))) (HO3.out) (fun k_ hk => hk))).2.1 (Kd.V_F (Kd.V_mono (ok' := (fun k_ => ((P0_ k_ ∨ P3_ k_) ∨ w.heap.size ≤ k_))) (HO3.out) (fun k_ hk => hk))))) (Reps.one (show Kd.FK (Kd.slice 78 k78) _ _ y189 [.slice A13 y189.length c13] from (Kd.FK_slice_mk (Kd.V_reads' (Kd.V_mono (ok' := (fun k_ => ((P0_ k_ ∨ P3_ k_) ∨ w.heap.size ≤ k_))) (HO193.out) (fun k_ hk => hk))).2.1 (Kd.V_F (Kd.V_mono (ok' := (fun k_ => ((P0_ k_ ∨ P3_ k_) ∨ w.heap.size ≤ k_))) (HO193.out) (fun k_ hk => hk))))) (Reps.none _ _)))))
          intro v195 w14 ho15 hb hg_ hnew_
          clear hg_ hnew_
          (first | rw [← Ny194.out] at ho15 | (simp only [Int.reduceToNat] at ho15; rw [← Ny194.out] at ho15))
          have n0_ := Aside0.mk (Kd.V_elder' (by (with_reducible repeat (first | apply Kd.V_alloc | apply Kd.V_drewN | apply Kd.V_drew)); exact HO0.out) (Kd.N_base ho15) hb)
          have n1_ := Aside0.mk (Kd.V_elder' (by (with_reducible repeat (first | apply Kd.V_alloc | apply Kd.V_drewN | apply Kd.V_drew)); exact HO3.out) (Kd.N_base ho15) hb)
          have n2_ := Aside0.mk (Kd.V_elder' (by (with_reducible repeat (first | apply Kd.V_alloc | apply Kd.V_drewN | apply Kd.V_drew)); exact HO188.out) (Kd.N_base ho15) hb)
          have n3_ := Aside0.mk (Kd.V_elder' (by (with_reducible repeat (first | apply Kd.V_alloc | apply Kd.V_drewN | apply Kd.V_drew)); exact HO193.out) (Kd.N_base ho15) hb)
          have n4_ := Aside0.mk (Kd.N_lower ho15 (below_size (by repeat (first | (with_reducible first | exact HB.out | apply below_alloc | apply pw_below_drewN | apply below_drew1) | exact HB.out))))
          have n5_ := Aside0.mk (below_step (by repeat (first | (with_reducible first | exact HB.out | apply below_alloc | apply pw_below_drewN | apply below_drew1) | exact HB.out)) hb)
          clear HO0
          clear HO3
          clear HO188
          clear HO193
          clear HB
          have HO0 := n0_
          have HO3 := n1_
          have HO188 := n2_
          have HO193 := n3_
          have HO196 := n4_
          have HB := n5_
          clear n0_ n1_ n2_ n3_ n4_ n5_
          clear hb ho15
          obtain ⟨Ao16, co16, eo16⟩ := Kd.N_slice HO196.out
          (first | subst eo16 | (injection eo16 with f1_ f2_ f3_; have f4_ := f1_.symm; have f5_ := f3_.symm; clear f1_ f2_ f3_; subst f4_; subst f5_))
          refine hK.out _ _ trivial (fun hHeld => ?_)
          clear hK K
          refine norm_ (a' := ?_) ?_ ?_
          rotate_left
          · show Act.put _ (some 19) _ = _
            simp only [Act.put, List.setIfInBounds_toArray, List.set_cons_zero, List.set_cons_succ, i64_w, i32_w]
            rfl
          refine one_ (i := 11) (N := some 20) #[true, true, true, true, true, true, true, true, true, true, true, true, false] rfl rfl (one_of HT_.out (by kernel_rfl)) (by decide) (fun K hK => ?_)
          refine goes_ Try.func59 (by kernel_rfl) rfl #[.slice Ao16 y194.length co16] (by rfl) rfl rfl (by (try simp only [List.map_toArray, List.map_cons, List.map_nil]); first | done | rfl | (simp only [List.length_drop, List.length_take]; rfl)) ?_
          with_reducible refine (api_Item_59.calls _ _ y194 t197 _ ?side1 ?side2 A10.out).mono ?_
          (case side1 => repeat (first | exact (Kd.N_reads' HO196.out).2.2 | (with_reducible refine Kd.C_alloc ?_ _) | (with_reducible refine Kd.C_drewN ?_ _) | (with_reducible refine Kd.C_drew ?_)))
          (case side2 => exact (Kd.N_reads' HO196.out).2.1)
          rintro e w17 ⟨v198, rfl, ho0, hb⟩
          refine ⟨_, rfl, ?_⟩
          have n0_ := Aside0.mk (Kd.V_elder' (by (with_reducible repeat (first | apply Kd.V_alloc | apply Kd.V_drewN | apply Kd.V_drew)); exact HO0.out) (Kd.R_base ho0) hb)
          have n1_ := Aside0.mk (Kd.V_elder' (by (with_reducible repeat (first | apply Kd.V_alloc | apply Kd.V_drewN | apply Kd.V_drew)); exact HO3.out) (Kd.R_base ho0) hb)
          have n2_ := Aside0.mk (Kd.V_elder' (by (with_reducible repeat (first | apply Kd.V_alloc | apply Kd.V_drewN | apply Kd.V_drew)); exact HO188.out) (Kd.R_base ho0) hb)
          have n3_ := Aside0.mk (Kd.V_elder' (by (with_reducible repeat (first | apply Kd.V_alloc | apply Kd.V_drewN | apply Kd.V_drew)); exact HO193.out) (Kd.R_base ho0) hb)
          have n4_ := Aside0.mk (Kd.N_elder' (by (with_reducible repeat (first | apply Kd.N_alloc | apply Kd.N_drewN | apply Kd.N_drew)); exact HO196.out) (Kd.R_base ho0) hb)
          have n5_ := Aside0.mk (Kd.R_lower (Kd.R_newM (M := fun k_ => (w.heap.size ≤ k_)) ho0 (below_size (by repeat (first | (with_reducible first | exact HB.out | apply below_alloc | apply pw_below_drewN | apply below_drew1) | exact HB.out))) (fun k_ h_ => h_)) (below_size (by repeat (first | (with_reducible first | exact HB.out | apply below_alloc | apply pw_below_drewN | apply below_drew1) | exact HB.out))))
          have n6_ := Aside0.mk (below_step (by repeat (first | (with_reducible first | exact HB.out | apply below_alloc | apply pw_below_drewN | apply below_drew1) | exact HB.out)) hb)
          clear HO0
          clear HO3
          clear HO188
          clear HO193
          clear HO196
          clear HB
          have HO0 := n0_
          have HO3 := n1_
          have HO188 := n2_
          have HO193 := n3_
          have HO196 := n4_
          have HO199 := n5_
          have HB := n6_
          clear n0_ n1_ n2_ n3_ n4_ n5_ n6_
          (try clear hb)
          (try clear hb2)
          (try clear hk)
          (try clear hi)
          (try clear ho0)
          refine hK.out _ _ trivial (fun hHeld => ?_)
          clear hK K
          refine norm_ (a' := ?_) ?_ ?_
          rotate_left
          · show Act.put _ (some 20) _ = _
            simp only [Act.put, List.setIfInBounds_toArray, List.set_cons_zero, List.set_cons_succ, i64_w, i32_w]
            rfl
          refine pure_ (i := 12) (N := some 8) (v := ?_) (a' := ?_) #[true, true, true, true, true, true, true, true, true, true, true, true, true] rfl rfl (any_of HT_.out (by kernel_rfl)) (fun _ _ _ h => h) (Or.inl ⟨by rfl, ?_⟩) ?_ ?_
          rotate_left
          · intro w'
            go_simp
            with_reducible rfl
          rotate_left
          · simp only [Act.put, List.setIfInBounds_toArray, List.set_cons_zero, List.set_cons_succ, i64_w, i32_w]
            rfl
          refine done_ (done_of HT_.out (by kernel_rfl)) ?_
          try go_wp2
          go_ret
          exact ⟨_, by first | rfl | (simp [errW_none, errW_some] <;> rfl) | (simp only [← hji7]; first | rfl | (simp [errW_none, errW_some] <;> rfl)) | (simp [*, errW_none, errW_some] <;> rfl), by (with_reducible repeat (first | apply Kd.R_alloc | apply Kd.R_drewN | apply Kd.R_drew)); exact Kd.R_mono HO199.out (fun _ hk => hk.1), by repeat (first | (with_reducible first | exact HB.out | apply below_alloc | apply pw_below_drewN | apply below_drew1) | exact HB.out)⟩
        · rw [if_neg c9] at H
          exact absurd H (by simp)
      · rw [if_neg c8] at H
        exact absurd H (by simp)
    · rw [if_neg c6] at H
      exact absurd H (by simp)
  · rw [if_neg c5] at H
    exact absurd H (by simp)

end Go.Proofs.Ythjnkapkhphpeaa.P
end
section
/- assartlaw04.shown: the document's example: the walk (drafted by xprint.py, cut to its one way by onepath.py). -/
namespace Go.Proofs.Ythjnkapkhphpeaa.P
open Go.RowKit Go.Proofs.YthjnkapkhphpeaaW.PrintWords Go.Proofs.YthjnkapkhphpeaaW.PrintLast Go.Proofs.YthjnkapkhphpeaaW.PrintMore
attribute [local go_sem] max2_int min2_int max_two min_two max_three min_three max_four min_four
set_option linter.unusedVariables false
set_option linter.unusedSimpArgs false

/-! ### assartlaw04_shown: function 26 -/
def assartlaw04_shown.g (k : Nat)  : Option (Bool) := (some (([(⟨1, 0⟩ : S78), (⟨2, 0⟩ : S78), (⟨3, 0⟩ : S78), (⟨4, 0⟩ : S78), (⟨5, 9⟩ : S78)] : List (S78)) : List (S78))).bind fun y200 => ((node_Split.f k y200).bind fun t203 => (if 3 ≤ (y200.length : Int) then ((some (y200.drop 3 : List (S78))).bind fun y206 => ((node_Print.f k true y206).bind fun bt212 => ((node_Parse.f k bt212.1).bind fun bt214 => ((node_At.f true y206 5).bind fun bt220 => ((node_With.f y200 1 3 ([] : List (S78))).bind fun t222 => (if (t203.length : Int) = 2 then (if 0 < (t203.length : Int) then (if ((rd_L7 t203 0).length : Int) = 3 then (if 1 < (t203.length : Int) then (if ((rd_L7 t203 1).length : Int) = 2 then (if bt212.2 = 0 then (if bt214.2.2 = 0 then ((node_Same.f k true y206 bt214.1 bt214.2.1).bind fun t227 => (if t227 = true then (if bt220.1 = 1 then (if bt220.2 = true then ((node_Right.f k true y206).bind fun t228 => (if t228 = true then (if (t222.length : Int) = 2 then (if 1 < (t222.length : Int) then (some (((rd_T78 t222 1).f0) == 5)) else (none)) else (some false)) else (some false))) else (some false)) else (some false)) else (some false))) else (some false)) else (some false)) else (some false)) else (none)) else (some false)) else (none)) else (some false))))))) else (none)))
theorem assartlaw04_shown.mono : ∀ k, LeO (assartlaw04_shown.g k ) (assartlaw04_shown.g (k + 1) ) := by
  intro  k
  unfold assartlaw04_shown.g
  repeat' first
      | (with_reducible exact node_Parse.mono _ _)
      | (with_reducible exact node_Print.mono _ _ _)
      | (with_reducible exact node_Right.mono _ _ _)
      | (with_reducible exact node_Same.mono _ _ _ _ _)
      | (with_reducible exact node_Split.mono _ _)
      | (with_reducible exact LeO.refl _)
      | (with_reducible exact LeO.none _)
      | (with_reducible refine LeO.ite ?_ ?_)
      | (with_reducible refine LeO.bind ?_ (fun _ => ?_))
      | exact node_Parse.mono _ _
      | exact node_Print.mono _ _ _
      | exact node_Right.mono _ _ _
      | exact node_Same.mono _ _ _ _ _
      | exact node_Split.mono _ _
      | exact LeO.none _
      | refine LeO.ite ?_ ?_
      | refine LeO.bind ?_ (fun _ => ?_)
set_option maxHeartbeats 8000000 in
set_option maxRecDepth 100000 in
theorem assartlaw04_shown.walk (k : Nat)  (r : Bool) (w : World) (h : assartlaw04_shown.g k  = some r) (hr : r = true) :
    Calls Try.prog 26 #[] w fun e w' => e = .returned (.bool r) ∧ Below w.heap.size w w' := by
  have hu78 := Try.underlying78
  have hu56 := Try.underlying56
  have HB := Aside0.mk (Below.refl w.heap.size w)
  have H : ((some (([(⟨1, 0⟩ : S78), (⟨2, 0⟩ : S78), (⟨3, 0⟩ : S78), (⟨4, 0⟩ : S78), (⟨5, 9⟩ : S78)] : List (S78)) : List (S78))).bind fun y200 => ((node_Split.f k y200).bind fun t203 => (if 3 ≤ (y200.length : Int) then ((some (y200.drop 3 : List (S78))).bind fun y206 => ((node_Print.f k true y206).bind fun bt212 => ((node_Parse.f k bt212.1).bind fun bt214 => ((node_At.f true y206 5).bind fun bt220 => ((node_With.f y200 1 3 ([] : List (S78))).bind fun t222 => (if (t203.length : Int) = 2 then (if 0 < (t203.length : Int) then (if ((rd_L7 t203 0).length : Int) = 3 then (if 1 < (t203.length : Int) then (if ((rd_L7 t203 1).length : Int) = 2 then (if bt212.2 = 0 then (if bt214.2.2 = 0 then ((node_Same.f k true y206 bt214.1 bt214.2.1).bind fun t227 => (if t227 = true then (if bt220.1 = 1 then (if bt220.2 = true then ((node_Right.f k true y206).bind fun t228 => (if t228 = true then (if (t222.length : Int) = 2 then (if 1 < (t222.length : Int) then (some (((rd_T78 t222 1).f0) == 5)) else (none)) else (some false)) else (some false))) else (some false)) else (some false)) else (some false))) else (some false)) else (some false)) else (some false)) else (none)) else (some false)) else (none)) else (some false))))))) else (none)))) = some r := h
  clear h
  obtain ⟨y200, hy200⟩ : ∃ y_ : List (S78), y_ = (([(⟨1, 0⟩ : S78), (⟨2, 0⟩ : S78), (⟨3, 0⟩ : S78), (⟨4, 0⟩ : S78), (⟨5, 9⟩ : S78)] : List (S78))) := ⟨_, rfl⟩
  replace H : ((node_Split.f k y200).bind fun t203 => (if 3 ≤ (y200.length : Int) then ((some (y200.drop 3 : List (S78))).bind fun y206 => ((node_Print.f k true y206).bind fun bt212 => ((node_Parse.f k bt212.1).bind fun bt214 => ((node_At.f true y206 5).bind fun bt220 => ((node_With.f y200 1 3 ([] : List (S78))).bind fun t222 => (if (t203.length : Int) = 2 then (if 0 < (t203.length : Int) then (if ((rd_L7 t203 0).length : Int) = 3 then (if 1 < (t203.length : Int) then (if ((rd_L7 t203 1).length : Int) = 2 then (if bt212.2 = 0 then (if bt214.2.2 = 0 then ((node_Same.f k true y206 bt214.1 bt214.2.1).bind fun t227 => (if t227 = true then (if bt220.1 = 1 then (if bt220.2 = true then ((node_Right.f k true y206).bind fun t228 => (if t228 = true then (if (t222.length : Int) = 2 then (if 1 < (t222.length : Int) then (some (((rd_T78 t222 1).f0) == 5)) else (none)) else (some false)) else (some false))) else (some false)) else (some false)) else (some false))) else (some false)) else (some false)) else (some false)) else (none)) else (some false)) else (none)) else (some false))))))) else (none))) = some r := by first | (rw [hy200]; with_reducible exact H) | (have H2_ := (Option.bind_some _ _).symm.trans H; rw [hy200]; with_reducible exact H2_) | (have H2_ := (Option.bind_some _ _).symm.trans H; with_reducible exact H2_) | with_reducible exact H | (rw [hy200]; exact H) | exact H
  have Ny200 := Aside0.mk hy200
  clear hy200
  replace H := Option.bind_eq_some_iff.mp H
  obtain ⟨t203, A10, H⟩ := H
  replace H : (if 3 ≤ (y200.length : Int) then ((some (y200.drop 3 : List (S78))).bind fun y206 => ((node_Print.f k true y206).bind fun bt212 => ((node_Parse.f k bt212.1).bind fun bt214 => ((node_At.f true y206 5).bind fun bt220 => ((node_With.f y200 1 3 ([] : List (S78))).bind fun t222 => (if (t203.length : Int) = 2 then (if 0 < (t203.length : Int) then (if ((rd_L7 t203 0).length : Int) = 3 then (if 1 < (t203.length : Int) then (if ((rd_L7 t203 1).length : Int) = 2 then (if bt212.2 = 0 then (if bt214.2.2 = 0 then ((node_Same.f k true y206 bt214.1 bt214.2.1).bind fun t227 => (if t227 = true then (if bt220.1 = 1 then (if bt220.2 = true then ((node_Right.f k true y206).bind fun t228 => (if t228 = true then (if (t222.length : Int) = 2 then (if 1 < (t222.length : Int) then (some (((rd_T78 t222 1).f0) == 5)) else (none)) else (some false)) else (some false))) else (some false)) else (some false)) else (some false))) else (some false)) else (some false)) else (some false)) else (none)) else (some false)) else (none)) else (some false))))))) else (none)) = some r := H
  have A1 := Aside0.mk A10
  clear A10
  by_cases c2 : 3 ≤ (y200.length : Int)
  · rw [if_pos c2] at H
    have c2b0 := eq_true c2
    have c2b1 : decide (3 ≤ (y200.length : Int)) = true := decide_eq_true c2
    clear c2
    obtain ⟨y206, hy206⟩ : ∃ y_ : List (S78), y_ = (y200.drop 3) := ⟨_, rfl⟩
    replace H : ((node_Print.f k true y206).bind fun bt212 => ((node_Parse.f k bt212.1).bind fun bt214 => ((node_At.f true y206 5).bind fun bt220 => ((node_With.f y200 1 3 ([] : List (S78))).bind fun t222 => (if (t203.length : Int) = 2 then (if 0 < (t203.length : Int) then (if ((rd_L7 t203 0).length : Int) = 3 then (if 1 < (t203.length : Int) then (if ((rd_L7 t203 1).length : Int) = 2 then (if bt212.2 = 0 then (if bt214.2.2 = 0 then ((node_Same.f k true y206 bt214.1 bt214.2.1).bind fun t227 => (if t227 = true then (if bt220.1 = 1 then (if bt220.2 = true then ((node_Right.f k true y206).bind fun t228 => (if t228 = true then (if (t222.length : Int) = 2 then (if 1 < (t222.length : Int) then (some (((rd_T78 t222 1).f0) == 5)) else (none)) else (some false)) else (some false))) else (some false)) else (some false)) else (some false))) else (some false)) else (some false)) else (some false)) else (none)) else (some false)) else (none)) else (some false)))))) = some r := by first | (rw [hy206]; with_reducible exact H) | (have H2_ := (Option.bind_some _ _).symm.trans H; rw [hy206]; with_reducible exact H2_) | (have H2_ := (Option.bind_some _ _).symm.trans H; with_reducible exact H2_) | with_reducible exact H | (rw [hy206]; exact H) | exact H
    have Ny206 := Aside0.mk hy206
    clear hy206
    replace H := Option.bind_eq_some_iff.mp H
    obtain ⟨⟨t212, t213⟩, A30, H⟩ := H
    replace H : ((node_Parse.f k t212).bind fun bt214 => ((node_At.f true y206 5).bind fun bt220 => ((node_With.f y200 1 3 ([] : List (S78))).bind fun t222 => (if (t203.length : Int) = 2 then (if 0 < (t203.length : Int) then (if ((rd_L7 t203 0).length : Int) = 3 then (if 1 < (t203.length : Int) then (if ((rd_L7 t203 1).length : Int) = 2 then (if t213 = 0 then (if bt214.2.2 = 0 then ((node_Same.f k true y206 bt214.1 bt214.2.1).bind fun t227 => (if t227 = true then (if bt220.1 = 1 then (if bt220.2 = true then ((node_Right.f k true y206).bind fun t228 => (if t228 = true then (if (t222.length : Int) = 2 then (if 1 < (t222.length : Int) then (some (((rd_T78 t222 1).f0) == 5)) else (none)) else (some false)) else (some false))) else (some false)) else (some false)) else (some false))) else (some false)) else (some false)) else (some false)) else (none)) else (some false)) else (none)) else (some false))))) = some r := H
    have A3 := Aside0.mk A30
    clear A30
    replace H := Option.bind_eq_some_iff.mp H
    obtain ⟨⟨t214, t215, t218⟩, A40, H⟩ := H
    replace H : ((node_At.f true y206 5).bind fun bt220 => ((node_With.f y200 1 3 ([] : List (S78))).bind fun t222 => (if (t203.length : Int) = 2 then (if 0 < (t203.length : Int) then (if ((rd_L7 t203 0).length : Int) = 3 then (if 1 < (t203.length : Int) then (if ((rd_L7 t203 1).length : Int) = 2 then (if t213 = 0 then (if t218 = 0 then ((node_Same.f k true y206 t214 t215).bind fun t227 => (if t227 = true then (if bt220.1 = 1 then (if bt220.2 = true then ((node_Right.f k true y206).bind fun t228 => (if t228 = true then (if (t222.length : Int) = 2 then (if 1 < (t222.length : Int) then (some (((rd_T78 t222 1).f0) == 5)) else (none)) else (some false)) else (some false))) else (some false)) else (some false)) else (some false))) else (some false)) else (some false)) else (some false)) else (none)) else (some false)) else (none)) else (some false)))) = some r := H
    have A4 := Aside0.mk A40
    clear A40
    replace H := Option.bind_eq_some_iff.mp H
    obtain ⟨⟨t220, t221⟩, A50, H⟩ := H
    replace H : ((node_With.f y200 1 3 ([] : List (S78))).bind fun t222 => (if (t203.length : Int) = 2 then (if 0 < (t203.length : Int) then (if ((rd_L7 t203 0).length : Int) = 3 then (if 1 < (t203.length : Int) then (if ((rd_L7 t203 1).length : Int) = 2 then (if t213 = 0 then (if t218 = 0 then ((node_Same.f k true y206 t214 t215).bind fun t227 => (if t227 = true then (if t220 = 1 then (if t221 = true then ((node_Right.f k true y206).bind fun t228 => (if t228 = true then (if (t222.length : Int) = 2 then (if 1 < (t222.length : Int) then (some (((rd_T78 t222 1).f0) == 5)) else (none)) else (some false)) else (some false))) else (some false)) else (some false)) else (some false))) else (some false)) else (some false)) else (some false)) else (none)) else (some false)) else (none)) else (some false))) = some r := H
    have A5 := Aside0.mk A50
    clear A50
    replace H := Option.bind_eq_some_iff.mp H
    obtain ⟨t222, A60, H⟩ := H
    replace H : (if (t203.length : Int) = 2 then (if 0 < (t203.length : Int) then (if ((rd_L7 t203 0).length : Int) = 3 then (if 1 < (t203.length : Int) then (if ((rd_L7 t203 1).length : Int) = 2 then (if t213 = 0 then (if t218 = 0 then ((node_Same.f k true y206 t214 t215).bind fun t227 => (if t227 = true then (if t220 = 1 then (if t221 = true then ((node_Right.f k true y206).bind fun t228 => (if t228 = true then (if (t222.length : Int) = 2 then (if 1 < (t222.length : Int) then (some (((rd_T78 t222 1).f0) == 5)) else (none)) else (some false)) else (some false))) else (some false)) else (some false)) else (some false))) else (some false)) else (some false)) else (some false)) else (none)) else (some false)) else (none)) else (some false)) = some r := H
    have A6 := Aside0.mk A60
    clear A60
    by_cases c7 : (t203.length : Int) = 2
    · rw [if_pos c7] at H
      have c7b0 : ((t203.length : Int) == 2) = true := beq_iff_eq.mpr c7
      have c7b1 : ((t203.length : Int) != 2) = false := bne_eq_false_iff_eq.mpr c7
      clear c7
      by_cases c8 : 0 < (t203.length : Int)
      · rw [if_pos c8] at H
        have c8b0 : decide (0 < (t203.length : Int)) = true := decide_eq_true c8
        have c8b1 : decide (0 < t203.length) = true := decide_eq_true (by omega)
        clear c8
        by_cases c9 : ((rd_L7 t203 0).length : Int) = 3
        · rw [if_pos c9] at H
          have c9b0 : (((rd_L7 t203 0).length : Int) == 3) = true := beq_iff_eq.mpr c9
          have c9b1 : (((rd_L7 t203 0).length : Int) != 3) = false := bne_eq_false_iff_eq.mpr c9
          clear c9
          by_cases c10 : 1 < (t203.length : Int)
          · rw [if_pos c10] at H
            have c10b0 : decide (1 < (t203.length : Int)) = true := decide_eq_true c10
            have c10b1 : decide (1 < t203.length) = true := decide_eq_true (by omega)
            clear c10
            by_cases c11 : ((rd_L7 t203 1).length : Int) = 2
            · rw [if_pos c11] at H
              have c11b0 : (((rd_L7 t203 1).length : Int) == 2) = true := beq_iff_eq.mpr c11
              have c11b1 : (((rd_L7 t203 1).length : Int) != 2) = false := bne_eq_false_iff_eq.mpr c11
              clear c11
              by_cases c12 : t213 = 0
              · rw [if_pos c12] at H
                have c12b0 : (t213 == 0) = true := beq_iff_eq.mpr c12
                have c12b1 : (t213 != 0) = false := bne_eq_false_iff_eq.mpr c12
                clear c12
                by_cases c13 : t218 = 0
                · rw [if_pos c13] at H
                  have c13b0 : (t218 == 0) = true := beq_iff_eq.mpr c13
                  have c13b1 : (t218 != 0) = false := bne_eq_false_iff_eq.mpr c13
                  clear c13
                  replace H := Option.bind_eq_some_iff.mp H
                  obtain ⟨t227, A140, H⟩ := H
                  replace H : (if t227 = true then (if t220 = 1 then (if t221 = true then ((node_Right.f k true y206).bind fun t228 => (if t228 = true then (if (t222.length : Int) = 2 then (if 1 < (t222.length : Int) then (some (((rd_T78 t222 1).f0) == 5)) else (none)) else (some false)) else (some false))) else (some false)) else (some false)) else (some false)) = some r := H
                  have A14 := Aside0.mk A140
                  clear A140
                  by_cases c15 : t227 = true
                  · subst c15
                    have H1 : (if t220 = 1 then (if t221 = true then ((node_Right.f k true y206).bind fun t228 => (if t228 = true then (if (t222.length : Int) = 2 then (if 1 < (t222.length : Int) then (some (((rd_T78 t222 1).f0) == 5)) else (none)) else (some false)) else (some false))) else (some false)) else (some false)) = some r := by rw [if_pos rfl] at H; exact H
                    clear H
                    have H := H1
                    clear H1
                    by_cases c16 : t220 = 1
                    · rw [if_pos c16] at H
                      have c16b0 : (t220 == 1) = true := beq_iff_eq.mpr c16
                      have c16b1 : (t220 != 1) = false := bne_eq_false_iff_eq.mpr c16
                      clear c16
                      by_cases c17 : t221 = true
                      · subst c17
                        have H1 : ((node_Right.f k true y206).bind fun t228 => (if t228 = true then (if (t222.length : Int) = 2 then (if 1 < (t222.length : Int) then (some (((rd_T78 t222 1).f0) == 5)) else (none)) else (some false)) else (some false))) = some r := by rw [if_pos rfl] at H; exact H
                        clear H
                        have H := H1
                        clear H1
                        replace H := Option.bind_eq_some_iff.mp H
                        obtain ⟨t228, A180, H⟩ := H
                        replace H : (if t228 = true then (if (t222.length : Int) = 2 then (if 1 < (t222.length : Int) then (some (((rd_T78 t222 1).f0) == 5)) else (none)) else (some false)) else (some false)) = some r := H
                        have A18 := Aside0.mk A180
                        clear A180
                        by_cases c19 : t228 = true
                        · subst c19
                          have H1 : (if (t222.length : Int) = 2 then (if 1 < (t222.length : Int) then (some (((rd_T78 t222 1).f0) == 5)) else (none)) else (some false)) = some r := by rw [if_pos rfl] at H; exact H
                          clear H
                          have H := H1
                          clear H1
                          by_cases c20 : (t222.length : Int) = 2
                          · rw [if_pos c20] at H
                            have c20b0 : ((t222.length : Int) == 2) = true := beq_iff_eq.mpr c20
                            have c20b1 : ((t222.length : Int) != 2) = false := bne_eq_false_iff_eq.mpr c20
                            clear c20
                            by_cases c21 : 1 < (t222.length : Int)
                            · rw [if_pos c21] at H
                              have c21b0 : decide (1 < (t222.length : Int)) = true := decide_eq_true c21
                              have c21b1 : decide (1 < t222.length) = true := decide_eq_true (by omega)
                              clear c21
                              obtain rfl := Option.some.inj H
                              go_enter Try.func26, Try.ntmps26
                              go_wp2_with (first | ((with_reducible refine gate_dst (N := 16) rfl ?_); (try (refine gate_guard (by rfl) ?_; dsimp only)); refine Kd.R_lit k78 _ 78 ?hg (N := 16) ?hd (xs := ([(⟨1, 0⟩ : S78), (⟨2, 0⟩ : S78), (⟨3, 0⟩ : S78), (⟨4, 0⟩ : S78), (⟨5, 9⟩ : S78)] : List (S78))) (inner := [.int .i64 1, .int .i64 0, .int .i64 2, .int .i64 0, .int .i64 3, .int .i64 0, .int .i64 4, .int .i64 0, .int .i64 5, .int .i64 9]) (ok := fun _ => True) (okp := fun _ => True) ?hr ?hp (fun _ hk => hk) trivial (Below.refl _ _) (Nat.le_refl _) (by simp) ?_; (case hd => rfl); (case hg => rfl); (case hr => first | (go_simp; done) | (go_simp; rfl)); (case hp => exact (Reps.c2 (show Kd.M k78 _ _ _ (⟨1, 0⟩ : S78) [.int .i64 1, .int .i64 0] from (k78_mkM _ _ _ (⟨1, 0⟩ : S78) )) (Reps.c2 (show Kd.M k78 _ _ _ (⟨2, 0⟩ : S78) [.int .i64 2, .int .i64 0] from (k78_mkM _ _ _ (⟨2, 0⟩ : S78) )) (Reps.c2 (show Kd.M k78 _ _ _ (⟨3, 0⟩ : S78) [.int .i64 3, .int .i64 0] from (k78_mkM _ _ _ (⟨3, 0⟩ : S78) )) (Reps.c2 (show Kd.M k78 _ _ _ (⟨4, 0⟩ : S78) [.int .i64 4, .int .i64 0] from (k78_mkM _ _ _ (⟨4, 0⟩ : S78) )) (Reps.c2 (show Kd.M k78 _ _ _ (⟨5, 9⟩ : S78) [.int .i64 5, .int .i64 9] from (k78_mkM _ _ _ (⟨5, 9⟩ : S78) )) (Reps.none _ _))))))); intro v201 w22 ho23 hb hg_ hnew_; clear hg_ hnew_; (first | rw [← Ny200.out] at ho23 | (simp only [Int.reduceToNat] at ho23; rw [← Ny200.out] at ho23)); have n0_ := Aside0.mk (Kd.R_lower ho23 (below_size (by repeat (first | (with_reducible first | exact HB.out | apply below_alloc | apply pw_below_drewN | apply below_drew1) | exact HB.out)))); have n1_ := Aside0.mk (below_step (by repeat (first | (with_reducible first | exact HB.out | apply below_alloc | apply pw_below_drewN | apply below_drew1) | exact HB.out)) hb); clear HB; have HO202 := n0_; have HB := n1_; clear n0_ n1_; clear hb ho23; obtain ⟨Ao24, co24, eo24⟩ := Kd.R_slice HO202.out; subst eo24) | ((with_reducible refine gate_callee (f := 38) rfl ?_); refine goesL_ (some 18) rfl rfl Try.func38 (by kernel_rfl) rfl #[.slice Ao24 y200.length co24] rfl (by (try simp only [List.map_toArray, List.map_cons, List.map_nil]); first | done | rfl | (simp only [List.length_drop, List.length_take]; rfl)) ?_; (with_reducible refine (node_Split.calls k (fun k_ => some k_ = (.slice Ao24 y200.length co24 : Value).ownBlock) _ _ y200 t203 _ ?side1 A1.out).mono ?_); (case side1 => exact Kd.R_V (Kd.R_tight rfl (HO202.out))); rintro e w25 ⟨v204, rfl, ho0, hb⟩; refine ⟨_, rfl, ?_⟩; have n0_ := Aside0.mk (Kd.R_below (by (with_reducible repeat (first | apply Kd.R_alloc | apply Kd.R_drewN | apply Kd.R_drew)); exact HO202.out) hb); have n1_ := Aside0.mk (Kd.N_lower (Kd.N_mono (ok' := fun k_ => True) ho0 (fun k_ hk_ => trivial)) (below_size (by repeat (first | (with_reducible first | exact HB.out | apply below_alloc | apply pw_below_drewN | apply below_drew1) | exact HB.out)))); have n2_ := Aside0.mk (below_step (by repeat (first | (with_reducible first | exact HB.out | apply below_alloc | apply pw_below_drewN | apply below_drew1) | exact HB.out)) hb); clear HO202; clear HB; have HO202 := n0_; have HO205 := n1_; have HB := n2_; clear n0_ n1_ n2_; (try clear hb); (try clear hb2); (try clear hk); (try clear hi); (try clear ho0); have q26 : (3 : Int) ≤ ((y200.length : Int) : Int) := of_decide_eq_true (by first | (with_reducible assumption) | assumption); obtain ⟨i026, hi026, _, hsz26, _⟩ := info_parts info78; have hroom26 : y200.length ≤ co24 := (Kd.R_reads' HO202.out).2.1; have hC26 : Kd.F k78 _ _ Ao24 y200.length y200 := (Kd.V_at (base := w.heap.size) (Kd.R_V (Kd.R_apart' (HO202.out) (Kd.N_typed HO205.out) (by decide)))).2.2; have hcut26 := cut_from (P := Try.prog) 54 78 .i64 Try.underlying54 hi026 2 hsz26 Ao24 y200.length co24 3 (by omega) q26; have hr26 := Kd.F_cut (m := (3 : Int).toNat) (c := co24) hC26 (by omega) hroom26; obtain ⟨A26, hA26⟩ : ∃ A1, A1 = (if co24 = (3 : Int).toNat then Ao24 else (Ao24 : Option Addr).map (·.add ((3 : Int).toNat * 2))) := ⟨_, rfl⟩; obtain ⟨c26, hc26⟩ : ∃ c1, c1 = co24 - (3 : Int).toNat := ⟨_, rfl⟩; have hy26 : y206.length = y200.length - (3 : Int).toNat := (by rw [Ny206.out, List.length_drop] <;> omega); rw [show (y200).drop (3 : Int).toNat = y206 from Ny206.out.symm] at hr26; replace hr26 : Kd.F k78 _ _ A26 y206.length y206 := (by rw [hA26]; exact hr26); rw [← hy26, ← hA26, ← hc26] at hcut26; have HO210 := Aside0.mk (show Kd.V k78 78 _ w.heap.size _ (.slice A26 y206.length c26) y206 from Kd.V_mk (by rw [hy26, hc26]; exact Nat.sub_le_sub_right hroom26 _) hr26); have HC210 := Aside0.mk (show y206.length ≤ c26 from by rw [hy26, hc26]; exact Nat.sub_le_sub_right hroom26 _); clear hr26 hC26 hroom26 hi026 hsz26 hc26; have KY26 := Aside0.mk hy26; have KA26 := Aside0.mk hA26; clear hy26 hA26; replace q26 := eq_true q26) | ((with_reducible refine gate_dst (N := 3) rfl ?_); (try (refine gate_guard (by rfl) ?_; dsimp only)); refine box_event ?hg (N := 3) ?hd (cs := #[.bool false, .slice none 0 0]) (t := 56) ?hr ?_; (case hd => rfl); (case hg => rfl); (case hr => first | (go_simp; done) | (go_simp; rfl)); intro gb211 hg w27 hbox hb; have n0_ := Aside0.mk (Kd.R_below (by (with_reducible repeat (first | apply Kd.R_alloc | apply Kd.R_drewN | apply Kd.R_drew)); exact HO202.out) hb); have n1_ := Aside0.mk (Kd.N_below (Kd.N_elderB (by (with_reducible repeat (first | apply Kd.N_alloc | apply Kd.N_drewN | apply Kd.N_drew)); exact HO205.out) gb211 (Nat.le_of_eq hg.symm)) hb); have n2_ := Aside0.mk (Kd.V_below (Kd.V_elderB (by (with_reducible repeat (first | apply Kd.V_alloc | apply Kd.V_drewN | apply Kd.V_drew)); exact HO210.out) gb211 (Nat.le_of_eq hg.symm)) hb); have n3_ := Aside0.mk (below_step (by repeat (first | (with_reducible first | exact HB.out | apply below_alloc | apply pw_below_drewN | apply below_drew1) | exact HB.out)) hb); have n4_ := Aside0.mk (hbox); have n5_ := Aside0.mk ((by rw [hg]; exact (below_size (by repeat (first | (with_reducible first | exact HB.out | apply below_alloc | apply pw_below_drewN | apply below_drew1) | exact HB.out))) : w.heap.size ≤ gb211)); have n6_ := Aside0.mk ((by rw [hg]; exact (below_size (by repeat (first | (with_reducible first | exact HB.out | apply below_alloc | apply pw_below_drewN | apply below_drew1) | exact HB.out))) : w.heap.size ≤ gb211)); clear HO202; clear HO205; clear HO210; clear HB; have HO202 := n0_; have HO205 := n1_; have HO210 := n2_; have HB := n3_; have BK211 := n4_; have GW211 := n5_; have GE211 := n6_; clear n0_ n1_ n2_ n3_ n4_ n5_ n6_; clear hb hbox hg; have hcz28_0 : w27.cell? ⟨gb211, 0, none⟩ = some (.bool false) := (blk_cell BK211.out 0).trans rfl; have hcz28_1 : w27.cell? ⟨gb211, 1, none⟩ = some (.slice none 0 0) := (blk_cell BK211.out 1).trans rfl; have hfz28_0 := blk_frozen BK211.out 0; have hfz28_1 := blk_frozen BK211.out 1) | ((with_reducible refine gate_callee (f := 27) rfl ?_); refine goesL_ (some 24) rfl rfl Try.func27 (by kernel_rfl) rfl #[.agg #[.bool true, .slice A26 y206.length c26]] rfl (by (try simp only [List.map_toArray, List.map_cons, List.map_nil]); first | done | rfl | (simp only [List.length_drop, List.length_take]; rfl)) ?_; (with_reducible refine (node_Print.calls k true _ _ y206 t212 t213 _ ?side1 ?side2 A3.out).mono ?_); (case side1 => refine (Kd.V_reads' (e := 78) (base := w.heap.size) (ok := fun k_ => ((True ∧ some k_ ≠ (v204 : Value).ownBlock) ∧ k_ ≠ gb211)) (n := y206.length) (c := c26) ?_).2.2; exact (by (with_reducible repeat (first | apply Kd.V_alloc | apply Kd.V_drewN | apply Kd.V_drew)); exact (Kd.V_mono (Kd.V_far (p := ⟨gb211, 1, none⟩) (Kd.V_far (p := ⟨gb211, 0, none⟩) (Kd.V_mono HO210.out (fun k_ hk => (⟨hk, hk.2⟩ : _ ∧ k_ ≠ gb211))) (fun _ hk => hk.2) (.bool true)) (fun _ hk => hk.2) (.slice A26 y206.length c26)) (fun _ h_ => h_.1)))); (case side2 => exact (Kd.V_reads' HO210.out).2.1); rintro e w29 ⟨rfl, hb⟩; refine ⟨_, rfl, ?_⟩; have n0_ := Aside0.mk (Kd.R_below (by (with_reducible repeat (first | apply Kd.R_alloc | apply Kd.R_drewN | apply Kd.R_drew)); exact (Kd.R_mono (Kd.R_far (p := ⟨gb211, 1, none⟩) (Kd.R_far (p := ⟨gb211, 0, none⟩) (Kd.R_types HO202.out BK211.out (by decide)) (fun _ hk => hk.2) (.bool true)) (fun _ hk => hk.2) (.slice A26 y206.length c26)) (fun _ h_ => h_.1))) hb); have n1_ := Aside0.mk (Kd.N_below (by (with_reducible repeat (first | apply Kd.N_alloc | apply Kd.N_drewN | apply Kd.N_drew)); exact (Kd.N_mono (Kd.N_far (p := ⟨gb211, 1, none⟩) (Kd.N_far (p := ⟨gb211, 0, none⟩) (Kd.N_mono HO205.out (fun k_ hk => (⟨hk, hk.2⟩ : _ ∧ k_ ≠ gb211))) (fun _ hk => hk.2) (.bool true)) (fun _ hk => hk.2) (.slice A26 y206.length c26)) (fun _ h_ => h_.1))) hb); have n2_ := Aside0.mk (Kd.V_below (by (with_reducible repeat (first | apply Kd.V_alloc | apply Kd.V_drewN | apply Kd.V_drew)); exact (Kd.V_mono (Kd.V_far (p := ⟨gb211, 1, none⟩) (Kd.V_far (p := ⟨gb211, 0, none⟩) (Kd.V_mono HO210.out (fun k_ hk => (⟨hk, hk.2⟩ : _ ∧ k_ ≠ gb211))) (fun _ hk => hk.2) (.bool true)) (fun _ hk => hk.2) (.slice A26 y206.length c26)) (fun _ h_ => h_.1))) hb); have n3_ := Aside0.mk (blk_below (g := gb211) (o := .cells #[.bool true, .slice A26 y206.length c26] 56 (0, 0)) (by (with_reducible repeat (first | refine blk_drewN ?_ _ | refine blk_drew ?_ | refine blk_alloc ?_ _)); refine blk_put (cs := #[.bool true, .slice none 0 0]) ?_ 1 _ rfl; (with_reducible repeat (first | refine blk_drewN ?_ _ | refine blk_drew ?_ | refine blk_alloc ?_ _)); refine blk_put (cs := #[.bool false, .slice none 0 0]) ?_ 0 _ rfl; (with_reducible repeat (first | refine blk_drewN ?_ _ | refine blk_drew ?_ | refine blk_alloc ?_ _)); exact BK211.out) hb); have n4_ := Aside0.mk (below_step (by repeat (first | (with_reducible first | exact HB.out | apply below_alloc | apply pw_below_drewN | apply below_drew1 | refine below_set ?_ GE211.out) | exact HB.out)) hb); clear HO202; clear HO205; clear HO210; clear BK211; clear HB; have HO202 := n0_; have HO205 := n1_; have HO210 := n2_; have BK211 := n3_; have HB := n4_; clear n0_ n1_ n2_ n3_ n4_; (try clear hb); (try clear hb2); (try clear hk); (try clear hi)) | ((with_reducible refine gate_callee (f := 29) rfl ?_); refine goesL_ (some 29) rfl rfl Try.func29 (by kernel_rfl) rfl #[.string t212] rfl (by (try simp only [List.map_toArray, List.map_cons, List.map_nil]); first | done | rfl | (simp only [List.length_drop, List.length_take]; rfl)) ?_; (with_reducible refine (node_Parse.calls k t212 t214 t215 t218 _ A4.out).mono ?_); rintro e w30 ⟨v216, rfl, ho0, hb⟩; refine ⟨_, rfl, ?_⟩; have n0_ := Aside0.mk (Kd.R_elder' (by (with_reducible repeat (first | apply Kd.R_alloc | apply Kd.R_drewN | apply Kd.R_drew)); exact HO202.out) (Kd.R_base ho0) hb); have n1_ := Aside0.mk (Kd.N_elder' (by (with_reducible repeat (first | apply Kd.N_alloc | apply Kd.N_drewN | apply Kd.N_drew)); exact HO205.out) (Kd.R_base ho0) hb); have n2_ := Aside0.mk (Kd.V_elder' (by (with_reducible repeat (first | apply Kd.V_alloc | apply Kd.V_drewN | apply Kd.V_drew)); exact HO210.out) (Kd.R_base ho0) hb); have n3_ := Aside0.mk (Kd.R_lower (Kd.R_new' ho0 (Kd.R_lt (by (with_reducible repeat (first | apply Kd.R_alloc | apply Kd.R_drewN | apply Kd.R_drew)); exact HO202.out))) (below_size (by repeat (first | (with_reducible first | exact HB.out | apply below_alloc | apply pw_below_drewN | apply below_drew1 | refine below_set ?_ GE211.out) | exact HB.out)))); have n4_ := Aside0.mk (blk_below (g := gb211) (o := .cells #[.bool true, .slice A26 y206.length c26] 56 (0, 0)) (by (with_reducible repeat (first | refine blk_drewN ?_ _ | refine blk_drew ?_ | refine blk_alloc ?_ _)); exact BK211.out) hb); have n5_ := Aside0.mk (below_step (by repeat (first | (with_reducible first | exact HB.out | apply below_alloc | apply pw_below_drewN | apply below_drew1 | refine below_set ?_ GE211.out) | exact HB.out)) hb); clear HO202; clear HO205; clear HO210; clear BK211; clear HB; have HO202 := n0_; have HO205 := n1_; have HO210 := n2_; have HO217 := n3_; have BK211 := n4_; have HB := n5_; clear n0_ n1_ n2_ n3_ n4_ n5_; (try clear hb); (try clear hb2); (try clear hk); (try clear hi); (try clear ho0)) | ((with_reducible refine gate_dst (N := 6) rfl ?_); (try (refine gate_guard (by rfl) ?_; dsimp only)); refine box_event ?hg (N := 6) ?hd (cs := #[.bool false, .slice none 0 0]) (t := 56) ?hr ?_; (case hd => rfl); (case hg => rfl); (case hr => first | (go_simp; done) | (go_simp; rfl)); intro gb219 hg w31 hbox hb; have n0_ := Aside0.mk (Kd.R_below (by (with_reducible repeat (first | apply Kd.R_alloc | apply Kd.R_drewN | apply Kd.R_drew)); exact HO202.out) hb); have n1_ := Aside0.mk (Kd.N_below (Kd.N_elderB (by (with_reducible repeat (first | apply Kd.N_alloc | apply Kd.N_drewN | apply Kd.N_drew)); exact HO205.out) gb219 (Nat.le_of_eq hg.symm)) hb); have n2_ := Aside0.mk (Kd.V_below (Kd.V_elderB (by (with_reducible repeat (first | apply Kd.V_alloc | apply Kd.V_drewN | apply Kd.V_drew)); exact HO210.out) gb219 (Nat.le_of_eq hg.symm)) hb); have n3_ := Aside0.mk (Kd.R_below (by (with_reducible repeat (first | apply Kd.R_alloc | apply Kd.R_drewN | apply Kd.R_drew)); exact HO217.out) hb); have n4_ := Aside0.mk (blk_below (g := gb211) (o := .cells #[.bool true, .slice A26 y206.length c26] 56 (0, 0)) (by (with_reducible repeat (first | refine blk_drewN ?_ _ | refine blk_drew ?_ | refine blk_alloc ?_ _)); exact BK211.out) hb); have n5_ := Aside0.mk (below_step (by repeat (first | (with_reducible first | exact HB.out | apply below_alloc | apply pw_below_drewN | apply below_drew1 | refine below_set ?_ GE211.out) | exact HB.out)) hb); have n6_ := Aside0.mk (hbox); have n7_ := Aside0.mk ((by rw [hg]; exact (below_size (by repeat (first | (with_reducible first | exact HB.out | apply below_alloc | apply pw_below_drewN | apply below_drew1 | refine below_set ?_ GE211.out) | exact HB.out))) : w.heap.size ≤ gb219)); have n8_ := Aside0.mk ((by rw [hg]; exact (below_size (by repeat (first | (with_reducible first | exact HB.out | apply below_alloc | apply pw_below_drewN | apply below_drew1 | refine below_set ?_ GE211.out) | exact HB.out))) : w.heap.size ≤ gb219)); have n9_ := Aside0.mk ((by rw [hg]; exact Nat.ne_of_lt (blk_lt (g := gb211) (o := .cells #[.bool true, .slice A26 y206.length c26] 56 (0, 0)) (by (with_reducible repeat (first | refine blk_drewN ?_ _ | refine blk_drew ?_ | refine blk_alloc ?_ _)); exact BK211.out)) : gb211 ≠ gb219)); have n10_ := Aside0.mk ((by rw [hg]; exact Nat.ne_of_gt (blk_lt (g := gb211) (o := .cells #[.bool true, .slice A26 y206.length c26] 56 (0, 0)) (by (with_reducible repeat (first | refine blk_drewN ?_ _ | refine blk_drew ?_ | refine blk_alloc ?_ _)); exact BK211.out)) : gb219 ≠ gb211)); clear HO202; clear HO205; clear HO210; clear HO217; clear BK211; clear HB; have HO202 := n0_; have HO205 := n1_; have HO210 := n2_; have HO217 := n3_; have BK211 := n4_; have HB := n5_; have BK219 := n6_; have GW219 := n7_; have GE219 := n8_; have NB211_219 := n9_; have NB219_211 := n10_; clear n0_ n1_ n2_ n3_ n4_ n5_ n6_ n7_ n8_ n9_ n10_; clear hb hbox hg; have hnb32 := NB219_211.out; have hnc32 := NB211_219.out; have hcz33_0 : w31.cell? ⟨gb219, 0, none⟩ = some (.bool false) := (blk_cell BK219.out 0).trans rfl; have hcz33_1 : w31.cell? ⟨gb219, 1, none⟩ = some (.slice none 0 0) := (blk_cell BK219.out 1).trans rfl; have hfz33_0 := blk_frozen BK219.out 0; have hfz33_1 := blk_frozen BK219.out 1; obtain ⟨Ao34, co34, eo34⟩ := Kd.R_slice HO217.out; subst eo34; have hcz35_0 : w31.cell? ⟨gb211, 0, none⟩ = some (.bool true) := (blk_cell BK211.out 0).trans rfl; have hcz35_1 : w31.cell? ⟨gb211, 1, none⟩ = some (.slice A26 y206.length c26) := (blk_cell BK211.out 1).trans rfl; have hfz35_0 := blk_frozen BK211.out 0; have hfz35_1 := blk_frozen BK211.out 1) | ((with_reducible refine gate_callee (f := 35) rfl ?_); refine goesL_ (some 34) rfl rfl Try.func35 (by kernel_rfl) rfl #[.agg #[.bool true, .slice A26 y206.length c26], .int .i64 5] rfl (by (try simp only [List.map_toArray, List.map_cons, List.map_nil]); first | done | rfl | (simp only [List.length_drop, List.length_take]; rfl)) ?_; (with_reducible refine (node_At.calls true _ _ y206 5 t220 true _ ?side1 ?side2 A5.out).mono ?_); (case side1 => refine (Kd.V_reads' (e := 78) (base := w.heap.size) (ok := fun k_ => ((((True ∧ some k_ ≠ (v204 : Value).ownBlock) ∧ k_ ≠ gb211) ∧ some k_ ≠ (.slice Ao34 t215.length co34 : Value).ownBlock) ∧ k_ ≠ gb219)) (n := y206.length) (c := c26) ?_).2.2; exact (by (with_reducible repeat (first | apply Kd.V_alloc | apply Kd.V_drewN | apply Kd.V_drew)); exact (Kd.V_mono (Kd.V_far (p := ⟨gb219, 1, none⟩) (Kd.V_far (p := ⟨gb219, 0, none⟩) (Kd.V_mono HO210.out (fun k_ hk => (⟨hk, hk.2⟩ : _ ∧ k_ ≠ gb219))) (fun _ hk => hk.2) (.bool t214)) (fun _ hk => hk.2) (.slice Ao34 t215.length co34)) (fun _ h_ => h_.1)))); (case side2 => exact (Kd.V_reads' HO210.out).2.1); rintro e w36 ⟨rfl, hb⟩; refine ⟨_, rfl, ?_⟩; have n0_ := Aside0.mk (Kd.R_below (by (with_reducible repeat (first | apply Kd.R_alloc | apply Kd.R_drewN | apply Kd.R_drew)); exact (Kd.R_mono (Kd.R_far (p := ⟨gb219, 1, none⟩) (Kd.R_far (p := ⟨gb219, 0, none⟩) (Kd.R_types HO202.out BK219.out (by decide)) (fun _ hk => hk.2) (.bool t214)) (fun _ hk => hk.2) (.slice Ao34 t215.length co34)) (fun _ h_ => h_.1))) hb); have n1_ := Aside0.mk (Kd.N_below (by (with_reducible repeat (first | apply Kd.N_alloc | apply Kd.N_drewN | apply Kd.N_drew)); exact (Kd.N_mono (Kd.N_far (p := ⟨gb219, 1, none⟩) (Kd.N_far (p := ⟨gb219, 0, none⟩) (Kd.N_mono HO205.out (fun k_ hk => (⟨hk, hk.2⟩ : _ ∧ k_ ≠ gb219))) (fun _ hk => hk.2) (.bool t214)) (fun _ hk => hk.2) (.slice Ao34 t215.length co34)) (fun _ h_ => h_.1))) hb); have n2_ := Aside0.mk (Kd.V_below (by (with_reducible repeat (first | apply Kd.V_alloc | apply Kd.V_drewN | apply Kd.V_drew)); exact (Kd.V_mono (Kd.V_far (p := ⟨gb219, 1, none⟩) (Kd.V_far (p := ⟨gb219, 0, none⟩) (Kd.V_mono HO210.out (fun k_ hk => (⟨hk, hk.2⟩ : _ ∧ k_ ≠ gb219))) (fun _ hk => hk.2) (.bool t214)) (fun _ hk => hk.2) (.slice Ao34 t215.length co34)) (fun _ h_ => h_.1))) hb); have n3_ := Aside0.mk (Kd.R_below (by (with_reducible repeat (first | apply Kd.R_alloc | apply Kd.R_drewN | apply Kd.R_drew)); exact (Kd.R_mono (Kd.R_far (p := ⟨gb219, 1, none⟩) (Kd.R_far (p := ⟨gb219, 0, none⟩) (Kd.R_types HO217.out BK219.out (by decide)) (fun _ hk => hk.2) (.bool t214)) (fun _ hk => hk.2) (.slice Ao34 t215.length co34)) (fun _ h_ => h_.1))) hb); have n4_ := Aside0.mk (blk_below (g := gb211) (o := .cells #[.bool true, .slice A26 y206.length c26] 56 (0, 0)) (by (with_reducible repeat (first | refine blk_drewN ?_ _ | refine blk_drew ?_ | refine blk_alloc ?_ _)); refine blk_far ?_ NB211_219.out _; (with_reducible repeat (first | refine blk_drewN ?_ _ | refine blk_drew ?_ | refine blk_alloc ?_ _)); refine blk_far ?_ NB211_219.out _; (with_reducible repeat (first | refine blk_drewN ?_ _ | refine blk_drew ?_ | refine blk_alloc ?_ _)); exact BK211.out) hb); have n5_ := Aside0.mk (blk_below (g := gb219) (o := .cells #[.bool t214, .slice Ao34 t215.length co34] 56 (0, 0)) (by (with_reducible repeat (first | refine blk_drewN ?_ _ | refine blk_drew ?_ | refine blk_alloc ?_ _)); refine blk_put (cs := #[.bool t214, .slice none 0 0]) ?_ 1 _ rfl; (with_reducible repeat (first | refine blk_drewN ?_ _ | refine blk_drew ?_ | refine blk_alloc ?_ _)); refine blk_put (cs := #[.bool false, .slice none 0 0]) ?_ 0 _ rfl; (with_reducible repeat (first | refine blk_drewN ?_ _ | refine blk_drew ?_ | refine blk_alloc ?_ _)); exact BK219.out) hb); have n6_ := Aside0.mk (below_step (by repeat (first | (with_reducible first | exact HB.out | apply below_alloc | apply pw_below_drewN | apply below_drew1 | refine below_set ?_ GE211.out | refine below_set ?_ GE219.out) | exact HB.out)) hb); clear HO202; clear HO205; clear HO210; clear HO217; clear BK211; clear BK219; clear HB; have HO202 := n0_; have HO205 := n1_; have HO210 := n2_; have HO217 := n3_; have BK211 := n4_; have BK219 := n5_; have HB := n6_; clear n0_ n1_ n2_ n3_ n4_ n5_ n6_; (try clear hb); (try clear hb2); (try clear hk); (try clear hi)) | ((with_reducible refine gate_callee (f := 41) rfl ?_); refine goesL_ (some 38) rfl rfl Try.func41 (by kernel_rfl) rfl #[.slice Ao24 y200.length co24, .int .i64 1, .int .i64 3, .slice none 0 0] rfl (by (try simp only [List.map_toArray, List.map_cons, List.map_nil]); first | done | rfl | (simp only [List.length_drop, List.length_take]; rfl)) ?_; (refine (node_With.calls (fun k_ => some k_ = (.slice Ao24 y200.length co24 : Value).ownBlock) _ _ y200 1 3 (fun k_ => False) _ _ ([] : List (S78)) t222 _ ?side1 ?side2 A6.out).mono ?_); (case side1 => exact Kd.R_V (Kd.R_tight rfl (Kd.R_types (Kd.R_types (Kd.R_apart' (HO202.out) (Kd.N_typed HO205.out) (by decide)) BK211.out (by decide)) BK219.out (by decide)))); (case side2 => exact Kd.V_nil _ _ _ _ _); rintro e w37 ⟨v223, rfl, ho0, hb⟩; refine ⟨_, rfl, ?_⟩; have n0_ := Aside0.mk (Kd.R_elder' (by (with_reducible repeat (first | apply Kd.R_alloc | apply Kd.R_drewN | apply Kd.R_drew)); exact HO202.out) (Kd.R_base ho0) hb); have n1_ := Aside0.mk (Kd.N_elder' (by (with_reducible repeat (first | apply Kd.N_alloc | apply Kd.N_drewN | apply Kd.N_drew)); exact HO205.out) (Kd.R_base ho0) hb); have n2_ := Aside0.mk (Kd.V_elder' (by (with_reducible repeat (first | apply Kd.V_alloc | apply Kd.V_drewN | apply Kd.V_drew)); exact HO210.out) (Kd.R_base ho0) hb); have n3_ := Aside0.mk (Kd.R_elder' (by (with_reducible repeat (first | apply Kd.R_alloc | apply Kd.R_drewN | apply Kd.R_drew)); exact HO217.out) (Kd.R_base ho0) hb); have n4_ := Aside0.mk (Kd.R_lower (Kd.R_new' (Kd.R_new' (Kd.R_mono (ok' := fun k_ => True) ho0 (fun _ hk_ => trivial)) (Kd.R_lt (by (with_reducible repeat (first | apply Kd.R_alloc | apply Kd.R_drewN | apply Kd.R_drew)); exact HO202.out))) (Kd.R_lt (by (with_reducible repeat (first | apply Kd.R_alloc | apply Kd.R_drewN | apply Kd.R_drew)); exact HO217.out))) (below_size (by repeat (first | (with_reducible first | exact HB.out | apply below_alloc | apply pw_below_drewN | apply below_drew1 | refine below_set ?_ GE211.out | refine below_set ?_ GE219.out) | exact HB.out)))); have n5_ := Aside0.mk (blk_below (g := gb211) (o := .cells #[.bool true, .slice A26 y206.length c26] 56 (0, 0)) (by (with_reducible repeat (first | refine blk_drewN ?_ _ | refine blk_drew ?_ | refine blk_alloc ?_ _)); exact BK211.out) hb); have n6_ := Aside0.mk (blk_below (g := gb219) (o := .cells #[.bool t214, .slice Ao34 t215.length co34] 56 (0, 0)) (by (with_reducible repeat (first | refine blk_drewN ?_ _ | refine blk_drew ?_ | refine blk_alloc ?_ _)); exact BK219.out) hb); have n7_ := Aside0.mk (below_step (by repeat (first | (with_reducible first | exact HB.out | apply below_alloc | apply pw_below_drewN | apply below_drew1 | refine below_set ?_ GE211.out | refine below_set ?_ GE219.out) | exact HB.out)) hb); clear HO202; clear HO205; clear HO210; clear HO217; clear BK211; clear BK219; clear HB; have HO202 := n0_; have HO205 := n1_; have HO210 := n2_; have HO217 := n3_; have HO224 := n4_; have BK211 := n5_; have BK219 := n6_; have HB := n7_; clear n0_ n1_ n2_ n3_ n4_ n5_ n6_ n7_; (try clear hb); (try clear hb2); (try clear hk); (try clear hi); (try clear ho0); obtain ⟨Ao38, co38, eo38⟩ := Kd.N_slice HO205.out; subst eo38; have p225 : 0 ≤ (0 : Int) := (by omega); have q225 : 0 < (t203.length : Int) := of_decide_eq_true (by first | (with_reducible assumption) | assumption); obtain ⟨ad225, A225_0, c225_0, e225, hx225_0, hl225_0, hi225_0⟩ := at_L7 (Kd.N_reads' HO205.out).2.2 0 p225 q225; cases e225; obtain ⟨ce225, hce225, hMe225, hcc225⟩ := Kd.N_get HO205.out [] 0 p225 (by first | exact q225 | exact of_decide_eq_true (by first | (with_reducible assumption) | assumption) | (have e_ := (Kd.N_reads' HO205.out).1; omega)); obtain ⟨ua225_0, uc225_0, rfl, ul225_0, ge225_0⟩ := Kd.FK_slice_open hMe225; have hv225_0 := hcc225 0 _ rfl; rw [Nat.add_zero, show ((Kd.slice 78 k78)).sz = 1 from rfl, Nat.mul_one] at hv225_0; replace hv225_0 := Option.some.inj (hv225_0.symm.trans hx225_0); injection hv225_0 with hva_ hvn_ hvc_; rw [hva_] at ge225_0; rw [hvc_] at ul225_0; have HL225_0 := Aside0.mk (show Kd.V k78 78 _ w.heap.size _ _ (rd_L7 t203 0) from Kd.V_mk ul225_0 ge225_0); clear hva_ hvn_ hvc_ ge225_0 ul225_0; clear hcc225 hce225; have qi225 : (0 < t203.length) = True := eq_true (by omega); (try rw [show ((0 : Int)).toNat = 0 from rfl] at hx225_0); (try rw [Addr.add_zero'] at hx225_0); have HR225_0 := Aside0.mk hi225_0; have HC225_0 := Aside0.mk hl225_0; clear hi225_0 hl225_0; replace p225 := eq_true p225; replace q225 := eq_true q225; have p226 : 0 ≤ (1 : Int) := (by omega); have q226 : 1 < (t203.length : Int) := of_decide_eq_true (by first | (with_reducible assumption) | assumption); obtain ⟨ad226, A226_0, c226_0, e226, hx226_0, hl226_0, hi226_0⟩ := at_L7 (Kd.N_reads' HO205.out).2.2 1 p226 q226; obtain rfl : ad225 = ad226 := (by injection e226); obtain ⟨ce226, hce226, hMe226, hcc226⟩ := Kd.N_get HO205.out [] 1 p226 (by first | exact q226 | exact of_decide_eq_true (by first | (with_reducible assumption) | assumption) | (have e_ := (Kd.N_reads' HO205.out).1; omega)); obtain ⟨ua226_0, uc226_0, rfl, ul226_0, ge226_0⟩ := Kd.FK_slice_open hMe226; have hv226_0 := hcc226 0 _ rfl; rw [Nat.add_zero, show ((Kd.slice 78 k78)).sz = 1 from rfl, Nat.mul_one] at hv226_0; replace hv226_0 := Option.some.inj (hv226_0.symm.trans hx226_0); injection hv226_0 with hva_ hvn_ hvc_; rw [hva_] at ge226_0; rw [hvc_] at ul226_0; have HL226_0 := Aside0.mk (show Kd.V k78 78 _ w.heap.size _ _ (rd_L7 t203 1) from Kd.V_mk ul226_0 ge226_0); clear hva_ hvn_ hvc_ ge226_0 ul226_0; clear hcc226 hce226; (try simp only [show (1 : Int).toNat = 1 from rfl, Nat.reduceMul, Nat.reduceEqDiff, Go.Addr.add, ↓reduceIte] at hx226_0); have qi226 : (1 < t203.length) = True := eq_true (by omega); (try rw [show ((1 : Int)).toNat = 1 from rfl] at hx226_0); have HR226_0 := Aside0.mk hi226_0; have HC226_0 := Aside0.mk hl226_0; clear hi226_0 hl226_0; replace p226 := eq_true p226; replace q226 := eq_true q226; have hcz39_0 : w37.cell? ⟨gb211, 0, none⟩ = some (.bool true) := (blk_cell BK211.out 0).trans rfl; have hcz39_1 : w37.cell? ⟨gb211, 1, none⟩ = some (.slice A26 y206.length c26) := (blk_cell BK211.out 1).trans rfl; have hfz39_0 := blk_frozen BK211.out 0; have hfz39_1 := blk_frozen BK211.out 1; have hcz40_0 : w37.cell? ⟨gb219, 0, none⟩ = some (.bool t214) := (blk_cell BK219.out 0).trans rfl; have hcz40_1 : w37.cell? ⟨gb219, 1, none⟩ = some (.slice Ao34 t215.length co34) := (blk_cell BK219.out 1).trans rfl; have hfz40_0 := blk_frozen BK219.out 0; have hfz40_1 := blk_frozen BK219.out 1) | (go_at_call 32; (with_reducible refine (node_Same.calls k true _ _ y206 t214 _ _ t215 true _ ?side1 ?side2 ?side3 ?side4 A14.out).mono ?_); (case side1 => repeat (first | exact (Kd.V_reads' HO210.out).2.2 | (with_reducible refine Kd.C_alloc ?_ _) | (with_reducible refine Kd.C_drewN ?_ _) | (with_reducible refine Kd.C_drew ?_))); (case side2 => exact (Kd.V_reads' HO210.out).2.1); (case side3 => repeat (first | exact (Kd.R_reads' HO217.out).2.2 | (with_reducible refine Kd.C_alloc ?_ _) | (with_reducible refine Kd.C_drewN ?_ _) | (with_reducible refine Kd.C_drew ?_))); (case side4 => exact (Kd.R_reads' HO217.out).2.1); rintro e w41 ⟨rfl, hb⟩; have n0_ := Aside0.mk (Kd.R_below (by (with_reducible repeat (first | apply Kd.R_alloc | apply Kd.R_drewN | apply Kd.R_drew)); exact HO202.out) hb); have n1_ := Aside0.mk (Kd.N_below (by (with_reducible repeat (first | apply Kd.N_alloc | apply Kd.N_drewN | apply Kd.N_drew)); exact HO205.out) hb); have n2_ := Aside0.mk (Kd.V_below (by (with_reducible repeat (first | apply Kd.V_alloc | apply Kd.V_drewN | apply Kd.V_drew)); exact HO210.out) hb); have n3_ := Aside0.mk (Kd.R_below (by (with_reducible repeat (first | apply Kd.R_alloc | apply Kd.R_drewN | apply Kd.R_drew)); exact HO217.out) hb); have n4_ := Aside0.mk (Kd.R_below (by (with_reducible repeat (first | apply Kd.R_alloc | apply Kd.R_drewN | apply Kd.R_drew)); exact HO224.out) hb); have n5_ := Aside0.mk (Kd.V_below (by (with_reducible repeat (first | apply Kd.V_alloc | apply Kd.V_drewN | apply Kd.V_drew)); exact HL225_0.out) hb); have n6_ := Aside0.mk (Kd.V_below (by (with_reducible repeat (first | apply Kd.V_alloc | apply Kd.V_drewN | apply Kd.V_drew)); exact HL226_0.out) hb); have n7_ := Aside0.mk (blk_below (g := gb211) (o := .cells #[.bool true, .slice A26 y206.length c26] 56 (0, 0)) (by (with_reducible repeat (first | refine blk_drewN ?_ _ | refine blk_drew ?_ | refine blk_alloc ?_ _)); exact BK211.out) hb); have n8_ := Aside0.mk (blk_below (g := gb219) (o := .cells #[.bool t214, .slice Ao34 t215.length co34] 56 (0, 0)) (by (with_reducible repeat (first | refine blk_drewN ?_ _ | refine blk_drew ?_ | refine blk_alloc ?_ _)); exact BK219.out) hb); have n9_ := Aside0.mk (Kd.C_below (by repeat (first | (with_reducible exact HR225_0.out) | (with_reducible refine Kd.C_alloc ?_ _) | (with_reducible refine Kd.C_drewN ?_ _) | (with_reducible refine Kd.C_drew ?_) | exact HR225_0.out)) hb); have n10_ := Aside0.mk (Kd.C_below (by repeat (first | (with_reducible exact HR226_0.out) | (with_reducible refine Kd.C_alloc ?_ _) | (with_reducible refine Kd.C_drewN ?_ _) | (with_reducible refine Kd.C_drew ?_) | exact HR226_0.out)) hb); have n11_ := Aside0.mk (below_step (by repeat (first | (with_reducible first | exact HB.out | apply below_alloc | apply pw_below_drewN | apply below_drew1 | refine below_set ?_ GE211.out | refine below_set ?_ GE219.out) | exact HB.out)) hb); clear HO202; clear HO205; clear HO210; clear HO217; clear HO224; clear HL225_0; clear HL226_0; clear BK211; clear BK219; clear HR225_0; clear HR226_0; clear HB; have HO202 := n0_; have HO205 := n1_; have HO210 := n2_; have HO217 := n3_; have HO224 := n4_; have HL225_0 := n5_; have HL226_0 := n6_; have BK211 := n7_; have BK219 := n8_; have HR225_0 := n9_; have HR226_0 := n10_; have HB := n11_; clear n0_ n1_ n2_ n3_ n4_ n5_ n6_ n7_ n8_ n9_ n10_ n11_; (try clear hb); (try clear hb2); (try clear hk); (try clear hi); have hcz42_0 : w41.cell? ⟨gb211, 0, none⟩ = some (.bool true) := (blk_cell BK211.out 0).trans rfl; have hcz42_1 : w41.cell? ⟨gb211, 1, none⟩ = some (.slice A26 y206.length c26) := (blk_cell BK211.out 1).trans rfl; have hfz42_0 := blk_frozen BK211.out 0; have hfz42_1 := blk_frozen BK211.out 1) | (go_at_call 34; (with_reducible refine (node_Right.calls k true _ _ y206 true _ ?side1 ?side2 A18.out).mono ?_); (case side1 => repeat (first | exact (Kd.V_reads' HO210.out).2.2 | (with_reducible refine Kd.C_alloc ?_ _) | (with_reducible refine Kd.C_drewN ?_ _) | (with_reducible refine Kd.C_drew ?_))); (case side2 => exact (Kd.V_reads' HO210.out).2.1); rintro e w43 ⟨rfl, hb⟩; have n0_ := Aside0.mk (Kd.R_below (by (with_reducible repeat (first | apply Kd.R_alloc | apply Kd.R_drewN | apply Kd.R_drew)); exact HO202.out) hb); have n1_ := Aside0.mk (Kd.N_below (by (with_reducible repeat (first | apply Kd.N_alloc | apply Kd.N_drewN | apply Kd.N_drew)); exact HO205.out) hb); have n2_ := Aside0.mk (Kd.V_below (by (with_reducible repeat (first | apply Kd.V_alloc | apply Kd.V_drewN | apply Kd.V_drew)); exact HO210.out) hb); have n3_ := Aside0.mk (Kd.R_below (by (with_reducible repeat (first | apply Kd.R_alloc | apply Kd.R_drewN | apply Kd.R_drew)); exact HO217.out) hb); have n4_ := Aside0.mk (Kd.R_below (by (with_reducible repeat (first | apply Kd.R_alloc | apply Kd.R_drewN | apply Kd.R_drew)); exact HO224.out) hb); have n5_ := Aside0.mk (Kd.V_below (by (with_reducible repeat (first | apply Kd.V_alloc | apply Kd.V_drewN | apply Kd.V_drew)); exact HL225_0.out) hb); have n6_ := Aside0.mk (Kd.V_below (by (with_reducible repeat (first | apply Kd.V_alloc | apply Kd.V_drewN | apply Kd.V_drew)); exact HL226_0.out) hb); have n7_ := Aside0.mk (blk_below (g := gb211) (o := .cells #[.bool true, .slice A26 y206.length c26] 56 (0, 0)) (by (with_reducible repeat (first | refine blk_drewN ?_ _ | refine blk_drew ?_ | refine blk_alloc ?_ _)); exact BK211.out) hb); have n8_ := Aside0.mk (blk_below (g := gb219) (o := .cells #[.bool t214, .slice Ao34 t215.length co34] 56 (0, 0)) (by (with_reducible repeat (first | refine blk_drewN ?_ _ | refine blk_drew ?_ | refine blk_alloc ?_ _)); exact BK219.out) hb); have n9_ := Aside0.mk (Kd.C_below (by repeat (first | (with_reducible exact HR225_0.out) | (with_reducible refine Kd.C_alloc ?_ _) | (with_reducible refine Kd.C_drewN ?_ _) | (with_reducible refine Kd.C_drew ?_) | exact HR225_0.out)) hb); have n10_ := Aside0.mk (Kd.C_below (by repeat (first | (with_reducible exact HR226_0.out) | (with_reducible refine Kd.C_alloc ?_ _) | (with_reducible refine Kd.C_drewN ?_ _) | (with_reducible refine Kd.C_drew ?_) | exact HR226_0.out)) hb); have n11_ := Aside0.mk (below_step (by repeat (first | (with_reducible first | exact HB.out | apply below_alloc | apply pw_below_drewN | apply below_drew1 | refine below_set ?_ GE211.out | refine below_set ?_ GE219.out) | exact HB.out)) hb); clear HO202; clear HO205; clear HO210; clear HO217; clear HO224; clear HL225_0; clear HL226_0; clear BK211; clear BK219; clear HR225_0; clear HR226_0; clear HB; have HO202 := n0_; have HO205 := n1_; have HO210 := n2_; have HO217 := n3_; have HO224 := n4_; have HL225_0 := n5_; have HL226_0 := n6_; have BK211 := n7_; have BK219 := n8_; have HR225_0 := n9_; have HR226_0 := n10_; have HB := n11_; clear n0_ n1_ n2_ n3_ n4_ n5_ n6_ n7_ n8_ n9_ n10_ n11_; (try clear hb); (try clear hb2); (try clear hk); (try clear hi); obtain ⟨Ao44, co44, eo44⟩ := Kd.R_slice HO224.out; subst eo44; have p229 : 0 ≤ (1 : Int) := (by omega); have q229 : 1 < (t222.length : Int) := of_decide_eq_true (by first | (with_reducible assumption) | assumption); obtain ⟨ad229, e229, hx229_0, hx229_1⟩ := at_T78 (Kd.R_reads' HO224.out).2.2 1 p229 q229; cases e229; (try simp only [show (1 : Int).toNat = 1 from rfl, Nat.reduceMul, Nat.reduceEqDiff, Go.Addr.add, ↓reduceIte] at hx229_0); (try simp only [show (1 : Int).toNat = 1 from rfl, Nat.reduceMul, Nat.reduceEqDiff, Go.Addr.add, ↓reduceIte] at hx229_1); have qi229 : (1 < t222.length) = True := eq_true (by omega); (try rw [show ((1 : Int)).toNat = 1 from rfl] at hx229_0); (try rw [show 1 * 2 = 2 from rfl] at hx229_0); (try rw [show ((1 : Int)).toNat = 1 from rfl] at hx229_1); (try rw [show 1 * 2 = 2 from rfl] at hx229_1); replace p229 := eq_true p229; replace q229 := eq_true q229))
                              go_ret
                              exact ⟨by first | rfl | (simp [errW_none, errW_some] <;> rfl) | (simp [*, errW_none, errW_some] <;> rfl), by repeat (first | (with_reducible first | exact HB.out | apply below_alloc | apply pw_below_drewN | apply below_drew1 | refine below_set ?_ GE211.out | refine below_set ?_ GE219.out) | exact HB.out)⟩
                            · rw [if_neg c21] at H
                              exact absurd H (by simp)
                          · rw [if_neg c20] at H
                            have c20b0 : ((t222.length : Int) == 2) = false := beq_eq_false_iff_ne.mpr c20
                            have c20b1 : ((t222.length : Int) != 2) = true := bne_iff_ne.mpr c20
                            obtain rfl := Option.some.inj H
                            cases hr
                        · replace c19 := Bool.eq_false_iff.mpr c19
                          subst c19
                          have H1 : (some false) = some r := by rw [if_neg (show ¬ (false = true) by decide)] at H; exact H
                          clear H
                          have H := H1
                          clear H1
                          obtain rfl := Option.some.inj H
                          cases hr
                      · replace c17 := Bool.eq_false_iff.mpr c17
                        subst c17
                        have H1 : (some false) = some r := by rw [if_neg (show ¬ (false = true) by decide)] at H; exact H
                        clear H
                        have H := H1
                        clear H1
                        obtain rfl := Option.some.inj H
                        cases hr
                    · rw [if_neg c16] at H
                      have c16b0 : (t220 == 1) = false := beq_eq_false_iff_ne.mpr c16
                      have c16b1 : (t220 != 1) = true := bne_iff_ne.mpr c16
                      obtain rfl := Option.some.inj H
                      cases hr
                  · replace c15 := Bool.eq_false_iff.mpr c15
                    subst c15
                    have H1 : (some false) = some r := by rw [if_neg (show ¬ (false = true) by decide)] at H; exact H
                    clear H
                    have H := H1
                    clear H1
                    obtain rfl := Option.some.inj H
                    cases hr
                · rw [if_neg c13] at H
                  have c13b0 : (t218 == 0) = false := beq_eq_false_iff_ne.mpr c13
                  have c13b1 : (t218 != 0) = true := bne_iff_ne.mpr c13
                  obtain rfl := Option.some.inj H
                  cases hr
              · rw [if_neg c12] at H
                have c12b0 : (t213 == 0) = false := beq_eq_false_iff_ne.mpr c12
                have c12b1 : (t213 != 0) = true := bne_iff_ne.mpr c12
                obtain rfl := Option.some.inj H
                cases hr
            · rw [if_neg c11] at H
              have c11b0 : (((rd_L7 t203 1).length : Int) == 2) = false := beq_eq_false_iff_ne.mpr c11
              have c11b1 : (((rd_L7 t203 1).length : Int) != 2) = true := bne_iff_ne.mpr c11
              obtain rfl := Option.some.inj H
              cases hr
          · rw [if_neg c10] at H
            exact absurd H (by simp)
        · rw [if_neg c9] at H
          have c9b0 : (((rd_L7 t203 0).length : Int) == 3) = false := beq_eq_false_iff_ne.mpr c9
          have c9b1 : (((rd_L7 t203 0).length : Int) != 3) = true := bne_iff_ne.mpr c9
          obtain rfl := Option.some.inj H
          cases hr
      · rw [if_neg c8] at H
        exact absurd H (by simp)
    · rw [if_neg c7] at H
      have c7b0 : ((t203.length : Int) == 2) = false := beq_eq_false_iff_ne.mpr c7
      have c7b1 : ((t203.length : Int) != 2) = true := bne_iff_ne.mpr c7
      obtain rfl := Option.some.inj H
      cases hr
  · rw [if_neg c2] at H
    exact absurd H (by simp)

set_option maxRecDepth 100000 in
theorem shown04_val : assartlaw04_shown.g 60 = some true := by decide +kernel
def assartlaw04_shown.f : Option Bool := some true
theorem assartlaw04_shown.calls (r : Bool) (w : World) (h : assartlaw04_shown.f = some r) : Calls Try.prog 26 #[] w fun e w' => e = .returned (.bool r) ∧ Below w.heap.size w w' := by
  obtain rfl := Option.some.inj h
  exact assartlaw04_shown.walk 60 true w shown04_val rfl
end Go.Proofs.Ythjnkapkhphpeaa.P
end
section
namespace Go.Proofs.Ythjnkapkhphpeaa.P
open Go.RowKit Go.Proofs.YthjnkapkhphpeaaW.PrintWords Go.Proofs.YthjnkapkhphpeaaW.PrintLast Go.Proofs.YthjnkapkhphpeaaW.PrintMore
attribute [local go_sem] max2_int min2_int max_two min_two max_three min_three max_four min_four
set_option linter.unusedVariables false
set_option linter.unusedSimpArgs false

/-! ### assartlaw04_NodeLeads: function 12 -/
mutual
def assartlaw04_NodeLeads.j0 : Nat → Int → Bool → Int → Bool → Bool → Bool → List (S78) → Option (Bool)
  | 0, _, _, _, _, _, _, _ => none
  | k + 1, x1, x5, x6, x7, x61, x423000, x423001 => if x61 = true then (some false) else (assartlaw04_NodeLeads.l0 k x1 x5 x6 x7 0 x423000 x423001)
def assartlaw04_NodeLeads.l0 : Nat → Int → Bool → Int → Bool → Int → Bool → List (S78) → Option (Bool)
  | 0, _, _, _, _, _, _, _ => none
  | k + 1, x1, x5, x6, x7, x8, x423000, x423001 => if x8 < (x423001.length : Int) then (if 0 ≤ x8 then (if ((rd_T78 x423001 x8).f0) = x1 then (if x7 = true then (if x8 = x6 then (if x423000 = true then (if ((decide (x8 < x6)) != (decide (((rd_T78 x423001 x8).f0) < x1))) = true then (some false) else (assartlaw04_NodeLeads.l0 k x1 x5 x6 x7 (wrap64 (x8 + 1)) x423000 x423001)) else (if x8 > x6 then (if ((rd_T78 x423001 x8).f0) ≤ x1 then (some false) else (if x8 > 0 then (if ((rd_T78 x423001 x8).f0) > x1 then (some false) else (assartlaw04_NodeLeads.l0 k x1 x5 x6 x7 (wrap64 (x8 + 1)) x423000 x423001)) else (assartlaw04_NodeLeads.l0 k x1 x5 x6 x7 (wrap64 (x8 + 1)) x423000 x423001))) else (if x8 > 0 then (if ((rd_T78 x423001 x8).f0) > x1 then (some false) else (assartlaw04_NodeLeads.l0 k x1 x5 x6 x7 (wrap64 (x8 + 1)) x423000 x423001)) else (assartlaw04_NodeLeads.l0 k x1 x5 x6 x7 (wrap64 (x8 + 1)) x423000 x423001)))) else (some false)) else (some false)) else (if x423000 = true then (if ((decide (x8 < x6)) != (decide (((rd_T78 x423001 x8).f0) < x1))) = true then (some false) else (assartlaw04_NodeLeads.l0 k x1 x5 x6 x7 (wrap64 (x8 + 1)) x423000 x423001)) else (if x8 > x6 then (if ((rd_T78 x423001 x8).f0) ≤ x1 then (some false) else (if x8 > 0 then (if x8 = x6 then (if ((rd_T78 x423001 x8).f0) > x1 then (some false) else (assartlaw04_NodeLeads.l0 k x1 x5 x6 x7 (wrap64 (x8 + 1)) x423000 x423001)) else (assartlaw04_NodeLeads.l0 k x1 x5 x6 x7 (wrap64 (x8 + 1)) x423000 x423001)) else (assartlaw04_NodeLeads.l0 k x1 x5 x6 x7 (wrap64 (x8 + 1)) x423000 x423001))) else (if x8 > 0 then (if x8 = x6 then (if ((rd_T78 x423001 x8).f0) > x1 then (some false) else (assartlaw04_NodeLeads.l0 k x1 x5 x6 x7 (wrap64 (x8 + 1)) x423000 x423001)) else (assartlaw04_NodeLeads.l0 k x1 x5 x6 x7 (wrap64 (x8 + 1)) x423000 x423001)) else (assartlaw04_NodeLeads.l0 k x1 x5 x6 x7 (wrap64 (x8 + 1)) x423000 x423001))))) else (none)) else (some x5)
end
def assartlaw04_NodeLeads.f (k : Nat) (a0_0 : Bool) (l0_1 : List (S78)) (a1 : Int) : Option (Bool) := (assartlaw04_shown.f).bind fun t423 => ((assartref04_Right.f k a0_0 l0_1).bind fun t424 => (if t424 = true then ((node_At.f a0_0 l0_1 a1).bind fun bt425 => (if bt425.1 < 0 then (assartlaw04_NodeLeads.j0 k a1 t423 bt425.1 bt425.2 true a0_0 l0_1) else (if bt425.1 > (l0_1.length : Int) then (assartlaw04_NodeLeads.j0 k a1 t423 bt425.1 bt425.2 true a0_0 l0_1) else (if bt425.1 = (l0_1.length : Int) then (if a0_0 = true then (if bt425.2 = true then (assartlaw04_NodeLeads.j0 k a1 t423 bt425.1 bt425.2 true a0_0 l0_1) else (assartlaw04_NodeLeads.j0 k a1 t423 bt425.1 bt425.2 false a0_0 l0_1)) else (assartlaw04_NodeLeads.j0 k a1 t423 bt425.1 bt425.2 true a0_0 l0_1)) else (if bt425.2 = true then (if 0 ≤ bt425.1 then (if bt425.1 < (l0_1.length : Int) then (assartlaw04_NodeLeads.j0 k a1 t423 bt425.1 bt425.2 (((rd_T78 l0_1 bt425.1).f0) != a1) a0_0 l0_1) else (none)) else (none)) else (assartlaw04_NodeLeads.j0 k a1 t423 bt425.1 bt425.2 false a0_0 l0_1)))))) else (some t423)))
theorem assartlaw04_NodeLeads.mono_l : ∀ k, (∀ y0 y1 y2 y3 y4 y5 y6, LeO (assartlaw04_NodeLeads.j0 k y0 y1 y2 y3 y4 y5 y6) (assartlaw04_NodeLeads.j0 (k + 1) y0 y1 y2 y3 y4 y5 y6)) ∧ (∀ y0 y1 y2 y3 y4 y5 y6, LeO (assartlaw04_NodeLeads.l0 k y0 y1 y2 y3 y4 y5 y6) (assartlaw04_NodeLeads.l0 (k + 1) y0 y1 y2 y3 y4 y5 y6))
  | 0 => ⟨fun _ _ _ _ _ _ _ r h => by simp [assartlaw04_NodeLeads.j0] at h, fun _ _ _ _ _ _ _ r h => by simp [assartlaw04_NodeLeads.l0] at h⟩
  | k + 1 => by
    obtain ⟨ih0, ih1⟩ := assartlaw04_NodeLeads.mono_l k
    refine ⟨?_, ?_⟩
    · intro y0 y1 y2 y3 y4 y5 y6
      unfold assartlaw04_NodeLeads.j0
      repeat' first
      | (with_reducible exact ih0 _ _ _ _ _ _ _)
      | (with_reducible exact ih1 _ _ _ _ _ _ _)
      | (with_reducible exact assartref04_Right.mono _ _ _)
      | (with_reducible exact LeO.refl _)
      | (with_reducible exact LeO.none _)
      | (with_reducible refine LeO.ite ?_ ?_)
      | (with_reducible refine LeO.bind ?_ (fun _ => ?_))
      | exact ih0 _ _ _ _ _ _ _
      | exact ih1 _ _ _ _ _ _ _
      | exact assartref04_Right.mono _ _ _
      | exact LeO.none _
      | refine LeO.ite ?_ ?_
      | refine LeO.bind ?_ (fun _ => ?_)
    · intro y0 y1 y2 y3 y4 y5 y6
      unfold assartlaw04_NodeLeads.l0
      repeat' first
      | (with_reducible exact ih0 _ _ _ _ _ _ _)
      | (with_reducible exact ih1 _ _ _ _ _ _ _)
      | (with_reducible exact assartref04_Right.mono _ _ _)
      | (with_reducible exact LeO.refl _)
      | (with_reducible exact LeO.none _)
      | (with_reducible refine LeO.ite ?_ ?_)
      | (with_reducible refine LeO.bind ?_ (fun _ => ?_))
      | exact ih0 _ _ _ _ _ _ _
      | exact ih1 _ _ _ _ _ _ _
      | exact assartref04_Right.mono _ _ _
      | exact LeO.none _
      | refine LeO.ite ?_ ?_
      | refine LeO.bind ?_ (fun _ => ?_)
theorem assartlaw04_NodeLeads.mono : ∀ a0 a1 a2 k, LeO (assartlaw04_NodeLeads.f k a0 a1 a2) (assartlaw04_NodeLeads.f (k + 1) a0 a1 a2) := by
  intro a0 a1 a2 k
  obtain ⟨ih0, ih1⟩ := assartlaw04_NodeLeads.mono_l k
  unfold assartlaw04_NodeLeads.f
  repeat' first
      | (with_reducible exact ih0 _ _ _ _ _ _ _)
      | (with_reducible exact ih1 _ _ _ _ _ _ _)
      | (with_reducible exact assartref04_Right.mono _ _ _)
      | (with_reducible exact LeO.refl _)
      | (with_reducible exact LeO.none _)
      | (with_reducible refine LeO.ite ?_ ?_)
      | (with_reducible refine LeO.bind ?_ (fun _ => ?_))
      | exact ih0 _ _ _ _ _ _ _
      | exact ih1 _ _ _ _ _ _ _
      | exact assartref04_Right.mono _ _ _
      | exact LeO.none _
      | refine LeO.ite ?_ ?_
      | refine LeO.bind ?_ (fun _ => ?_)
set_option maxHeartbeats 8000000 in
set_option maxRecDepth 100000 in
theorem assartlaw04_NodeLeads.calls (k : Nat) (a0_0 : Bool) (A0_1 : Option Addr) (c0_1 : Nat) (l0_1 : List (S78)) (a1 : Int) (r : Bool) (w : World) (hr0_1 : Kd.C k78 w A0_1 l0_1.length l0_1) (hc0_1 : l0_1.length ≤ c0_1) (h : assartlaw04_NodeLeads.f k a0_0 l0_1 a1 = some r) :
    Calls Try.prog 12 #[.agg #[.bool a0_0, .slice A0_1 l0_1.length c0_1], .int .i64 a1] w fun e w' => e = .returned (.bool r) ∧ Below w.heap.size w w' := by
  have hu56 := Try.underlying56
  have HR0_1 := Aside0.mk hr0_1
  have HC0_1 := Aside0.mk hc0_1
  clear hr0_1 hc0_1
  have HB := Aside0.mk (Below.refl w.heap.size w)
  have H : ((assartlaw04_shown.f).bind fun t423 => ((assartref04_Right.f k a0_0 l0_1).bind fun t424 => (if t424 = true then ((node_At.f a0_0 l0_1 a1).bind fun bt425 => (if bt425.1 < 0 then (assartlaw04_NodeLeads.j0 k a1 t423 bt425.1 bt425.2 true a0_0 l0_1) else (if bt425.1 > (l0_1.length : Int) then (assartlaw04_NodeLeads.j0 k a1 t423 bt425.1 bt425.2 true a0_0 l0_1) else (if bt425.1 = (l0_1.length : Int) then (if a0_0 = true then (if bt425.2 = true then (assartlaw04_NodeLeads.j0 k a1 t423 bt425.1 bt425.2 true a0_0 l0_1) else (assartlaw04_NodeLeads.j0 k a1 t423 bt425.1 bt425.2 false a0_0 l0_1)) else (assartlaw04_NodeLeads.j0 k a1 t423 bt425.1 bt425.2 true a0_0 l0_1)) else (if bt425.2 = true then (if 0 ≤ bt425.1 then (if bt425.1 < (l0_1.length : Int) then (assartlaw04_NodeLeads.j0 k a1 t423 bt425.1 bt425.2 (((rd_T78 l0_1 bt425.1).f0) != a1) a0_0 l0_1) else (none)) else (none)) else (assartlaw04_NodeLeads.j0 k a1 t423 bt425.1 bt425.2 false a0_0 l0_1)))))) else (some t423)))) = some r := h
  clear h
  replace H := Option.bind_eq_some_iff.mp H
  obtain ⟨t423, A30, H⟩ := H
  replace H : ((assartref04_Right.f k a0_0 l0_1).bind fun t424 => (if t424 = true then ((node_At.f a0_0 l0_1 a1).bind fun bt425 => (if bt425.1 < 0 then (assartlaw04_NodeLeads.j0 k a1 t423 bt425.1 bt425.2 true a0_0 l0_1) else (if bt425.1 > (l0_1.length : Int) then (assartlaw04_NodeLeads.j0 k a1 t423 bt425.1 bt425.2 true a0_0 l0_1) else (if bt425.1 = (l0_1.length : Int) then (if a0_0 = true then (if bt425.2 = true then (assartlaw04_NodeLeads.j0 k a1 t423 bt425.1 bt425.2 true a0_0 l0_1) else (assartlaw04_NodeLeads.j0 k a1 t423 bt425.1 bt425.2 false a0_0 l0_1)) else (assartlaw04_NodeLeads.j0 k a1 t423 bt425.1 bt425.2 true a0_0 l0_1)) else (if bt425.2 = true then (if 0 ≤ bt425.1 then (if bt425.1 < (l0_1.length : Int) then (assartlaw04_NodeLeads.j0 k a1 t423 bt425.1 bt425.2 (((rd_T78 l0_1 bt425.1).f0) != a1) a0_0 l0_1) else (none)) else (none)) else (assartlaw04_NodeLeads.j0 k a1 t423 bt425.1 bt425.2 false a0_0 l0_1)))))) else (some t423))) = some r := H
  have A3 := Aside0.mk A30
  clear A30
  replace H := Option.bind_eq_some_iff.mp H
  obtain ⟨t424, A40, H⟩ := H
  replace H : (if t424 = true then ((node_At.f a0_0 l0_1 a1).bind fun bt425 => (if bt425.1 < 0 then (assartlaw04_NodeLeads.j0 k a1 t423 bt425.1 bt425.2 true a0_0 l0_1) else (if bt425.1 > (l0_1.length : Int) then (assartlaw04_NodeLeads.j0 k a1 t423 bt425.1 bt425.2 true a0_0 l0_1) else (if bt425.1 = (l0_1.length : Int) then (if a0_0 = true then (if bt425.2 = true then (assartlaw04_NodeLeads.j0 k a1 t423 bt425.1 bt425.2 true a0_0 l0_1) else (assartlaw04_NodeLeads.j0 k a1 t423 bt425.1 bt425.2 false a0_0 l0_1)) else (assartlaw04_NodeLeads.j0 k a1 t423 bt425.1 bt425.2 true a0_0 l0_1)) else (if bt425.2 = true then (if 0 ≤ bt425.1 then (if bt425.1 < (l0_1.length : Int) then (assartlaw04_NodeLeads.j0 k a1 t423 bt425.1 bt425.2 (((rd_T78 l0_1 bt425.1).f0) != a1) a0_0 l0_1) else (none)) else (none)) else (assartlaw04_NodeLeads.j0 k a1 t423 bt425.1 bt425.2 false a0_0 l0_1)))))) else (some t423)) = some r := H
  have A4 := Aside0.mk A40
  clear A40
  by_cases c5 : t424 = true
  · subst c5
    have H1 : ((node_At.f a0_0 l0_1 a1).bind fun bt425 => (if bt425.1 < 0 then (assartlaw04_NodeLeads.j0 k a1 t423 bt425.1 bt425.2 true a0_0 l0_1) else (if bt425.1 > (l0_1.length : Int) then (assartlaw04_NodeLeads.j0 k a1 t423 bt425.1 bt425.2 true a0_0 l0_1) else (if bt425.1 = (l0_1.length : Int) then (if a0_0 = true then (if bt425.2 = true then (assartlaw04_NodeLeads.j0 k a1 t423 bt425.1 bt425.2 true a0_0 l0_1) else (assartlaw04_NodeLeads.j0 k a1 t423 bt425.1 bt425.2 false a0_0 l0_1)) else (assartlaw04_NodeLeads.j0 k a1 t423 bt425.1 bt425.2 true a0_0 l0_1)) else (if bt425.2 = true then (if 0 ≤ bt425.1 then (if bt425.1 < (l0_1.length : Int) then (assartlaw04_NodeLeads.j0 k a1 t423 bt425.1 bt425.2 (((rd_T78 l0_1 bt425.1).f0) != a1) a0_0 l0_1) else (none)) else (none)) else (assartlaw04_NodeLeads.j0 k a1 t423 bt425.1 bt425.2 false a0_0 l0_1)))))) = some r := by rw [if_pos rfl] at H; exact H
    clear H
    have H := H1
    clear H1
    replace H := Option.bind_eq_some_iff.mp H
    obtain ⟨⟨t425, t426⟩, A60, H⟩ := H
    replace H : (if t425 < 0 then (assartlaw04_NodeLeads.j0 k a1 t423 t425 t426 true a0_0 l0_1) else (if t425 > (l0_1.length : Int) then (assartlaw04_NodeLeads.j0 k a1 t423 t425 t426 true a0_0 l0_1) else (if t425 = (l0_1.length : Int) then (if a0_0 = true then (if t426 = true then (assartlaw04_NodeLeads.j0 k a1 t423 t425 t426 true a0_0 l0_1) else (assartlaw04_NodeLeads.j0 k a1 t423 t425 t426 false a0_0 l0_1)) else (assartlaw04_NodeLeads.j0 k a1 t423 t425 t426 true a0_0 l0_1)) else (if t426 = true then (if 0 ≤ t425 then (if t425 < (l0_1.length : Int) then (assartlaw04_NodeLeads.j0 k a1 t423 t425 t426 (((rd_T78 l0_1 t425).f0) != a1) a0_0 l0_1) else (none)) else (none)) else (assartlaw04_NodeLeads.j0 k a1 t423 t425 t426 false a0_0 l0_1))))) = some r := H
    have A6 := Aside0.mk A60
    clear A60
    have HC7 := Aside0.mk H
    clear H
    go_enter Try.func12, Try.ntmps12
    go_upto_region 5 with (first | ((with_reducible refine gate_dst (N := 2) rfl ?_); (try (refine gate_guard (by rfl) ?_; dsimp only)); refine box_event ?hg (N := 2) ?hd (cs := #[.bool a0_0, .slice A0_1 l0_1.length c0_1]) (t := 56) ?hr ?_; (case hd => rfl); (case hg => rfl); (case hr => first | (go_simp; done) | (go_simp; rfl)); intro gb422 hg w8 hbox hb; have n0_ := Aside0.mk (below_step (by repeat (first | (with_reducible first | exact HB.out | apply below_alloc | apply pw_below_drewN | apply below_drew1) | exact HB.out)) hb); have n1_ := Aside0.mk (hbox); have n2_ := Aside0.mk ((by rw [hg]; exact (below_size (by repeat (first | (with_reducible first | exact HB.out | apply below_alloc | apply pw_below_drewN | apply below_drew1) | exact HB.out))) : w.heap.size ≤ gb422)); have n3_ := Aside0.mk ((by rw [hg]; exact (below_size (by repeat (first | (with_reducible first | exact HB.out | apply below_alloc | apply pw_below_drewN | apply below_drew1) | exact HB.out))) : w.heap.size ≤ gb422)); clear HB; have HB := n0_; have BK422 := n1_; have GW422 := n2_; have GE422 := n3_; clear n0_ n1_ n2_ n3_; clear hb hbox hg) | ((with_reducible refine gate_callee (f := 26) rfl ?_); refine goesL_ (some 10) rfl rfl Try.func26 (by kernel_rfl) rfl #[] rfl (by (try simp only [List.map_toArray, List.map_cons, List.map_nil]); first | done | rfl | (simp only [List.length_drop, List.length_take]; rfl)) ?_; (with_reducible refine (assartlaw04_shown.calls  t423 _ A3.out).mono ?_); rintro e w9 ⟨rfl, hb⟩; refine ⟨_, rfl, ?_⟩; have n0_ := Aside0.mk (blk_below (g := gb422) (o := .cells #[.bool a0_0, .slice A0_1 l0_1.length c0_1] 56 (0, 0)) (by (with_reducible repeat (first | refine blk_drewN ?_ _ | refine blk_drew ?_ | refine blk_alloc ?_ _)); exact BK422.out) hb); have n1_ := Aside0.mk (below_step (by repeat (first | (with_reducible first | exact HB.out | apply below_alloc | apply pw_below_drewN | apply below_drew1 | refine below_set ?_ GE422.out) | exact HB.out)) hb); clear BK422; clear HB; have BK422 := n0_; have HB := n1_; clear n0_ n1_; (try clear hb); (try clear hb2); (try clear hk); (try clear hi); have hcz10_0 : w9.cell? ⟨gb422, 0, none⟩ = some (.bool a0_0) := (blk_cell BK422.out 0).trans rfl; have hcz10_1 : w9.cell? ⟨gb422, 1, none⟩ = some (.slice A0_1 l0_1.length c0_1) := (blk_cell BK422.out 1).trans rfl; have hfz10_0 := blk_frozen BK422.out 0; have hfz10_1 := blk_frozen BK422.out 1) | ((with_reducible refine gate_callee (f := 31) rfl ?_); refine goesL_ (some 12) rfl rfl Try.func31 (by kernel_rfl) rfl #[.agg #[.bool a0_0, .slice A0_1 l0_1.length c0_1]] rfl (by (try simp only [List.map_toArray, List.map_cons, List.map_nil]); first | done | rfl | (simp only [List.length_drop, List.length_take]; rfl)) ?_; (with_reducible refine (assartref04_Right.calls k a0_0 _ _ l0_1 true _ ?side1 ?side2 A4.out).mono ?_); (case side1 => repeat (first | exact (Kd.C_below HR0_1.out HB.out) | (with_reducible refine Kd.C_alloc ?_ _) | (with_reducible refine Kd.C_drewN ?_ _) | (with_reducible refine Kd.C_drew ?_))); (case side2 => exact HC0_1.out); rintro e w11 ⟨rfl, hb⟩; refine ⟨_, rfl, ?_⟩; have n0_ := Aside0.mk (blk_below (g := gb422) (o := .cells #[.bool a0_0, .slice A0_1 l0_1.length c0_1] 56 (0, 0)) (by (with_reducible repeat (first | refine blk_drewN ?_ _ | refine blk_drew ?_ | refine blk_alloc ?_ _)); exact BK422.out) hb); have n1_ := Aside0.mk (below_step (by repeat (first | (with_reducible first | exact HB.out | apply below_alloc | apply pw_below_drewN | apply below_drew1 | refine below_set ?_ GE422.out) | exact HB.out)) hb); clear BK422; clear HB; have BK422 := n0_; have HB := n1_; clear n0_ n1_; (try clear hb); (try clear hb2); (try clear hk); (try clear hi); have hcz12_0 : w11.cell? ⟨gb422, 0, none⟩ = some (.bool a0_0) := (blk_cell BK422.out 0).trans rfl; have hcz12_1 : w11.cell? ⟨gb422, 1, none⟩ = some (.slice A0_1 l0_1.length c0_1) := (blk_cell BK422.out 1).trans rfl; have hfz12_0 := blk_frozen BK422.out 0; have hfz12_1 := blk_frozen BK422.out 1) | ((with_reducible refine gate_callee (f := 35) rfl ?_); refine goesL_ (some 18) rfl rfl Try.func35 (by kernel_rfl) rfl #[.agg #[.bool a0_0, .slice A0_1 l0_1.length c0_1], .int .i64 a1] rfl (by (try simp only [List.map_toArray, List.map_cons, List.map_nil]); first | done | rfl | (simp only [List.length_drop, List.length_take]; rfl)) ?_; (with_reducible refine (node_At.calls a0_0 _ _ l0_1 a1 t425 t426 _ ?side1 ?side2 A6.out).mono ?_); (case side1 => repeat (first | exact (Kd.C_below HR0_1.out HB.out) | (with_reducible refine Kd.C_alloc ?_ _) | (with_reducible refine Kd.C_drewN ?_ _) | (with_reducible refine Kd.C_drew ?_))); (case side2 => exact HC0_1.out); rintro e w13 ⟨rfl, hb⟩; refine ⟨_, rfl, ?_⟩; have n0_ := Aside0.mk (blk_below (g := gb422) (o := .cells #[.bool a0_0, .slice A0_1 l0_1.length c0_1] 56 (0, 0)) (by (with_reducible repeat (first | refine blk_drewN ?_ _ | refine blk_drew ?_ | refine blk_alloc ?_ _)); exact BK422.out) hb); have n1_ := Aside0.mk (below_step (by repeat (first | (with_reducible first | exact HB.out | apply below_alloc | apply pw_below_drewN | apply below_drew1 | refine below_set ?_ GE422.out) | exact HB.out)) hb); clear BK422; clear HB; have BK422 := n0_; have HB := n1_; clear n0_ n1_; (try clear hb); (try clear hb2); (try clear hk); (try clear hi)))
    (try simp only [Act.put, List.setIfInBounds_toArray, List.set_cons_zero, List.set_cons_succ])
    go_cut [61] (fun v61 wc => ∃ (kq : Nat) (x61_6 : Bool), v61 = .bool x61_6 ∧ Aside0 (assartlaw04_NodeLeads.j0 kq a1 t423 t425 t426 x61_6 a0_0 l0_1 = some r) ∧ Aside0 (kq ≤ k) ∧ Aside0 (wc.heap[gb422]? = some (.cells #[.bool a0_0, (.slice A0_1 l0_1.length c0_1)] 56 (0, 0))) ∧ Aside0 (Below w.heap.size w wc))
    case first =>
      have H := HC7.out
      clear HC7
      by_cases c14 : t425 < 0
      · rw [if_pos c14] at H
        have c14b0 : decide (t425 < 0) = true := decide_eq_true c14
        clear c14
        (first | rw [c14b0] | (simp only [i64_w, i32_w]; rw [c14b0]) | skip)
        have H' := Aside0.mk H
        clear H
        go_wp2
        go_meet
        case rel => exact ⟨_, (true), (by first | rfl | (simp; done) | (simp [*]; done)), H', ⟨by first | omega | exact Nat.le_refl _⟩, ⟨by (with_reducible repeat (first | refine blk_drewN ?_ _ | refine blk_drew ?_ | refine blk_alloc ?_ _)); exact BK422.out⟩, ⟨by repeat (first | (with_reducible first | exact HB.out | apply below_alloc | apply pw_below_drewN | apply below_drew1 | refine below_set ?_ GE422.out) | exact HB.out)⟩⟩
      · rw [if_neg c14] at H
        have c14b0 : decide (t425 < 0) = false := decide_eq_false c14
        clear c14
        (first | rw [c14b0] | (simp only [i64_w, i32_w]; rw [c14b0]) | skip)
        by_cases c15 : t425 > (l0_1.length : Int)
        · rw [if_pos c15] at H
          have c15b0 : decide ((l0_1.length : Int) < t425) = true := decide_eq_true c15
          clear c15
          have H' := Aside0.mk H
          clear H
          have hcz16_0 : w13.cell? ⟨gb422, 0, none⟩ = some (.bool a0_0) := (blk_cell BK422.out 0).trans rfl
          have hcz16_1 : w13.cell? ⟨gb422, 1, none⟩ = some (.slice A0_1 l0_1.length c0_1) := (blk_cell BK422.out 1).trans rfl
          have hfz16_0 := blk_frozen BK422.out 0
          have hfz16_1 := blk_frozen BK422.out 1
          go_wp2
          go_meet
          case rel => exact ⟨_, (true), (by first | rfl | (simp; done) | (simp [*]; done)), H', ⟨by first | omega | exact Nat.le_refl _⟩, ⟨by (with_reducible repeat (first | refine blk_drewN ?_ _ | refine blk_drew ?_ | refine blk_alloc ?_ _)); exact BK422.out⟩, ⟨by repeat (first | (with_reducible first | exact HB.out | apply below_alloc | apply pw_below_drewN | apply below_drew1 | refine below_set ?_ GE422.out) | exact HB.out)⟩⟩
        · rw [if_neg c15] at H
          have c15b0 : decide ((l0_1.length : Int) < t425) = false := decide_eq_false c15
          clear c15
          by_cases c17 : t425 = (l0_1.length : Int)
          · rw [if_pos c17] at H
            have c17b0 : (t425 == (l0_1.length : Int)) = true := beq_iff_eq.mpr c17
            have c17b1 : (t425 != (l0_1.length : Int)) = false := bne_eq_false_iff_eq.mpr c17
            clear c17
            by_cases c18 : a0_0 = true
            · subst c18
              have H1 : (if t426 = true then (assartlaw04_NodeLeads.j0 k a1 t423 t425 t426 true true l0_1) else (assartlaw04_NodeLeads.j0 k a1 t423 t425 t426 false true l0_1)) = some r := by rw [if_pos rfl] at H; exact H
              clear H
              have H := H1
              clear H1
              by_cases c19 : t426 = true
              · subst c19
                have H1 : (assartlaw04_NodeLeads.j0 k a1 t423 t425 true true true l0_1) = some r := by rw [if_pos rfl] at H; exact H
                clear H
                have H := H1
                clear H1
                have H' := Aside0.mk H
                clear H
                have hcz20_0 : w13.cell? ⟨gb422, 0, none⟩ = some (.bool true) := (blk_cell BK422.out 0).trans rfl
                have hcz20_1 : w13.cell? ⟨gb422, 1, none⟩ = some (.slice A0_1 l0_1.length c0_1) := (blk_cell BK422.out 1).trans rfl
                have hfz20_0 := blk_frozen BK422.out 0
                have hfz20_1 := blk_frozen BK422.out 1
                go_wp2
                go_meet
                case rel => exact ⟨_, (true), (by first | rfl | (simp; done) | (simp [*]; done)), H', ⟨by first | omega | exact Nat.le_refl _⟩, ⟨by (with_reducible repeat (first | refine blk_drewN ?_ _ | refine blk_drew ?_ | refine blk_alloc ?_ _)); exact BK422.out⟩, ⟨by repeat (first | (with_reducible first | exact HB.out | apply below_alloc | apply pw_below_drewN | apply below_drew1 | refine below_set ?_ GE422.out) | exact HB.out)⟩⟩
              · replace c19 := Bool.eq_false_iff.mpr c19
                subst c19
                have H1 : (assartlaw04_NodeLeads.j0 k a1 t423 t425 false false true l0_1) = some r := by rw [if_neg (show ¬ (false = true) by decide)] at H; exact H
                clear H
                have H := H1
                clear H1
                have H' := Aside0.mk H
                clear H
                have hcz21_0 : w13.cell? ⟨gb422, 0, none⟩ = some (.bool true) := (blk_cell BK422.out 0).trans rfl
                have hcz21_1 : w13.cell? ⟨gb422, 1, none⟩ = some (.slice A0_1 l0_1.length c0_1) := (blk_cell BK422.out 1).trans rfl
                have hfz21_0 := blk_frozen BK422.out 0
                have hfz21_1 := blk_frozen BK422.out 1
                go_wp2
                go_meet
                case rel => exact ⟨_, (false), (by first | rfl | (simp; done) | (simp [*]; done)), H', ⟨by first | omega | exact Nat.le_refl _⟩, ⟨by (with_reducible repeat (first | refine blk_drewN ?_ _ | refine blk_drew ?_ | refine blk_alloc ?_ _)); exact BK422.out⟩, ⟨by repeat (first | (with_reducible first | exact HB.out | apply below_alloc | apply pw_below_drewN | apply below_drew1 | refine below_set ?_ GE422.out) | exact HB.out)⟩⟩
            · replace c18 := Bool.eq_false_iff.mpr c18
              subst c18
              have H1 : (assartlaw04_NodeLeads.j0 k a1 t423 t425 t426 true false l0_1) = some r := by rw [if_neg (show ¬ (false = true) by decide)] at H; exact H
              clear H
              have H := H1
              clear H1
              have H' := Aside0.mk H
              clear H
              have hcz22_0 : w13.cell? ⟨gb422, 0, none⟩ = some (.bool false) := (blk_cell BK422.out 0).trans rfl
              have hcz22_1 : w13.cell? ⟨gb422, 1, none⟩ = some (.slice A0_1 l0_1.length c0_1) := (blk_cell BK422.out 1).trans rfl
              have hfz22_0 := blk_frozen BK422.out 0
              have hfz22_1 := blk_frozen BK422.out 1
              go_wp2
              go_meet
              case rel => exact ⟨_, (true), (by first | rfl | (simp; done) | (simp [*]; done)), H', ⟨by first | omega | exact Nat.le_refl _⟩, ⟨by (with_reducible repeat (first | refine blk_drewN ?_ _ | refine blk_drew ?_ | refine blk_alloc ?_ _)); exact BK422.out⟩, ⟨by repeat (first | (with_reducible first | exact HB.out | apply below_alloc | apply pw_below_drewN | apply below_drew1 | refine below_set ?_ GE422.out) | exact HB.out)⟩⟩
          · rw [if_neg c17] at H
            have c17b0 : (t425 == (l0_1.length : Int)) = false := beq_eq_false_iff_ne.mpr c17
            have c17b1 : (t425 != (l0_1.length : Int)) = true := bne_iff_ne.mpr c17
            by_cases c23 : t426 = true
            · subst c23
              have H1 : (if 0 ≤ t425 then (if t425 < (l0_1.length : Int) then (assartlaw04_NodeLeads.j0 k a1 t423 t425 true (((rd_T78 l0_1 t425).f0) != a1) a0_0 l0_1) else (none)) else (none)) = some r := by rw [if_pos rfl] at H; exact H
              clear H
              have H := H1
              clear H1
              by_cases c24 : 0 ≤ t425
              · rw [if_pos c24] at H
                have c24b0 : decide (0 ≤ t425) = true := decide_eq_true c24
                clear c24
                by_cases c25 : t425 < (l0_1.length : Int)
                · rw [if_pos c25] at H
                  have c25b0 : decide (t425 < (l0_1.length : Int)) = true := decide_eq_true c25
                  clear c25
                  have H' := Aside0.mk H
                  clear H
                  have hcz26_0 : w13.cell? ⟨gb422, 0, none⟩ = some (.bool a0_0) := (blk_cell BK422.out 0).trans rfl
                  have hcz26_1 : w13.cell? ⟨gb422, 1, none⟩ = some (.slice A0_1 l0_1.length c0_1) := (blk_cell BK422.out 1).trans rfl
                  have hfz26_0 := blk_frozen BK422.out 0
                  have hfz26_1 := blk_frozen BK422.out 1
                  have p427 : 0 ≤ (t425 : Int) := of_decide_eq_true (by first | (with_reducible assumption) | assumption)
                  have q427 : t425 < (l0_1.length : Int) := of_decide_eq_true (by first | (with_reducible assumption) | assumption)
                  obtain ⟨ad427, e427, hx427_0, hx427_1⟩ := at_T78 HR0_1.out t425 p427 q427
                  cases e427
                  replace hx427_0 := (HB.out.cell (World.block_lt_of_cell? w _ hx427_0)).trans hx427_0
                  replace hx427_1 := (HB.out.cell (World.block_lt_of_cell? w _ hx427_1)).trans hx427_1
                  replace p427 := eq_true p427
                  replace q427 := eq_true q427
                  go_wp2
                  go_meet
                  case rel => exact ⟨_, ((((rd_T78 l0_1 t425).f0) != a1)), (by first | rfl | (simp; done) | (simp [*]; done)), H', ⟨by first | omega | exact Nat.le_refl _⟩, ⟨by (with_reducible repeat (first | refine blk_drewN ?_ _ | refine blk_drew ?_ | refine blk_alloc ?_ _)); exact BK422.out⟩, ⟨by repeat (first | (with_reducible first | exact HB.out | apply below_alloc | apply pw_below_drewN | apply below_drew1 | refine below_set ?_ GE422.out) | exact HB.out)⟩⟩
                · rw [if_neg c25] at H
                  exact absurd H (by simp)
              · rw [if_neg c24] at H
                exact absurd H (by simp)
            · replace c23 := Bool.eq_false_iff.mpr c23
              subst c23
              have H1 : (assartlaw04_NodeLeads.j0 k a1 t423 t425 false false a0_0 l0_1) = some r := by rw [if_neg (show ¬ (false = true) by decide)] at H; exact H
              clear H
              have H := H1
              clear H1
              have H' := Aside0.mk H
              clear H
              have hcz27_0 : w13.cell? ⟨gb422, 0, none⟩ = some (.bool a0_0) := (blk_cell BK422.out 0).trans rfl
              have hcz27_1 : w13.cell? ⟨gb422, 1, none⟩ = some (.slice A0_1 l0_1.length c0_1) := (blk_cell BK422.out 1).trans rfl
              have hfz27_0 := blk_frozen BK422.out 0
              have hfz27_1 := blk_frozen BK422.out 1
              go_wp2
              go_meet
              case rel => exact ⟨_, (false), (by first | rfl | (simp; done) | (simp [*]; done)), H', ⟨by first | omega | exact Nat.le_refl _⟩, ⟨by (with_reducible repeat (first | refine blk_drewN ?_ _ | refine blk_drew ?_ | refine blk_alloc ?_ _)); exact BK422.out⟩, ⟨by repeat (first | (with_reducible first | exact HB.out | apply below_alloc | apply pw_below_drewN | apply below_drew1 | refine below_set ?_ GE422.out) | exact HB.out)⟩⟩
    case rest =>
      clear HC7
      try clear c1
      try clear c2
      try clear p2
      try clear c3
      try clear p4
      try clear q4
      try clear hx4
      try clear c5
      try clear c12
      try clear c14
      try clear c14b0
      try clear c15
      try clear c15b0
      try clear c17
      try clear c17b0
      try clear c17b1
      try clear c18
      try clear c19
      try clear c23
      try clear c24
      try clear c24b0
      try clear c25
      try clear c25b0
      try clear c26
      try clear hcz10_0
      try clear hcz10_1
      try clear hcz12_0
      try clear hcz12_1
      try clear hcz16_0
      try clear hcz16_1
      try clear hcz20_0
      try clear hcz20_1
      try clear hcz21_0
      try clear hcz21_1
      try clear hcz22_0
      try clear hcz22_1
      try clear hcz26_0
      try clear hcz26_1
      try clear hcz27_0
      try clear hcz27_1
      try clear hfz10_0
      try clear hfz10_1
      try clear hfz12_0
      try clear hfz12_1
      try clear hfz16_0
      try clear hfz16_1
      try clear hfz20_0
      try clear hfz20_1
      try clear hfz21_0
      try clear hfz21_1
      try clear hfz22_0
      try clear hfz22_1
      try clear hfz26_0
      try clear hfz26_1
      try clear hfz27_0
      try clear hfz27_1
      try clear hx427_0
      try clear hx427_1
      try clear p427
      try clear q427
      obtain ⟨kq, x61_6, rfl, HA, HJ6, BK422, HB⟩ := hcut
      cases kq with
      | zero => exact absurd HA.out (by simp [assartlaw04_NodeLeads.j0])
      | succ kj6 =>
        have H := HA.out
        clear HA
        simp only [assartlaw04_NodeLeads.j0] at H
        by_cases c28 : x61_6 = true
        · subst c28
          have H1 : (some false) = some r := by rw [if_pos rfl] at H; exact H
          clear H
          have H := H1
          clear H1
          obtain rfl := Option.some.inj H
          go_wp2
          go_ret
          exact ⟨by first | rfl | (simp [errW_none, errW_some] <;> rfl) | (simp [*, errW_none, errW_some] <;> rfl), by repeat (first | (with_reducible first | exact HB.out | apply below_alloc | apply pw_below_drewN | apply below_drew1 | refine below_set ?_ GE422.out) | exact HB.out)⟩
        · replace c28 := Bool.eq_false_iff.mpr c28
          subst c28
          have H1 : (assartlaw04_NodeLeads.l0 kj6 a1 t423 t425 t426 0 a0_0 l0_1) = some r := by rw [if_neg (show ¬ (false = true) by decide)] at H; exact H
          clear H
          have H := H1
          clear H1
          have H' := Aside0.mk H
          clear H
          go_wp2
          go_loopg [8] kj6 (fun kq v8 w' => ∃ (x8_2 : Int), v8 = .int .i64 x8_2 ∧ Aside0 (assartlaw04_NodeLeads.l0 kq a1 t423 t425 t426 x8_2 a0_0 l0_1 = some r) ∧ Aside0 (kq ≤ kj6) ∧ Aside0 (w'.heap[gb422]? = some (.cells #[.bool a0_0, (.slice A0_1 l0_1.length c0_1)] 56 (0, 0))) ∧ Aside0 (Below w.heap.size w w'))
          case atStart => exact ⟨(0), (by first | rfl | (simp; done) | (simp [*]; done)), H', ⟨Nat.le_refl _⟩, ⟨by (with_reducible repeat (first | refine blk_drewN ?_ _ | refine blk_drew ?_ | refine blk_alloc ?_ _)); exact BK422.out⟩, ⟨by repeat (first | (with_reducible first | exact HB.out | apply below_alloc | apply pw_below_drewN | apply below_drew1 | refine below_set ?_ GE422.out) | exact HB.out)⟩⟩
          case round =>
            clear H'
            try clear c1
            try clear c2
            try clear p2
            try clear c3
            try clear p4
            try clear q4
            try clear hx4
            try clear c5
            try clear c12
            try clear c14
            try clear c14b0
            try clear c15
            try clear c15b0
            try clear c17
            try clear c17b0
            try clear c17b1
            try clear c18
            try clear c19
            try clear c23
            try clear c24
            try clear c24b0
            try clear c25
            try clear c25b0
            try clear c26
            try clear c28
            try clear hcz10_0
            try clear hcz10_1
            try clear hcz12_0
            try clear hcz12_1
            try clear hcz16_0
            try clear hcz16_1
            try clear hcz20_0
            try clear hcz20_1
            try clear hcz21_0
            try clear hcz21_1
            try clear hcz22_0
            try clear hcz22_1
            try clear hcz26_0
            try clear hcz26_1
            try clear hcz27_0
            try clear hcz27_1
            try clear hfz10_0
            try clear hfz10_1
            try clear hfz12_0
            try clear hfz12_1
            try clear hfz16_0
            try clear hfz16_1
            try clear hfz20_0
            try clear hfz20_1
            try clear hfz21_0
            try clear hfz21_1
            try clear hfz22_0
            try clear hfz22_1
            try clear hfz26_0
            try clear hfz26_1
            try clear hfz27_0
            try clear hfz27_1
            try clear hx427_0
            try clear hx427_1
            try clear p2
            try clear p4
            try clear p427
            try clear q4
            try clear q427
            obtain ⟨x8_2, rfl, HA, HK2, BK422, HB⟩ := hrel
            cases gk with
            | zero => exact absurd HA.out (by simp [assartlaw04_NodeLeads.l0])
            | succ k2 =>
              have H := HA.out
              clear HA
              simp only [assartlaw04_NodeLeads.l0] at H
              by_cases c29 : x8_2 < (l0_1.length : Int)
              · rw [if_pos c29] at H
                have c29b0 : decide (x8_2 < (l0_1.length : Int)) = true := decide_eq_true c29
                clear c29
                by_cases c30 : 0 ≤ x8_2
                · rw [if_pos c30] at H
                  have c30b0 : decide (0 ≤ x8_2) = true := decide_eq_true c30
                  clear c30
                  by_cases c31 : ((rd_T78 l0_1 x8_2).f0) = a1
                  · rw [if_pos c31] at H
                    have c31b0 : (((rd_T78 l0_1 x8_2).f0) == a1) = true := beq_iff_eq.mpr c31
                    have c31b1 : (((rd_T78 l0_1 x8_2).f0) != a1) = false := bne_eq_false_iff_eq.mpr c31
                    clear c31
                    by_cases c32 : t426 = true
                    · subst c32
                      have H1 : (if x8_2 = t425 then (if a0_0 = true then (if ((decide (x8_2 < t425)) != (decide (((rd_T78 l0_1 x8_2).f0) < a1))) = true then (some false) else (assartlaw04_NodeLeads.l0 k2 a1 t423 t425 true (wrap64 (x8_2 + 1)) a0_0 l0_1)) else (if x8_2 > t425 then (if ((rd_T78 l0_1 x8_2).f0) ≤ a1 then (some false) else (if x8_2 > 0 then (if ((rd_T78 l0_1 x8_2).f0) > a1 then (some false) else (assartlaw04_NodeLeads.l0 k2 a1 t423 t425 true (wrap64 (x8_2 + 1)) a0_0 l0_1)) else (assartlaw04_NodeLeads.l0 k2 a1 t423 t425 true (wrap64 (x8_2 + 1)) a0_0 l0_1))) else (if x8_2 > 0 then (if ((rd_T78 l0_1 x8_2).f0) > a1 then (some false) else (assartlaw04_NodeLeads.l0 k2 a1 t423 t425 true (wrap64 (x8_2 + 1)) a0_0 l0_1)) else (assartlaw04_NodeLeads.l0 k2 a1 t423 t425 true (wrap64 (x8_2 + 1)) a0_0 l0_1)))) else (some false)) = some r := by rw [if_pos rfl] at H; exact H
                      clear H
                      have H := H1
                      clear H1
                      by_cases c33 : x8_2 = t425
                      · rw [if_pos c33] at H
                        have c33b0 : (x8_2 == t425) = true := beq_iff_eq.mpr c33
                        have c33b1 : (x8_2 != t425) = false := bne_eq_false_iff_eq.mpr c33
                        clear c33
                        by_cases c34 : a0_0 = true
                        · subst c34
                          have H1 : (if ((decide (x8_2 < t425)) != (decide (((rd_T78 l0_1 x8_2).f0) < a1))) = true then (some false) else (assartlaw04_NodeLeads.l0 k2 a1 t423 t425 true (wrap64 (x8_2 + 1)) true l0_1)) = some r := by rw [if_pos rfl] at H; exact H
                          clear H
                          have H := H1
                          clear H1
                          by_cases c35 : ((decide (x8_2 < t425)) != (decide (((rd_T78 l0_1 x8_2).f0) < a1))) = true
                          · rw [if_pos c35] at H
                            have c35b0 : ((decide (x8_2 < t425)) != (decide (((rd_T78 l0_1 x8_2).f0) < a1))) = true := c35
                            (try (have c35b1 : decide ((decide (x8_2 < t425)) = (decide (((rd_T78 l0_1 x8_2).f0) < a1))) = false := by simpa using c35))
                            (try (have c35b2 : ((decide (x8_2 < t425)) == (decide (((rd_T78 l0_1 x8_2).f0) < a1))) = false := by simpa using c35))
                            (try (have c35b3 : ¬ ((decide (x8_2 < t425)) = (decide (((rd_T78 l0_1 x8_2).f0) < a1))) := by simpa using c35))
                            clear c35
                            obtain rfl := Option.some.inj H
                            have hcz36_0 : wr.cell? ⟨gb422, 0, none⟩ = some (.bool true) := (blk_cell BK422.out 0).trans rfl
                            have hcz36_1 : wr.cell? ⟨gb422, 1, none⟩ = some (.slice A0_1 l0_1.length c0_1) := (blk_cell BK422.out 1).trans rfl
                            have hfz36_0 := blk_frozen BK422.out 0
                            have hfz36_1 := blk_frozen BK422.out 1
                            have p428 : 0 ≤ (x8_2 : Int) := of_decide_eq_true (by first | (with_reducible assumption) | assumption)
                            have q428 : x8_2 < (l0_1.length : Int) := of_decide_eq_true (by first | (with_reducible assumption) | assumption)
                            obtain ⟨ad428, e428, hx428_0, hx428_1⟩ := at_T78 HR0_1.out x8_2 p428 q428
                            cases e428
                            replace hx428_0 := (HB.out.cell (World.block_lt_of_cell? w _ hx428_0)).trans hx428_0
                            replace hx428_1 := (HB.out.cell (World.block_lt_of_cell? w _ hx428_1)).trans hx428_1
                            replace p428 := eq_true p428
                            replace q428 := eq_true q428
                            go_wp2
                            go_ret
                            exact ⟨by first | rfl | (simp [errW_none, errW_some] <;> rfl) | (simp [*, errW_none, errW_some] <;> rfl), by repeat (first | (with_reducible first | exact HB.out | apply below_alloc | apply pw_below_drewN | apply below_drew1 | refine below_set ?_ GE422.out) | exact HB.out)⟩
                          · rw [if_neg c35] at H
                            have c35b0 : ((decide (x8_2 < t425)) != (decide (((rd_T78 l0_1 x8_2).f0) < a1))) = false := by simpa using c35
                            (try (have c35b1 : decide ((decide (x8_2 < t425)) = (decide (((rd_T78 l0_1 x8_2).f0) < a1))) = true := by simpa using c35))
                            (try (have c35b2 : ((decide (x8_2 < t425)) == (decide (((rd_T78 l0_1 x8_2).f0) < a1))) = true := by simpa using c35))
                            clear c35
                            have H' := Aside0.mk H
                            clear H
                            have hcz37_0 : wr.cell? ⟨gb422, 0, none⟩ = some (.bool true) := (blk_cell BK422.out 0).trans rfl
                            have hcz37_1 : wr.cell? ⟨gb422, 1, none⟩ = some (.slice A0_1 l0_1.length c0_1) := (blk_cell BK422.out 1).trans rfl
                            have hfz37_0 := blk_frozen BK422.out 0
                            have hfz37_1 := blk_frozen BK422.out 1
                            have p428 : 0 ≤ (x8_2 : Int) := of_decide_eq_true (by first | (with_reducible assumption) | assumption)
                            have q428 : x8_2 < (l0_1.length : Int) := of_decide_eq_true (by first | (with_reducible assumption) | assumption)
                            obtain ⟨ad428, e428, hx428_0, hx428_1⟩ := at_T78 HR0_1.out x8_2 p428 q428
                            cases e428
                            replace hx428_0 := (HB.out.cell (World.block_lt_of_cell? w _ hx428_0)).trans hx428_0
                            replace hx428_1 := (HB.out.cell (World.block_lt_of_cell? w _ hx428_1)).trans hx428_1
                            replace p428 := eq_true p428
                            replace q428 := eq_true q428
                            go_wp2
                            go_roundg k2
                            case measure => have := HJ6.out; have := HK2.out; omega
                            case rel => exact ⟨(wrap64 (x8_2 + 1)), (by first | rfl | (simp; done) | (simp [*]; done)), H', ⟨by have := HJ6.out; have := HK2.out; omega⟩, ⟨by (with_reducible repeat (first | refine blk_drewN ?_ _ | refine blk_drew ?_ | refine blk_alloc ?_ _)); exact BK422.out⟩, ⟨by repeat (first | (with_reducible first | exact HB.out | apply below_alloc | apply pw_below_drewN | apply below_drew1 | refine below_set ?_ GE422.out) | exact HB.out)⟩⟩
                        · replace c34 := Bool.eq_false_iff.mpr c34
                          subst c34
                          have H1 : (if x8_2 > t425 then (if ((rd_T78 l0_1 x8_2).f0) ≤ a1 then (some false) else (if x8_2 > 0 then (if ((rd_T78 l0_1 x8_2).f0) > a1 then (some false) else (assartlaw04_NodeLeads.l0 k2 a1 t423 t425 true (wrap64 (x8_2 + 1)) false l0_1)) else (assartlaw04_NodeLeads.l0 k2 a1 t423 t425 true (wrap64 (x8_2 + 1)) false l0_1))) else (if x8_2 > 0 then (if ((rd_T78 l0_1 x8_2).f0) > a1 then (some false) else (assartlaw04_NodeLeads.l0 k2 a1 t423 t425 true (wrap64 (x8_2 + 1)) false l0_1)) else (assartlaw04_NodeLeads.l0 k2 a1 t423 t425 true (wrap64 (x8_2 + 1)) false l0_1))) = some r := by rw [if_neg (show ¬ (false = true) by decide)] at H; exact H
                          clear H
                          have H := H1
                          clear H1
                          by_cases c38 : x8_2 > t425
                          · rw [if_pos c38] at H
                            have c38b0 : decide (t425 < x8_2) = true := decide_eq_true c38
                            clear c38
                            by_cases c39 : ((rd_T78 l0_1 x8_2).f0) ≤ a1
                            · rw [if_pos c39] at H
                              have c39b0 : decide (((rd_T78 l0_1 x8_2).f0) ≤ a1) = true := decide_eq_true c39
                              clear c39
                              obtain rfl := Option.some.inj H
                              have hcz40_0 : wr.cell? ⟨gb422, 0, none⟩ = some (.bool false) := (blk_cell BK422.out 0).trans rfl
                              have hcz40_1 : wr.cell? ⟨gb422, 1, none⟩ = some (.slice A0_1 l0_1.length c0_1) := (blk_cell BK422.out 1).trans rfl
                              have hfz40_0 := blk_frozen BK422.out 0
                              have hfz40_1 := blk_frozen BK422.out 1
                              have p428 : 0 ≤ (x8_2 : Int) := of_decide_eq_true (by first | (with_reducible assumption) | assumption)
                              have q428 : x8_2 < (l0_1.length : Int) := of_decide_eq_true (by first | (with_reducible assumption) | assumption)
                              obtain ⟨ad428, e428, hx428_0, hx428_1⟩ := at_T78 HR0_1.out x8_2 p428 q428
                              cases e428
                              replace hx428_0 := (HB.out.cell (World.block_lt_of_cell? w _ hx428_0)).trans hx428_0
                              replace hx428_1 := (HB.out.cell (World.block_lt_of_cell? w _ hx428_1)).trans hx428_1
                              replace p428 := eq_true p428
                              replace q428 := eq_true q428
                              go_wp2
                              go_ret
                              exact ⟨by first | rfl | (simp [errW_none, errW_some] <;> rfl) | (simp [*, errW_none, errW_some] <;> rfl), by repeat (first | (with_reducible first | exact HB.out | apply below_alloc | apply pw_below_drewN | apply below_drew1 | refine below_set ?_ GE422.out) | exact HB.out)⟩
                            · rw [if_neg c39] at H
                              have c39b0 : decide (((rd_T78 l0_1 x8_2).f0) ≤ a1) = false := decide_eq_false c39
                              clear c39
                              by_cases c41 : x8_2 > 0
                              · rw [if_pos c41] at H
                                have c41b0 : decide (0 < x8_2) = true := decide_eq_true c41
                                clear c41
                                by_cases c42 : ((rd_T78 l0_1 x8_2).f0) > a1
                                · rw [if_pos c42] at H
                                  have c42b0 : decide (a1 < ((rd_T78 l0_1 x8_2).f0)) = true := decide_eq_true c42
                                  clear c42
                                  obtain rfl := Option.some.inj H
                                  have hcz43_0 : wr.cell? ⟨gb422, 0, none⟩ = some (.bool false) := (blk_cell BK422.out 0).trans rfl
                                  have hcz43_1 : wr.cell? ⟨gb422, 1, none⟩ = some (.slice A0_1 l0_1.length c0_1) := (blk_cell BK422.out 1).trans rfl
                                  have hfz43_0 := blk_frozen BK422.out 0
                                  have hfz43_1 := blk_frozen BK422.out 1
                                  have p428 : 0 ≤ (x8_2 : Int) := of_decide_eq_true (by first | (with_reducible assumption) | assumption)
                                  have q428 : x8_2 < (l0_1.length : Int) := of_decide_eq_true (by first | (with_reducible assumption) | assumption)
                                  obtain ⟨ad428, e428, hx428_0, hx428_1⟩ := at_T78 HR0_1.out x8_2 p428 q428
                                  cases e428
                                  replace hx428_0 := (HB.out.cell (World.block_lt_of_cell? w _ hx428_0)).trans hx428_0
                                  replace hx428_1 := (HB.out.cell (World.block_lt_of_cell? w _ hx428_1)).trans hx428_1
                                  replace p428 := eq_true p428
                                  replace q428 := eq_true q428
                                  go_wp2
                                  go_ret
                                  exact ⟨by first | rfl | (simp [errW_none, errW_some] <;> rfl) | (simp [*, errW_none, errW_some] <;> rfl), by repeat (first | (with_reducible first | exact HB.out | apply below_alloc | apply pw_below_drewN | apply below_drew1 | refine below_set ?_ GE422.out) | exact HB.out)⟩
                                · rw [if_neg c42] at H
                                  have c42b0 : decide (a1 < ((rd_T78 l0_1 x8_2).f0)) = false := decide_eq_false c42
                                  clear c42
                                  have H' := Aside0.mk H
                                  clear H
                                  have hcz44_0 : wr.cell? ⟨gb422, 0, none⟩ = some (.bool false) := (blk_cell BK422.out 0).trans rfl
                                  have hcz44_1 : wr.cell? ⟨gb422, 1, none⟩ = some (.slice A0_1 l0_1.length c0_1) := (blk_cell BK422.out 1).trans rfl
                                  have hfz44_0 := blk_frozen BK422.out 0
                                  have hfz44_1 := blk_frozen BK422.out 1
                                  have p428 : 0 ≤ (x8_2 : Int) := of_decide_eq_true (by first | (with_reducible assumption) | assumption)
                                  have q428 : x8_2 < (l0_1.length : Int) := of_decide_eq_true (by first | (with_reducible assumption) | assumption)
                                  obtain ⟨ad428, e428, hx428_0, hx428_1⟩ := at_T78 HR0_1.out x8_2 p428 q428
                                  cases e428
                                  replace hx428_0 := (HB.out.cell (World.block_lt_of_cell? w _ hx428_0)).trans hx428_0
                                  replace hx428_1 := (HB.out.cell (World.block_lt_of_cell? w _ hx428_1)).trans hx428_1
                                  replace p428 := eq_true p428
                                  replace q428 := eq_true q428
                                  go_wp2
                                  go_roundg k2
                                  case measure => have := HJ6.out; have := HK2.out; omega
                                  case rel => exact ⟨(wrap64 (x8_2 + 1)), (by first | rfl | (simp; done) | (simp [*]; done)), H', ⟨by have := HJ6.out; have := HK2.out; omega⟩, ⟨by (with_reducible repeat (first | refine blk_drewN ?_ _ | refine blk_drew ?_ | refine blk_alloc ?_ _)); exact BK422.out⟩, ⟨by repeat (first | (with_reducible first | exact HB.out | apply below_alloc | apply pw_below_drewN | apply below_drew1 | refine below_set ?_ GE422.out) | exact HB.out)⟩⟩
                              · rw [if_neg c41] at H
                                have c41b0 : decide (0 < x8_2) = false := decide_eq_false c41
                                clear c41
                                have H' := Aside0.mk H
                                clear H
                                have hcz45_0 : wr.cell? ⟨gb422, 0, none⟩ = some (.bool false) := (blk_cell BK422.out 0).trans rfl
                                have hcz45_1 : wr.cell? ⟨gb422, 1, none⟩ = some (.slice A0_1 l0_1.length c0_1) := (blk_cell BK422.out 1).trans rfl
                                have hfz45_0 := blk_frozen BK422.out 0
                                have hfz45_1 := blk_frozen BK422.out 1
                                have p428 : 0 ≤ (x8_2 : Int) := of_decide_eq_true (by first | (with_reducible assumption) | assumption)
                                have q428 : x8_2 < (l0_1.length : Int) := of_decide_eq_true (by first | (with_reducible assumption) | assumption)
                                obtain ⟨ad428, e428, hx428_0, hx428_1⟩ := at_T78 HR0_1.out x8_2 p428 q428
                                cases e428
                                replace hx428_0 := (HB.out.cell (World.block_lt_of_cell? w _ hx428_0)).trans hx428_0
                                replace hx428_1 := (HB.out.cell (World.block_lt_of_cell? w _ hx428_1)).trans hx428_1
                                replace p428 := eq_true p428
                                replace q428 := eq_true q428
                                go_wp2
                                go_roundg k2
                                case measure => have := HJ6.out; have := HK2.out; omega
                                case rel => exact ⟨(wrap64 (x8_2 + 1)), (by first | rfl | (simp; done) | (simp [*]; done)), H', ⟨by have := HJ6.out; have := HK2.out; omega⟩, ⟨by (with_reducible repeat (first | refine blk_drewN ?_ _ | refine blk_drew ?_ | refine blk_alloc ?_ _)); exact BK422.out⟩, ⟨by repeat (first | (with_reducible first | exact HB.out | apply below_alloc | apply pw_below_drewN | apply below_drew1 | refine below_set ?_ GE422.out) | exact HB.out)⟩⟩
                          · rw [if_neg c38] at H
                            have c38b0 : decide (t425 < x8_2) = false := decide_eq_false c38
                            clear c38
                            by_cases c46 : x8_2 > 0
                            · rw [if_pos c46] at H
                              have c46b0 : decide (0 < x8_2) = true := decide_eq_true c46
                              clear c46
                              by_cases c47 : ((rd_T78 l0_1 x8_2).f0) > a1
                              · rw [if_pos c47] at H
                                have c47b0 : decide (a1 < ((rd_T78 l0_1 x8_2).f0)) = true := decide_eq_true c47
                                clear c47
                                obtain rfl := Option.some.inj H
                                have hcz48_0 : wr.cell? ⟨gb422, 0, none⟩ = some (.bool false) := (blk_cell BK422.out 0).trans rfl
                                have hcz48_1 : wr.cell? ⟨gb422, 1, none⟩ = some (.slice A0_1 l0_1.length c0_1) := (blk_cell BK422.out 1).trans rfl
                                have hfz48_0 := blk_frozen BK422.out 0
                                have hfz48_1 := blk_frozen BK422.out 1
                                have p428 : 0 ≤ (x8_2 : Int) := of_decide_eq_true (by first | (with_reducible assumption) | assumption)
                                have q428 : x8_2 < (l0_1.length : Int) := of_decide_eq_true (by first | (with_reducible assumption) | assumption)
                                obtain ⟨ad428, e428, hx428_0, hx428_1⟩ := at_T78 HR0_1.out x8_2 p428 q428
                                cases e428
                                replace hx428_0 := (HB.out.cell (World.block_lt_of_cell? w _ hx428_0)).trans hx428_0
                                replace hx428_1 := (HB.out.cell (World.block_lt_of_cell? w _ hx428_1)).trans hx428_1
                                replace p428 := eq_true p428
                                replace q428 := eq_true q428
                                go_wp2
                                go_ret
                                exact ⟨by first | rfl | (simp [errW_none, errW_some] <;> rfl) | (simp [*, errW_none, errW_some] <;> rfl), by repeat (first | (with_reducible first | exact HB.out | apply below_alloc | apply pw_below_drewN | apply below_drew1 | refine below_set ?_ GE422.out) | exact HB.out)⟩
                              · rw [if_neg c47] at H
                                have c47b0 : decide (a1 < ((rd_T78 l0_1 x8_2).f0)) = false := decide_eq_false c47
                                clear c47
                                have H' := Aside0.mk H
                                clear H
                                have hcz49_0 : wr.cell? ⟨gb422, 0, none⟩ = some (.bool false) := (blk_cell BK422.out 0).trans rfl
                                have hcz49_1 : wr.cell? ⟨gb422, 1, none⟩ = some (.slice A0_1 l0_1.length c0_1) := (blk_cell BK422.out 1).trans rfl
                                have hfz49_0 := blk_frozen BK422.out 0
                                have hfz49_1 := blk_frozen BK422.out 1
                                have p428 : 0 ≤ (x8_2 : Int) := of_decide_eq_true (by first | (with_reducible assumption) | assumption)
                                have q428 : x8_2 < (l0_1.length : Int) := of_decide_eq_true (by first | (with_reducible assumption) | assumption)
                                obtain ⟨ad428, e428, hx428_0, hx428_1⟩ := at_T78 HR0_1.out x8_2 p428 q428
                                cases e428
                                replace hx428_0 := (HB.out.cell (World.block_lt_of_cell? w _ hx428_0)).trans hx428_0
                                replace hx428_1 := (HB.out.cell (World.block_lt_of_cell? w _ hx428_1)).trans hx428_1
                                replace p428 := eq_true p428
                                replace q428 := eq_true q428
                                go_wp2
                                go_roundg k2
                                case measure => have := HJ6.out; have := HK2.out; omega
                                case rel => exact ⟨(wrap64 (x8_2 + 1)), (by first | rfl | (simp; done) | (simp [*]; done)), H', ⟨by have := HJ6.out; have := HK2.out; omega⟩, ⟨by (with_reducible repeat (first | refine blk_drewN ?_ _ | refine blk_drew ?_ | refine blk_alloc ?_ _)); exact BK422.out⟩, ⟨by repeat (first | (with_reducible first | exact HB.out | apply below_alloc | apply pw_below_drewN | apply below_drew1 | refine below_set ?_ GE422.out) | exact HB.out)⟩⟩
                            · rw [if_neg c46] at H
                              have c46b0 : decide (0 < x8_2) = false := decide_eq_false c46
                              clear c46
                              have H' := Aside0.mk H
                              clear H
                              have hcz50_0 : wr.cell? ⟨gb422, 0, none⟩ = some (.bool false) := (blk_cell BK422.out 0).trans rfl
                              have hcz50_1 : wr.cell? ⟨gb422, 1, none⟩ = some (.slice A0_1 l0_1.length c0_1) := (blk_cell BK422.out 1).trans rfl
                              have hfz50_0 := blk_frozen BK422.out 0
                              have hfz50_1 := blk_frozen BK422.out 1
                              have p428 : 0 ≤ (x8_2 : Int) := of_decide_eq_true (by first | (with_reducible assumption) | assumption)
                              have q428 : x8_2 < (l0_1.length : Int) := of_decide_eq_true (by first | (with_reducible assumption) | assumption)
                              obtain ⟨ad428, e428, hx428_0, hx428_1⟩ := at_T78 HR0_1.out x8_2 p428 q428
                              cases e428
                              replace hx428_0 := (HB.out.cell (World.block_lt_of_cell? w _ hx428_0)).trans hx428_0
                              replace hx428_1 := (HB.out.cell (World.block_lt_of_cell? w _ hx428_1)).trans hx428_1
                              replace p428 := eq_true p428
                              replace q428 := eq_true q428
                              go_wp2
                              go_roundg k2
                              case measure => have := HJ6.out; have := HK2.out; omega
                              case rel => exact ⟨(wrap64 (x8_2 + 1)), (by first | rfl | (simp; done) | (simp [*]; done)), H', ⟨by have := HJ6.out; have := HK2.out; omega⟩, ⟨by (with_reducible repeat (first | refine blk_drewN ?_ _ | refine blk_drew ?_ | refine blk_alloc ?_ _)); exact BK422.out⟩, ⟨by repeat (first | (with_reducible first | exact HB.out | apply below_alloc | apply pw_below_drewN | apply below_drew1 | refine below_set ?_ GE422.out) | exact HB.out)⟩⟩
                      · rw [if_neg c33] at H
                        have c33b0 : (x8_2 == t425) = false := beq_eq_false_iff_ne.mpr c33
                        have c33b1 : (x8_2 != t425) = true := bne_iff_ne.mpr c33
                        obtain rfl := Option.some.inj H
                        have hcz51_0 : wr.cell? ⟨gb422, 0, none⟩ = some (.bool a0_0) := (blk_cell BK422.out 0).trans rfl
                        have hcz51_1 : wr.cell? ⟨gb422, 1, none⟩ = some (.slice A0_1 l0_1.length c0_1) := (blk_cell BK422.out 1).trans rfl
                        have hfz51_0 := blk_frozen BK422.out 0
                        have hfz51_1 := blk_frozen BK422.out 1
                        have p428 : 0 ≤ (x8_2 : Int) := of_decide_eq_true (by first | (with_reducible assumption) | assumption)
                        have q428 : x8_2 < (l0_1.length : Int) := of_decide_eq_true (by first | (with_reducible assumption) | assumption)
                        obtain ⟨ad428, e428, hx428_0, hx428_1⟩ := at_T78 HR0_1.out x8_2 p428 q428
                        cases e428
                        replace hx428_0 := (HB.out.cell (World.block_lt_of_cell? w _ hx428_0)).trans hx428_0
                        replace hx428_1 := (HB.out.cell (World.block_lt_of_cell? w _ hx428_1)).trans hx428_1
                        replace p428 := eq_true p428
                        replace q428 := eq_true q428
                        go_wp2
                        go_ret
                        exact ⟨by first | rfl | (simp [errW_none, errW_some] <;> rfl) | (simp [*, errW_none, errW_some] <;> rfl), by repeat (first | (with_reducible first | exact HB.out | apply below_alloc | apply pw_below_drewN | apply below_drew1 | refine below_set ?_ GE422.out) | exact HB.out)⟩
                    · replace c32 := Bool.eq_false_iff.mpr c32
                      subst c32
                      have H1 : (some false) = some r := by rw [if_neg (show ¬ (false = true) by decide)] at H; exact H
                      clear H
                      have H := H1
                      clear H1
                      obtain rfl := Option.some.inj H
                      have hcz52_0 : wr.cell? ⟨gb422, 0, none⟩ = some (.bool a0_0) := (blk_cell BK422.out 0).trans rfl
                      have hcz52_1 : wr.cell? ⟨gb422, 1, none⟩ = some (.slice A0_1 l0_1.length c0_1) := (blk_cell BK422.out 1).trans rfl
                      have hfz52_0 := blk_frozen BK422.out 0
                      have hfz52_1 := blk_frozen BK422.out 1
                      have p428 : 0 ≤ (x8_2 : Int) := of_decide_eq_true (by first | (with_reducible assumption) | assumption)
                      have q428 : x8_2 < (l0_1.length : Int) := of_decide_eq_true (by first | (with_reducible assumption) | assumption)
                      obtain ⟨ad428, e428, hx428_0, hx428_1⟩ := at_T78 HR0_1.out x8_2 p428 q428
                      cases e428
                      replace hx428_0 := (HB.out.cell (World.block_lt_of_cell? w _ hx428_0)).trans hx428_0
                      replace hx428_1 := (HB.out.cell (World.block_lt_of_cell? w _ hx428_1)).trans hx428_1
                      replace p428 := eq_true p428
                      replace q428 := eq_true q428
                      go_wp2
                      go_ret
                      exact ⟨by first | rfl | (simp [errW_none, errW_some] <;> rfl) | (simp [*, errW_none, errW_some] <;> rfl), by repeat (first | (with_reducible first | exact HB.out | apply below_alloc | apply pw_below_drewN | apply below_drew1 | refine below_set ?_ GE422.out) | exact HB.out)⟩
                  · rw [if_neg c31] at H
                    have c31b0 : (((rd_T78 l0_1 x8_2).f0) == a1) = false := beq_eq_false_iff_ne.mpr c31
                    have c31b1 : (((rd_T78 l0_1 x8_2).f0) != a1) = true := bne_iff_ne.mpr c31
                    by_cases c53 : a0_0 = true
                    · subst c53
                      have H1 : (if ((decide (x8_2 < t425)) != (decide (((rd_T78 l0_1 x8_2).f0) < a1))) = true then (some false) else (assartlaw04_NodeLeads.l0 k2 a1 t423 t425 t426 (wrap64 (x8_2 + 1)) true l0_1)) = some r := by rw [if_pos rfl] at H; exact H
                      clear H
                      have H := H1
                      clear H1
                      by_cases c54 : ((decide (x8_2 < t425)) != (decide (((rd_T78 l0_1 x8_2).f0) < a1))) = true
                      · rw [if_pos c54] at H
                        have c54b0 : ((decide (x8_2 < t425)) != (decide (((rd_T78 l0_1 x8_2).f0) < a1))) = true := c54
                        (try (have c54b1 : decide ((decide (x8_2 < t425)) = (decide (((rd_T78 l0_1 x8_2).f0) < a1))) = false := by simpa using c54))
                        (try (have c54b2 : ((decide (x8_2 < t425)) == (decide (((rd_T78 l0_1 x8_2).f0) < a1))) = false := by simpa using c54))
                        (try (have c54b3 : ¬ ((decide (x8_2 < t425)) = (decide (((rd_T78 l0_1 x8_2).f0) < a1))) := by simpa using c54))
                        clear c54
                        obtain rfl := Option.some.inj H
                        have hcz55_0 : wr.cell? ⟨gb422, 0, none⟩ = some (.bool true) := (blk_cell BK422.out 0).trans rfl
                        have hcz55_1 : wr.cell? ⟨gb422, 1, none⟩ = some (.slice A0_1 l0_1.length c0_1) := (blk_cell BK422.out 1).trans rfl
                        have hfz55_0 := blk_frozen BK422.out 0
                        have hfz55_1 := blk_frozen BK422.out 1
                        have p428 : 0 ≤ (x8_2 : Int) := of_decide_eq_true (by first | (with_reducible assumption) | assumption)
                        have q428 : x8_2 < (l0_1.length : Int) := of_decide_eq_true (by first | (with_reducible assumption) | assumption)
                        obtain ⟨ad428, e428, hx428_0, hx428_1⟩ := at_T78 HR0_1.out x8_2 p428 q428
                        cases e428
                        replace hx428_0 := (HB.out.cell (World.block_lt_of_cell? w _ hx428_0)).trans hx428_0
                        replace hx428_1 := (HB.out.cell (World.block_lt_of_cell? w _ hx428_1)).trans hx428_1
                        replace p428 := eq_true p428
                        replace q428 := eq_true q428
                        go_wp2
                        go_ret
                        exact ⟨by first | rfl | (simp [errW_none, errW_some] <;> rfl) | (simp [*, errW_none, errW_some] <;> rfl), by repeat (first | (with_reducible first | exact HB.out | apply below_alloc | apply pw_below_drewN | apply below_drew1 | refine below_set ?_ GE422.out) | exact HB.out)⟩
                      · rw [if_neg c54] at H
                        have c54b0 : ((decide (x8_2 < t425)) != (decide (((rd_T78 l0_1 x8_2).f0) < a1))) = false := by simpa using c54
                        (try (have c54b1 : decide ((decide (x8_2 < t425)) = (decide (((rd_T78 l0_1 x8_2).f0) < a1))) = true := by simpa using c54))
                        (try (have c54b2 : ((decide (x8_2 < t425)) == (decide (((rd_T78 l0_1 x8_2).f0) < a1))) = true := by simpa using c54))
                        clear c54
                        have H' := Aside0.mk H
                        clear H
                        have hcz56_0 : wr.cell? ⟨gb422, 0, none⟩ = some (.bool true) := (blk_cell BK422.out 0).trans rfl
                        have hcz56_1 : wr.cell? ⟨gb422, 1, none⟩ = some (.slice A0_1 l0_1.length c0_1) := (blk_cell BK422.out 1).trans rfl
                        have hfz56_0 := blk_frozen BK422.out 0
                        have hfz56_1 := blk_frozen BK422.out 1
                        have p428 : 0 ≤ (x8_2 : Int) := of_decide_eq_true (by first | (with_reducible assumption) | assumption)
                        have q428 : x8_2 < (l0_1.length : Int) := of_decide_eq_true (by first | (with_reducible assumption) | assumption)
                        obtain ⟨ad428, e428, hx428_0, hx428_1⟩ := at_T78 HR0_1.out x8_2 p428 q428
                        cases e428
                        replace hx428_0 := (HB.out.cell (World.block_lt_of_cell? w _ hx428_0)).trans hx428_0
                        replace hx428_1 := (HB.out.cell (World.block_lt_of_cell? w _ hx428_1)).trans hx428_1
                        replace p428 := eq_true p428
                        replace q428 := eq_true q428
                        go_wp2
                        go_roundg k2
                        case measure => have := HJ6.out; have := HK2.out; omega
                        case rel => exact ⟨(wrap64 (x8_2 + 1)), (by first | rfl | (simp; done) | (simp [*]; done)), H', ⟨by have := HJ6.out; have := HK2.out; omega⟩, ⟨by (with_reducible repeat (first | refine blk_drewN ?_ _ | refine blk_drew ?_ | refine blk_alloc ?_ _)); exact BK422.out⟩, ⟨by repeat (first | (with_reducible first | exact HB.out | apply below_alloc | apply pw_below_drewN | apply below_drew1 | refine below_set ?_ GE422.out) | exact HB.out)⟩⟩
                    · replace c53 := Bool.eq_false_iff.mpr c53
                      subst c53
                      have H1 : (if x8_2 > t425 then (if ((rd_T78 l0_1 x8_2).f0) ≤ a1 then (some false) else (if x8_2 > 0 then (if x8_2 = t425 then (if ((rd_T78 l0_1 x8_2).f0) > a1 then (some false) else (assartlaw04_NodeLeads.l0 k2 a1 t423 t425 t426 (wrap64 (x8_2 + 1)) false l0_1)) else (assartlaw04_NodeLeads.l0 k2 a1 t423 t425 t426 (wrap64 (x8_2 + 1)) false l0_1)) else (assartlaw04_NodeLeads.l0 k2 a1 t423 t425 t426 (wrap64 (x8_2 + 1)) false l0_1))) else (if x8_2 > 0 then (if x8_2 = t425 then (if ((rd_T78 l0_1 x8_2).f0) > a1 then (some false) else (assartlaw04_NodeLeads.l0 k2 a1 t423 t425 t426 (wrap64 (x8_2 + 1)) false l0_1)) else (assartlaw04_NodeLeads.l0 k2 a1 t423 t425 t426 (wrap64 (x8_2 + 1)) false l0_1)) else (assartlaw04_NodeLeads.l0 k2 a1 t423 t425 t426 (wrap64 (x8_2 + 1)) false l0_1))) = some r := by rw [if_neg (show ¬ (false = true) by decide)] at H; exact H
                      clear H
                      have H := H1
                      clear H1
                      by_cases c57 : x8_2 > t425
                      · rw [if_pos c57] at H
                        have c57b0 : decide (t425 < x8_2) = true := decide_eq_true c57
                        clear c57
                        by_cases c58 : ((rd_T78 l0_1 x8_2).f0) ≤ a1
                        · rw [if_pos c58] at H
                          have c58b0 : decide (((rd_T78 l0_1 x8_2).f0) ≤ a1) = true := decide_eq_true c58
                          clear c58
                          obtain rfl := Option.some.inj H
                          have hcz59_0 : wr.cell? ⟨gb422, 0, none⟩ = some (.bool false) := (blk_cell BK422.out 0).trans rfl
                          have hcz59_1 : wr.cell? ⟨gb422, 1, none⟩ = some (.slice A0_1 l0_1.length c0_1) := (blk_cell BK422.out 1).trans rfl
                          have hfz59_0 := blk_frozen BK422.out 0
                          have hfz59_1 := blk_frozen BK422.out 1
                          have p428 : 0 ≤ (x8_2 : Int) := of_decide_eq_true (by first | (with_reducible assumption) | assumption)
                          have q428 : x8_2 < (l0_1.length : Int) := of_decide_eq_true (by first | (with_reducible assumption) | assumption)
                          obtain ⟨ad428, e428, hx428_0, hx428_1⟩ := at_T78 HR0_1.out x8_2 p428 q428
                          cases e428
                          replace hx428_0 := (HB.out.cell (World.block_lt_of_cell? w _ hx428_0)).trans hx428_0
                          replace hx428_1 := (HB.out.cell (World.block_lt_of_cell? w _ hx428_1)).trans hx428_1
                          replace p428 := eq_true p428
                          replace q428 := eq_true q428
                          go_wp2
                          go_ret
                          exact ⟨by first | rfl | (simp [errW_none, errW_some] <;> rfl) | (simp [*, errW_none, errW_some] <;> rfl), by repeat (first | (with_reducible first | exact HB.out | apply below_alloc | apply pw_below_drewN | apply below_drew1 | refine below_set ?_ GE422.out) | exact HB.out)⟩
                        · rw [if_neg c58] at H
                          have c58b0 : decide (((rd_T78 l0_1 x8_2).f0) ≤ a1) = false := decide_eq_false c58
                          clear c58
                          by_cases c60 : x8_2 > 0
                          · rw [if_pos c60] at H
                            have c60b0 : decide (0 < x8_2) = true := decide_eq_true c60
                            clear c60
                            by_cases c61 : x8_2 = t425
                            · rw [if_pos c61] at H
                              have c61b0 : (x8_2 == t425) = true := beq_iff_eq.mpr c61
                              have c61b1 : (x8_2 != t425) = false := bne_eq_false_iff_eq.mpr c61
                              clear c61
                              by_cases c62 : ((rd_T78 l0_1 x8_2).f0) > a1
                              · rw [if_pos c62] at H
                                have c62b0 : decide (a1 < ((rd_T78 l0_1 x8_2).f0)) = true := decide_eq_true c62
                                clear c62
                                obtain rfl := Option.some.inj H
                                have hcz63_0 : wr.cell? ⟨gb422, 0, none⟩ = some (.bool false) := (blk_cell BK422.out 0).trans rfl
                                have hcz63_1 : wr.cell? ⟨gb422, 1, none⟩ = some (.slice A0_1 l0_1.length c0_1) := (blk_cell BK422.out 1).trans rfl
                                have hfz63_0 := blk_frozen BK422.out 0
                                have hfz63_1 := blk_frozen BK422.out 1
                                have p428 : 0 ≤ (x8_2 : Int) := of_decide_eq_true (by first | (with_reducible assumption) | assumption)
                                have q428 : x8_2 < (l0_1.length : Int) := of_decide_eq_true (by first | (with_reducible assumption) | assumption)
                                obtain ⟨ad428, e428, hx428_0, hx428_1⟩ := at_T78 HR0_1.out x8_2 p428 q428
                                cases e428
                                replace hx428_0 := (HB.out.cell (World.block_lt_of_cell? w _ hx428_0)).trans hx428_0
                                replace hx428_1 := (HB.out.cell (World.block_lt_of_cell? w _ hx428_1)).trans hx428_1
                                replace p428 := eq_true p428
                                replace q428 := eq_true q428
                                go_wp2
                                go_ret
                                exact ⟨by first | rfl | (simp [errW_none, errW_some] <;> rfl) | (simp [*, errW_none, errW_some] <;> rfl), by repeat (first | (with_reducible first | exact HB.out | apply below_alloc | apply pw_below_drewN | apply below_drew1 | refine below_set ?_ GE422.out) | exact HB.out)⟩
                              · rw [if_neg c62] at H
                                have c62b0 : decide (a1 < ((rd_T78 l0_1 x8_2).f0)) = false := decide_eq_false c62
                                clear c62
                                have H' := Aside0.mk H
                                clear H
                                have hcz64_0 : wr.cell? ⟨gb422, 0, none⟩ = some (.bool false) := (blk_cell BK422.out 0).trans rfl
                                have hcz64_1 : wr.cell? ⟨gb422, 1, none⟩ = some (.slice A0_1 l0_1.length c0_1) := (blk_cell BK422.out 1).trans rfl
                                have hfz64_0 := blk_frozen BK422.out 0
                                have hfz64_1 := blk_frozen BK422.out 1
                                have p428 : 0 ≤ (x8_2 : Int) := of_decide_eq_true (by first | (with_reducible assumption) | assumption)
                                have q428 : x8_2 < (l0_1.length : Int) := of_decide_eq_true (by first | (with_reducible assumption) | assumption)
                                obtain ⟨ad428, e428, hx428_0, hx428_1⟩ := at_T78 HR0_1.out x8_2 p428 q428
                                cases e428
                                replace hx428_0 := (HB.out.cell (World.block_lt_of_cell? w _ hx428_0)).trans hx428_0
                                replace hx428_1 := (HB.out.cell (World.block_lt_of_cell? w _ hx428_1)).trans hx428_1
                                replace p428 := eq_true p428
                                replace q428 := eq_true q428
                                go_wp2
                                go_roundg k2
                                case measure => have := HJ6.out; have := HK2.out; omega
                                case rel => exact ⟨(wrap64 (x8_2 + 1)), (by first | rfl | (simp; done) | (simp [*]; done)), H', ⟨by have := HJ6.out; have := HK2.out; omega⟩, ⟨by (with_reducible repeat (first | refine blk_drewN ?_ _ | refine blk_drew ?_ | refine blk_alloc ?_ _)); exact BK422.out⟩, ⟨by repeat (first | (with_reducible first | exact HB.out | apply below_alloc | apply pw_below_drewN | apply below_drew1 | refine below_set ?_ GE422.out) | exact HB.out)⟩⟩
                            · rw [if_neg c61] at H
                              have c61b0 : (x8_2 == t425) = false := beq_eq_false_iff_ne.mpr c61
                              have c61b1 : (x8_2 != t425) = true := bne_iff_ne.mpr c61
                              have H' := Aside0.mk H
                              clear H
                              have hcz65_0 : wr.cell? ⟨gb422, 0, none⟩ = some (.bool false) := (blk_cell BK422.out 0).trans rfl
                              have hcz65_1 : wr.cell? ⟨gb422, 1, none⟩ = some (.slice A0_1 l0_1.length c0_1) := (blk_cell BK422.out 1).trans rfl
                              have hfz65_0 := blk_frozen BK422.out 0
                              have hfz65_1 := blk_frozen BK422.out 1
                              have p428 : 0 ≤ (x8_2 : Int) := of_decide_eq_true (by first | (with_reducible assumption) | assumption)
                              have q428 : x8_2 < (l0_1.length : Int) := of_decide_eq_true (by first | (with_reducible assumption) | assumption)
                              obtain ⟨ad428, e428, hx428_0, hx428_1⟩ := at_T78 HR0_1.out x8_2 p428 q428
                              cases e428
                              replace hx428_0 := (HB.out.cell (World.block_lt_of_cell? w _ hx428_0)).trans hx428_0
                              replace hx428_1 := (HB.out.cell (World.block_lt_of_cell? w _ hx428_1)).trans hx428_1
                              replace p428 := eq_true p428
                              replace q428 := eq_true q428
                              go_wp2
                              go_roundg k2
                              case measure => have := HJ6.out; have := HK2.out; omega
                              case rel => exact ⟨(wrap64 (x8_2 + 1)), (by first | rfl | (simp; done) | (simp [*]; done)), H', ⟨by have := HJ6.out; have := HK2.out; omega⟩, ⟨by (with_reducible repeat (first | refine blk_drewN ?_ _ | refine blk_drew ?_ | refine blk_alloc ?_ _)); exact BK422.out⟩, ⟨by repeat (first | (with_reducible first | exact HB.out | apply below_alloc | apply pw_below_drewN | apply below_drew1 | refine below_set ?_ GE422.out) | exact HB.out)⟩⟩
                          · rw [if_neg c60] at H
                            have c60b0 : decide (0 < x8_2) = false := decide_eq_false c60
                            clear c60
                            have H' := Aside0.mk H
                            clear H
                            have hcz66_0 : wr.cell? ⟨gb422, 0, none⟩ = some (.bool false) := (blk_cell BK422.out 0).trans rfl
                            have hcz66_1 : wr.cell? ⟨gb422, 1, none⟩ = some (.slice A0_1 l0_1.length c0_1) := (blk_cell BK422.out 1).trans rfl
                            have hfz66_0 := blk_frozen BK422.out 0
                            have hfz66_1 := blk_frozen BK422.out 1
                            have p428 : 0 ≤ (x8_2 : Int) := of_decide_eq_true (by first | (with_reducible assumption) | assumption)
                            have q428 : x8_2 < (l0_1.length : Int) := of_decide_eq_true (by first | (with_reducible assumption) | assumption)
                            obtain ⟨ad428, e428, hx428_0, hx428_1⟩ := at_T78 HR0_1.out x8_2 p428 q428
                            cases e428
                            replace hx428_0 := (HB.out.cell (World.block_lt_of_cell? w _ hx428_0)).trans hx428_0
                            replace hx428_1 := (HB.out.cell (World.block_lt_of_cell? w _ hx428_1)).trans hx428_1
                            replace p428 := eq_true p428
                            replace q428 := eq_true q428
                            go_wp2
                            go_roundg k2
                            case measure => have := HJ6.out; have := HK2.out; omega
                            case rel => exact ⟨(wrap64 (x8_2 + 1)), (by first | rfl | (simp; done) | (simp [*]; done)), H', ⟨by have := HJ6.out; have := HK2.out; omega⟩, ⟨by (with_reducible repeat (first | refine blk_drewN ?_ _ | refine blk_drew ?_ | refine blk_alloc ?_ _)); exact BK422.out⟩, ⟨by repeat (first | (with_reducible first | exact HB.out | apply below_alloc | apply pw_below_drewN | apply below_drew1 | refine below_set ?_ GE422.out) | exact HB.out)⟩⟩
                      · rw [if_neg c57] at H
                        have c57b0 : decide (t425 < x8_2) = false := decide_eq_false c57
                        clear c57
                        by_cases c67 : x8_2 > 0
                        · rw [if_pos c67] at H
                          have c67b0 : decide (0 < x8_2) = true := decide_eq_true c67
                          clear c67
                          by_cases c68 : x8_2 = t425
                          · rw [if_pos c68] at H
                            have c68b0 : (x8_2 == t425) = true := beq_iff_eq.mpr c68
                            have c68b1 : (x8_2 != t425) = false := bne_eq_false_iff_eq.mpr c68
                            clear c68
                            by_cases c69 : ((rd_T78 l0_1 x8_2).f0) > a1
                            · rw [if_pos c69] at H
                              have c69b0 : decide (a1 < ((rd_T78 l0_1 x8_2).f0)) = true := decide_eq_true c69
                              clear c69
                              obtain rfl := Option.some.inj H
                              have hcz70_0 : wr.cell? ⟨gb422, 0, none⟩ = some (.bool false) := (blk_cell BK422.out 0).trans rfl
                              have hcz70_1 : wr.cell? ⟨gb422, 1, none⟩ = some (.slice A0_1 l0_1.length c0_1) := (blk_cell BK422.out 1).trans rfl
                              have hfz70_0 := blk_frozen BK422.out 0
                              have hfz70_1 := blk_frozen BK422.out 1
                              have p428 : 0 ≤ (x8_2 : Int) := of_decide_eq_true (by first | (with_reducible assumption) | assumption)
                              have q428 : x8_2 < (l0_1.length : Int) := of_decide_eq_true (by first | (with_reducible assumption) | assumption)
                              obtain ⟨ad428, e428, hx428_0, hx428_1⟩ := at_T78 HR0_1.out x8_2 p428 q428
                              cases e428
                              replace hx428_0 := (HB.out.cell (World.block_lt_of_cell? w _ hx428_0)).trans hx428_0
                              replace hx428_1 := (HB.out.cell (World.block_lt_of_cell? w _ hx428_1)).trans hx428_1
                              replace p428 := eq_true p428
                              replace q428 := eq_true q428
                              go_wp2
                              go_ret
                              exact ⟨by first | rfl | (simp [errW_none, errW_some] <;> rfl) | (simp [*, errW_none, errW_some] <;> rfl), by repeat (first | (with_reducible first | exact HB.out | apply below_alloc | apply pw_below_drewN | apply below_drew1 | refine below_set ?_ GE422.out) | exact HB.out)⟩
                            · rw [if_neg c69] at H
                              have c69b0 : decide (a1 < ((rd_T78 l0_1 x8_2).f0)) = false := decide_eq_false c69
                              clear c69
                              have H' := Aside0.mk H
                              clear H
                              have hcz71_0 : wr.cell? ⟨gb422, 0, none⟩ = some (.bool false) := (blk_cell BK422.out 0).trans rfl
                              have hcz71_1 : wr.cell? ⟨gb422, 1, none⟩ = some (.slice A0_1 l0_1.length c0_1) := (blk_cell BK422.out 1).trans rfl
                              have hfz71_0 := blk_frozen BK422.out 0
                              have hfz71_1 := blk_frozen BK422.out 1
                              have p428 : 0 ≤ (x8_2 : Int) := of_decide_eq_true (by first | (with_reducible assumption) | assumption)
                              have q428 : x8_2 < (l0_1.length : Int) := of_decide_eq_true (by first | (with_reducible assumption) | assumption)
                              obtain ⟨ad428, e428, hx428_0, hx428_1⟩ := at_T78 HR0_1.out x8_2 p428 q428
                              cases e428
                              replace hx428_0 := (HB.out.cell (World.block_lt_of_cell? w _ hx428_0)).trans hx428_0
                              replace hx428_1 := (HB.out.cell (World.block_lt_of_cell? w _ hx428_1)).trans hx428_1
                              replace p428 := eq_true p428
                              replace q428 := eq_true q428
                              go_wp2
                              go_roundg k2
                              case measure => have := HJ6.out; have := HK2.out; omega
                              case rel => exact ⟨(wrap64 (x8_2 + 1)), (by first | rfl | (simp; done) | (simp [*]; done)), H', ⟨by have := HJ6.out; have := HK2.out; omega⟩, ⟨by (with_reducible repeat (first | refine blk_drewN ?_ _ | refine blk_drew ?_ | refine blk_alloc ?_ _)); exact BK422.out⟩, ⟨by repeat (first | (with_reducible first | exact HB.out | apply below_alloc | apply pw_below_drewN | apply below_drew1 | refine below_set ?_ GE422.out) | exact HB.out)⟩⟩
                          · rw [if_neg c68] at H
                            have c68b0 : (x8_2 == t425) = false := beq_eq_false_iff_ne.mpr c68
                            have c68b1 : (x8_2 != t425) = true := bne_iff_ne.mpr c68
                            have H' := Aside0.mk H
                            clear H
                            have hcz72_0 : wr.cell? ⟨gb422, 0, none⟩ = some (.bool false) := (blk_cell BK422.out 0).trans rfl
                            have hcz72_1 : wr.cell? ⟨gb422, 1, none⟩ = some (.slice A0_1 l0_1.length c0_1) := (blk_cell BK422.out 1).trans rfl
                            have hfz72_0 := blk_frozen BK422.out 0
                            have hfz72_1 := blk_frozen BK422.out 1
                            have p428 : 0 ≤ (x8_2 : Int) := of_decide_eq_true (by first | (with_reducible assumption) | assumption)
                            have q428 : x8_2 < (l0_1.length : Int) := of_decide_eq_true (by first | (with_reducible assumption) | assumption)
                            obtain ⟨ad428, e428, hx428_0, hx428_1⟩ := at_T78 HR0_1.out x8_2 p428 q428
                            cases e428
                            replace hx428_0 := (HB.out.cell (World.block_lt_of_cell? w _ hx428_0)).trans hx428_0
                            replace hx428_1 := (HB.out.cell (World.block_lt_of_cell? w _ hx428_1)).trans hx428_1
                            replace p428 := eq_true p428
                            replace q428 := eq_true q428
                            go_wp2
                            go_roundg k2
                            case measure => have := HJ6.out; have := HK2.out; omega
                            case rel => exact ⟨(wrap64 (x8_2 + 1)), (by first | rfl | (simp; done) | (simp [*]; done)), H', ⟨by have := HJ6.out; have := HK2.out; omega⟩, ⟨by (with_reducible repeat (first | refine blk_drewN ?_ _ | refine blk_drew ?_ | refine blk_alloc ?_ _)); exact BK422.out⟩, ⟨by repeat (first | (with_reducible first | exact HB.out | apply below_alloc | apply pw_below_drewN | apply below_drew1 | refine below_set ?_ GE422.out) | exact HB.out)⟩⟩
                        · rw [if_neg c67] at H
                          have c67b0 : decide (0 < x8_2) = false := decide_eq_false c67
                          clear c67
                          have H' := Aside0.mk H
                          clear H
                          have hcz73_0 : wr.cell? ⟨gb422, 0, none⟩ = some (.bool false) := (blk_cell BK422.out 0).trans rfl
                          have hcz73_1 : wr.cell? ⟨gb422, 1, none⟩ = some (.slice A0_1 l0_1.length c0_1) := (blk_cell BK422.out 1).trans rfl
                          have hfz73_0 := blk_frozen BK422.out 0
                          have hfz73_1 := blk_frozen BK422.out 1
                          have p428 : 0 ≤ (x8_2 : Int) := of_decide_eq_true (by first | (with_reducible assumption) | assumption)
                          have q428 : x8_2 < (l0_1.length : Int) := of_decide_eq_true (by first | (with_reducible assumption) | assumption)
                          obtain ⟨ad428, e428, hx428_0, hx428_1⟩ := at_T78 HR0_1.out x8_2 p428 q428
                          cases e428
                          replace hx428_0 := (HB.out.cell (World.block_lt_of_cell? w _ hx428_0)).trans hx428_0
                          replace hx428_1 := (HB.out.cell (World.block_lt_of_cell? w _ hx428_1)).trans hx428_1
                          replace p428 := eq_true p428
                          replace q428 := eq_true q428
                          go_wp2
                          go_roundg k2
                          case measure => have := HJ6.out; have := HK2.out; omega
                          case rel => exact ⟨(wrap64 (x8_2 + 1)), (by first | rfl | (simp; done) | (simp [*]; done)), H', ⟨by have := HJ6.out; have := HK2.out; omega⟩, ⟨by (with_reducible repeat (first | refine blk_drewN ?_ _ | refine blk_drew ?_ | refine blk_alloc ?_ _)); exact BK422.out⟩, ⟨by repeat (first | (with_reducible first | exact HB.out | apply below_alloc | apply pw_below_drewN | apply below_drew1 | refine below_set ?_ GE422.out) | exact HB.out)⟩⟩
                · rw [if_neg c30] at H
                  exact absurd H (by simp)
              · rw [if_neg c29] at H
                have c29b0 : decide (x8_2 < (l0_1.length : Int)) = false := decide_eq_false c29
                clear c29
                obtain rfl := Option.some.inj H
                have hcz74_0 : wr.cell? ⟨gb422, 0, none⟩ = some (.bool a0_0) := (blk_cell BK422.out 0).trans rfl
                have hcz74_1 : wr.cell? ⟨gb422, 1, none⟩ = some (.slice A0_1 l0_1.length c0_1) := (blk_cell BK422.out 1).trans rfl
                have hfz74_0 := blk_frozen BK422.out 0
                have hfz74_1 := blk_frozen BK422.out 1
                go_wp2
                go_ret
                exact ⟨by first | rfl | (simp [errW_none, errW_some] <;> rfl) | (simp [*, errW_none, errW_some] <;> rfl), by repeat (first | (with_reducible first | exact HB.out | apply below_alloc | apply pw_below_drewN | apply below_drew1 | refine below_set ?_ GE422.out) | exact HB.out)⟩
  · replace c5 := Bool.eq_false_iff.mpr c5
    subst c5
    have H1 : (some t423) = some r := by rw [if_neg (show ¬ (false = true) by decide)] at H; exact H
    clear H
    have H := H1
    clear H1
    obtain rfl := Option.some.inj H
    go_enter Try.func12, Try.ntmps12
    go_wp2_with (first | ((with_reducible refine gate_dst (N := 2) rfl ?_); (try (refine gate_guard (by rfl) ?_; dsimp only)); refine box_event ?hg (N := 2) ?hd (cs := #[.bool a0_0, .slice A0_1 l0_1.length c0_1]) (t := 56) ?hr ?_; (case hd => rfl); (case hg => rfl); (case hr => first | (go_simp; done) | (go_simp; rfl)); intro gb422 hg w75 hbox hb; have n0_ := Aside0.mk (below_step (by repeat (first | (with_reducible first | exact HB.out | apply below_alloc | apply pw_below_drewN | apply below_drew1) | exact HB.out)) hb); have n1_ := Aside0.mk (hbox); have n2_ := Aside0.mk ((by rw [hg]; exact (below_size (by repeat (first | (with_reducible first | exact HB.out | apply below_alloc | apply pw_below_drewN | apply below_drew1) | exact HB.out))) : w.heap.size ≤ gb422)); have n3_ := Aside0.mk ((by rw [hg]; exact (below_size (by repeat (first | (with_reducible first | exact HB.out | apply below_alloc | apply pw_below_drewN | apply below_drew1) | exact HB.out))) : w.heap.size ≤ gb422)); clear HB; have HB := n0_; have BK422 := n1_; have GW422 := n2_; have GE422 := n3_; clear n0_ n1_ n2_ n3_; clear hb hbox hg) | ((with_reducible refine gate_callee (f := 26) rfl ?_); refine goesL_ (some 10) rfl rfl Try.func26 (by kernel_rfl) rfl #[] rfl (by (try simp only [List.map_toArray, List.map_cons, List.map_nil]); first | done | rfl | (simp only [List.length_drop, List.length_take]; rfl)) ?_; (with_reducible refine (assartlaw04_shown.calls  t423 _ A3.out).mono ?_); rintro e w76 ⟨rfl, hb⟩; refine ⟨_, rfl, ?_⟩; have n0_ := Aside0.mk (blk_below (g := gb422) (o := .cells #[.bool a0_0, .slice A0_1 l0_1.length c0_1] 56 (0, 0)) (by (with_reducible repeat (first | refine blk_drewN ?_ _ | refine blk_drew ?_ | refine blk_alloc ?_ _)); exact BK422.out) hb); have n1_ := Aside0.mk (below_step (by repeat (first | (with_reducible first | exact HB.out | apply below_alloc | apply pw_below_drewN | apply below_drew1 | refine below_set ?_ GE422.out) | exact HB.out)) hb); clear BK422; clear HB; have BK422 := n0_; have HB := n1_; clear n0_ n1_; (try clear hb); (try clear hb2); (try clear hk); (try clear hi); have hcz77_0 : w76.cell? ⟨gb422, 0, none⟩ = some (.bool a0_0) := (blk_cell BK422.out 0).trans rfl; have hcz77_1 : w76.cell? ⟨gb422, 1, none⟩ = some (.slice A0_1 l0_1.length c0_1) := (blk_cell BK422.out 1).trans rfl; have hfz77_0 := blk_frozen BK422.out 0; have hfz77_1 := blk_frozen BK422.out 1) | ((with_reducible refine gate_callee (f := 31) rfl ?_); refine goesL_ (some 12) rfl rfl Try.func31 (by kernel_rfl) rfl #[.agg #[.bool a0_0, .slice A0_1 l0_1.length c0_1]] rfl (by (try simp only [List.map_toArray, List.map_cons, List.map_nil]); first | done | rfl | (simp only [List.length_drop, List.length_take]; rfl)) ?_; (with_reducible refine (assartref04_Right.calls k a0_0 _ _ l0_1 false _ ?side1 ?side2 A4.out).mono ?_); (case side1 => repeat (first | exact (Kd.C_below HR0_1.out HB.out) | (with_reducible refine Kd.C_alloc ?_ _) | (with_reducible refine Kd.C_drewN ?_ _) | (with_reducible refine Kd.C_drew ?_))); (case side2 => exact HC0_1.out); rintro e w78 ⟨rfl, hb⟩; refine ⟨_, rfl, ?_⟩; have n0_ := Aside0.mk (blk_below (g := gb422) (o := .cells #[.bool a0_0, .slice A0_1 l0_1.length c0_1] 56 (0, 0)) (by (with_reducible repeat (first | refine blk_drewN ?_ _ | refine blk_drew ?_ | refine blk_alloc ?_ _)); exact BK422.out) hb); have n1_ := Aside0.mk (below_step (by repeat (first | (with_reducible first | exact HB.out | apply below_alloc | apply pw_below_drewN | apply below_drew1 | refine below_set ?_ GE422.out) | exact HB.out)) hb); clear BK422; clear HB; have BK422 := n0_; have HB := n1_; clear n0_ n1_; (try clear hb); (try clear hb2); (try clear hk); (try clear hi)))
    go_ret
    exact ⟨by first | rfl | (simp [errW_none, errW_some] <;> rfl) | (simp [*, errW_none, errW_some] <;> rfl), by repeat (first | (with_reducible first | exact HB.out | apply below_alloc | apply pw_below_drewN | apply below_drew1 | refine below_set ?_ GE422.out) | exact HB.out)⟩

end Go.Proofs.Ythjnkapkhphpeaa.P
end
section
/- Arguments that read as data, opened kind by kind: what the printed functions ask of their parameters. -/
namespace Go.Proofs.Ythjnkapkhphpeaa.P
open Go.RowKit Go.Proofs.YthjnkapkhphpeaaW.PrintWords Go.Proofs.YthjnkapkhphpeaaW.PrintLast Go.Proofs.YthjnkapkhphpeaaW.PrintMore
set_option linter.unusedVariables false
set_option linter.unusedSimpArgs false
/-- Whatever reads at type t is a value of kind d, and such as ok says. -/
structure Opens {α : Type} (P : Program) (t : TypeId) (d : Kd α) (ok : α → Prop) : Prop where
  sz : P.cellsOf t = d.sz
  op : ∀ {H : Type} {enc : TypeId × Value → H} {W : World} {base : Nat} {spare : Nat → Bool} {held : Bool} {fuel : Nat} {cs : List Value} {y : DataW H × List MemPlace}, DataW.trod enc P W base spare held fuel t cs = some y → (DataW.weights P t y.1).all (· ≤ reachBytes) = true → ∃ x, d.K W x cs ∧ ok x
theorem Opens.int {P : Program} {t : TypeId} {k : IntKind} (h : P.underlying t = some (.int k)) (hs : P.cellsOf t = 1) : Opens P t (Kd.int k) (fun n => (Lit.int k n).wf = true) :=
  ⟨hs, fun hy _ => by
    obtain ⟨n, rfl, _, hw⟩ := DataW.trod_int h hy
    exact ⟨n, rfl, hw⟩⟩
theorem Opens.bool {P : Program} {t : TypeId} (h : P.underlying t = some .bool) (hs : P.cellsOf t = 1) : Opens P t Kd.bool (fun _ => True) :=
  ⟨hs, fun hy _ => by
    obtain ⟨b, rfl, _⟩ := DataW.trod_bool h hy
    exact ⟨b, rfl, trivial⟩⟩
theorem Opens.string {P : Program} {t : TypeId} (h : P.underlying t = some .string) (hs : P.cellsOf t = 1) : Opens P t Kd.string (fun s => s.size ≤ 140737488351232) :=
  ⟨hs, fun hy hw => by
    obtain ⟨s, rfl, rfl, _⟩ := DataW.trod_string h hy
    refine ⟨s, rfl, ?_⟩
    have := hw
    simp [DataW.weights, reachBytes] at this
    exact of_decide_eq_true this⟩
theorem choose_row {α : Type} {R : Nat → α → Prop} : ∀ n, (∀ i, i < n → ∃ x, R i x) → ∃ xs : List α, xs.length = n ∧ ∀ i x, xs[i]? = some x → R i x
  | 0, _ => ⟨[], rfl, fun i x h => by simp at h⟩
  | n + 1, h => by
    obtain ⟨xs, hl, hx⟩ := choose_row n (fun i hi => h i (by omega))
    obtain ⟨x, hr⟩ := h n (by omega)
    refine ⟨xs ++ [x], by simp [hl], fun i z hz => ?_⟩
    by_cases hi : i < n
    · rw [List.getElem?_append_left (by omega)] at hz
      exact hx i z hz
    · rw [List.getElem?_append_right (by omega)] at hz
      have : i - xs.length = 0 := by
        rcases Nat.eq_zero_or_pos (i - xs.length) with h0 | h0
        · exact h0
        · rw [List.getElem?_eq_none (by simp; omega)] at hz; cases hz
      rw [this] at hz
      simp at hz
      subst hz
      have : i = n := by omega
      rw [this]; exact hr
theorem weightsAll_mem {H : Type} {P : Program} {e : TypeId} : ∀ {ds : List (DataW H)}, (DataW.weightsAll P e ds).all (· ≤ reachBytes) = true → ∀ d ∈ ds, (DataW.weights P e d).all (· ≤ reachBytes) = true
  | [], _, d, hd => by cases hd
  | a :: ds, h, d, hd => by
    simp only [DataW.weightsAll, List.all_append, Bool.and_eq_true] at h
    rcases List.mem_cons.1 hd with rfl | hd
    · exact h.1
    · exact weightsAll_mem h.2 d hd
theorem Opens.slice {α : Type} {P : Program} {t e : TypeId} {d : Kd α} {ok : α → Prop} {B : Nat} (h : P.underlying t = some (.slice e)) (hs : P.cellsOf t = 1) (hB : P.bytesOf e = B) (he : Opens P e d ok) : Opens P t (Kd.slice e d) (fun xs => xs.length * B ≤ 140737488351232 ∧ ∀ x ∈ xs, ok x) :=
  ⟨hs, fun {H enc W base spare held fuel cs y} hy hw => by
    rcases DataW.trod_slice h hy with ⟨rfl, rfl⟩ | ⟨a, len, cap, elems, rest, n, rfl, rfl, rfl, hb, hl, hc, hel, hi, _, _⟩
    · exact ⟨[], ⟨none, 0, rfl, Nat.le_refl _, Kd.C_nil _ _⟩, by simp⟩
    · unfold DataW.weights at hw
      rw [h] at hw
      simp only [List.all_cons, List.all_append, Bool.and_eq_true, decide_eq_true_eq, hB, List.length_map] at hw
      obtain ⟨hw0, hw1, _⟩ := hw
      have hx : ∀ i, i < len → ∃ x, ok x ∧ ∃ c, c.length = d.sz ∧ d.K W x c ∧ W.cells? base (a.add (i * d.sz)) d.sz = some c := by
        intro i hlt
        have h1 := hi i hlt
        rw [List.getElem?_eq_getElem (by omega)] at h1
        obtain ⟨c, hc1, hc2⟩ := Option.bind_eq_some_iff.1 h1
        obtain ⟨x, hK, hok⟩ := he.op hc2 (weightsAll_mem hw1 _ (List.mem_map_of_mem (List.getElem_mem _)))
        rw [he.sz] at hc1
        exact ⟨x, hok, c, d.K_len hK, hK, hc1⟩
      obtain ⟨xs, hxl, hxs⟩ := choose_row len hx
      refine ⟨xs, ⟨some a, cap, by rw [hxl], by omega, rfl, ?_, fun hpos => ⟨a, rfl, fun j p hj => ?_⟩⟩, ?_, ?_⟩
      · simp only [maxLen] at hc; omega
      · obtain ⟨_, c, hcl, hK, hcc⟩ := hxs j p hj
        refine ⟨c, hcl, hK, fun i u hu => ?_⟩
        obtain ⟨_, _, hcell⟩ := World.cells?_some hcc
        have hi : i < d.sz := by rw [← hcl]; exact (List.getElem?_eq_some_iff.1 hu).1
        have := hcell i hi
        rw [Addr.add_add] at this
        rw [this, hu]
      · rw [hxl, ← hel]
        refine Nat.le_trans (Nat.mul_le_mul_right _ (Nat.le_add_right _ _)) hw0
      · intro x hx
        obtain ⟨i, hlt, rfl⟩ := List.getElem_of_mem hx
        exact (hxs i _ (List.getElem?_eq_getElem hlt)).1⟩
theorem weights_at {H : Type} {P : Program} : ∀ {ts : List TypeId} {ds : List (DataW H)} {j : Nat} {t : TypeId} {d : DataW H}, (DataW.weightsEach P ts ds).all (· ≤ reachBytes) = true → ts[j]? = some t → ds[j]? = some d → (DataW.weights P t d).all (· ≤ reachBytes) = true
  | [], _, _, _, _, _, ht, _ => by simp at ht
  | _ :: _, [], _, _, _, _, _, hd => by simp at hd
  | t0 :: ts, d0 :: ds, 0, _, _, h, ht, hd => by
    simp only [List.getElem?_cons_zero, Option.some.injEq] at ht hd
    subst ht; subst hd
    simp only [DataW.weightsEach, List.all_append, Bool.and_eq_true] at h
    exact h.1
  | t0 :: ts, d0 :: ds, j + 1, _, _, h, ht, hd => by
    simp only [List.getElem?_cons_succ] at ht hd
    simp only [DataW.weightsEach, List.all_append, Bool.and_eq_true] at h
    exact weights_at h.2 ht hd
/-- A struct's fields from a place on. -/
structure OpensFs {α : Type} (P : Program) (fs : List Field) (off : Nat) (d : Kd α) (ok : α → Prop) : Prop where
  op : ∀ {H : Type} {enc : TypeId × Value → H} {W : World} {base : Nat} {spare : Nat → Bool} {held : Bool} {fuel : Nat} {cs : List Value} {ys : List (DataW H × List MemPlace)},
    (∀ (i : Nat) (f : Field), fs[i]? = some f → DataW.trod enc P W base spare held fuel f.type ((cs.drop f.offset).take (P.cellsOf f.type)) = ys[i]?) → ys.length = fs.length →
    (DataW.weightsEach P (fs.map (·.type)) (ys.map (·.1))).all (· ≤ reachBytes) = true → cs.length = off + d.sz → ∃ x, d.K W x (cs.drop off) ∧ ok x
theorem OpensFs.one {α : Type} {P : Program} {f : Field} {t : TypeId} {off : Nat} {d : Kd α} {ok : α → Prop} (ht : f.type = t) (hoff : f.offset = off) (h : Opens P t d ok) : OpensFs P [f] off d ok :=
  ⟨fun {H enc W base spare held fuel cs ys} hy hl hw hcs => by
    obtain ⟨y, rfl⟩ : ∃ y, ys = [y] := by
      cases ys with
      | nil => simp at hl
      | cons y ys => cases ys with
        | nil => exact ⟨y, rfl⟩
        | cons => simp at hl
    have h0 := hy 0 f rfl
    simp only [List.getElem?_cons_zero] at h0
    simp only [List.map_cons, List.map_nil, DataW.weightsEach, List.append_nil] at hw
    rw [ht] at h0 hw
    obtain ⟨x, hK, hok⟩ := h.op h0 hw
    rw [hoff, List.take_of_length_le (by rw [List.length_drop, h.sz]; omega)] at hK
    exact ⟨x, hK, hok⟩⟩
theorem OpensFs.cons {α β : Type} {P : Program} {f : Field} {fs : List Field} {t : TypeId} {off n : Nat} {d : Kd α} {d' : Kd β} {ok : α → Prop} {ok' : β → Prop} (ht : f.type = t) (hoff : f.offset = off) (h : Opens P t d ok) (hn : off + d.sz = n) (hr : OpensFs P fs n d' ok') :
    OpensFs P (f :: fs) off (Kd.pair d d') (fun x => ok x.1 ∧ ok' x.2) :=
  ⟨fun {H enc W base spare held fuel cs ys} hy hl hw hcs => by
    cases ys with
    | nil => simp at hl
    | cons y ys =>
      have h0 := hy 0 f rfl
      simp only [List.getElem?_cons_zero] at h0
      simp only [List.map_cons, DataW.weightsEach, List.all_append, Bool.and_eq_true] at hw
      have hw0 := hw.1
      rw [ht] at h0 hw0
      obtain ⟨x, hK, hok⟩ := h.op h0 hw0
      have hsz : (Kd.pair d d').sz = d.sz + d'.sz := rfl
      rw [hsz] at hcs
      obtain ⟨x', hK', hok'⟩ := hr.op (fun i g hg => hy (i + 1) g (by simpa using hg)) (by simpa using hl) hw.2 (by omega)
      refine ⟨(x, x'), ⟨_, _, ?_, hK, hK'⟩, hok, hok'⟩
      rw [hoff, h.sz, ← hn, ← List.drop_drop]
      exact (List.take_append_drop _ _).symm⟩
theorem Opens.struct {α β : Type} {P : Program} {t : TypeId} {fs : Array Field} {fl : List Field} {d : Kd α} {ok : α → Prop} (f : β → α) (g : α → β) (hfg : ∀ x, f (g x) = x) (h : P.underlying t = some (.struct fs)) (hfl : fs.toList = fl) (hs : P.cellsOf t = d.sz) (ho : OpensFs P fl 0 d ok) :
    Opens P t (Kd.iso d f) (fun x => ok (f x)) :=
  ⟨hs, fun {H enc W base spare held fuel cs y} hy hw => by
    obtain ⟨xs, n, rfl, rfl, hcl, hxl, hx⟩ := DataW.trod_struct h hy
    unfold DataW.weights at hw
    rw [h] at hw
    simp only [hfl] at hw
    subst hfl
    obtain ⟨x, hK, hok⟩ := ho.op (ys := xs) (fun i f hf => hx i f (by simpa using hf)) (by simpa using hxl) hw (by omega)
    rw [List.drop_zero] at hK
    refine ⟨g x, ?_, ?_⟩
    · show d.K W (f (g x)) cs
      rw [hfg]; exact hK
    · rw [hfg]; exact hok⟩
end Go.Proofs.Ythjnkapkhphpeaa.P
end
section
namespace Go.Proofs.Ythjnkapkhphpeaa.P
open Go.RowKit Go.Proofs.YthjnkapkhphpeaaW.PrintWords Go.Proofs.YthjnkapkhphpeaaW.PrintLast Go.Proofs.YthjnkapkhphpeaaW.PrintMore
attribute [local go_sem] max2_int min2_int max_two min_two max_three min_three max_four min_four
set_option linter.unusedVariables false
set_option linter.unusedSimpArgs false

def ok78 (x : S78) : Prop := (fun x => (Lit.int .i64 x).wf = true) x.f0 ∧ (fun x => (Lit.int .i64 x).wf = true) x.f1
theorem opens78 : Opens Try.prog 78 k78 ok78 := Opens.struct (fs := _) (fun x : S78 => (x.f0, x.f1)) (fun p => ⟨p.1, p.2⟩) (fun _ => rfl) Try.underlying78 rfl (by kernel_rfl) (OpensFs.cons rfl rfl (Opens.int Try.underlying3 (by kernel_rfl)) rfl (OpensFs.one rfl rfl (Opens.int Try.underlying3 (by kernel_rfl))))
def assartlaw04_NodeLeads.QPure : Prop := ∀ (a0_0 : Bool) (l0_1 : List (S78)) (a1 : Int), (l0_1.length * 16 ≤ 140737488351232 ∧ ∀ x ∈ l0_1, ok78 x) → ((Lit.int .i64 a1).wf = true) → ∃ k, assartlaw04_NodeLeads.f k a0_0 l0_1 a1 = some true
end Go.Proofs.Ythjnkapkhphpeaa.P
end
section
namespace Go.Proofs.Ythjnkapkhphpeaa.P
open Go.RowKit Go.Proofs.YthjnkapkhphpeaaW.PrintWords Go.Proofs.YthjnkapkhphpeaaW.PrintLast Go.Proofs.YthjnkapkhphpeaaW.PrintMore
attribute [local go_sem] max2_int min2_int max_two min_two max_three min_three max_four min_four
set_option linter.unusedVariables false
set_option linter.unusedSimpArgs false

/-! ### assartref04_At: function 36 -/
def assartref04_At.l0 : Nat → Int → Int → Int → Bool → List (S78) → Option (Int × Bool)
  | 0, _, _, _, _, _ => none
  | k + 1, x1, x6, x7, x308000, x308001 => if x7 < (x308001.length : Int) then (if 0 ≤ x7 then (if ((rd_T78 x308001 x7).f0) = x1 then (some (x7, true)) else (if ((rd_T78 x308001 x7).f0) < x1 then (assartref04_At.l0 k x1 (wrap64 (x6 + 1)) (wrap64 (x7 + 1)) x308000 x308001) else (assartref04_At.l0 k x1 x6 (wrap64 (x7 + 1)) x308000 x308001))) else (none)) else (if x308000 = true then (some (x6, false)) else (some (mx (wrap64 (x6 - 1)) 0, false)))
def assartref04_At.f (k : Nat) (a0_0 : Bool) (l0_1 : List (S78)) (a1 : Int) : Option (Int × Bool) := assartref04_At.l0 k a1 0 0 a0_0 l0_1
theorem assartref04_At.mono_l : ∀ k, (∀ y0 y1 y2 y3 y4, LeO (assartref04_At.l0 k y0 y1 y2 y3 y4) (assartref04_At.l0 (k + 1) y0 y1 y2 y3 y4))
  | 0 => fun _ _ _ _ _ r h => by simp [assartref04_At.l0] at h
  | k + 1 => by
    have ih0 := assartref04_At.mono_l k
    · intro y0 y1 y2 y3 y4
      unfold assartref04_At.l0
      repeat' first
      | (with_reducible exact ih0 _ _ _ _ _)
      | (with_reducible exact LeO.refl _)
      | (with_reducible exact LeO.none _)
      | (with_reducible refine LeO.ite ?_ ?_)
      | (with_reducible refine LeO.bind ?_ (fun _ => ?_))
      | exact ih0 _ _ _ _ _
      | exact LeO.none _
      | refine LeO.ite ?_ ?_
      | refine LeO.bind ?_ (fun _ => ?_)
theorem assartref04_At.mono : ∀ a0 a1 a2 k, LeO (assartref04_At.f k a0 a1 a2) (assartref04_At.f (k + 1) a0 a1 a2) := by
  intro a0 a1 a2 k
  have ih0 := assartref04_At.mono_l k
  unfold assartref04_At.f
  repeat' first
      | (with_reducible exact ih0 _ _ _ _ _)
      | (with_reducible exact LeO.refl _)
      | (with_reducible exact LeO.none _)
      | (with_reducible refine LeO.ite ?_ ?_)
      | (with_reducible refine LeO.bind ?_ (fun _ => ?_))
      | exact ih0 _ _ _ _ _
      | exact LeO.none _
      | refine LeO.ite ?_ ?_
      | refine LeO.bind ?_ (fun _ => ?_)
set_option maxHeartbeats 8000000 in
set_option maxRecDepth 100000 in
theorem assartref04_At.calls (k : Nat) (a0_0 : Bool) (A0_1 : Option Addr) (c0_1 : Nat) (l0_1 : List (S78)) (a1 : Int) (r1 : Int) (r2 : Bool) (w : World) (hr0_1 : Kd.C k78 w A0_1 l0_1.length l0_1) (hc0_1 : l0_1.length ≤ c0_1) (h : assartref04_At.f k a0_0 l0_1 a1 = some (r1, r2)) :
    Calls Try.prog 36 #[.agg #[.bool a0_0, .slice A0_1 l0_1.length c0_1], .int .i64 a1] w fun e w' => e = .returned (.tuple #[.int .i64 r1, .bool r2]) ∧ Below w.heap.size w w' := by
  have hu56 := Try.underlying56
  have HR0_1 := Aside0.mk hr0_1
  have HC0_1 := Aside0.mk hc0_1
  clear hr0_1 hc0_1
  have HB := Aside0.mk (Below.refl w.heap.size w)
  have H : (assartref04_At.l0 k a1 0 0 a0_0 l0_1) = some (r1, r2) := h
  clear h
  have H' := Aside0.mk H
  clear H
  go_enter Try.func36, Try.ntmps36
  go_wp2_with (first | ((with_reducible refine gate_dst (N := 2) rfl ?_); refine box_event ?hg (N := 2) ?hd (cs := #[.bool a0_0, .slice A0_1 l0_1.length c0_1]) (t := 56) ?hr ?_; (case hd => rfl); (case hg => rfl); (case hr => first | (go_simp; done) | (go_simp; rfl)); intro gb307 hg w3 hbox hb; have n0_ := Aside0.mk (below_step (by repeat (first | (with_reducible first | exact HB.out | apply below_alloc | apply pw_below_drewN | apply below_drew1) | exact HB.out)) hb); have n1_ := Aside0.mk (hbox); have n2_ := Aside0.mk ((by rw [hg]; exact (below_size (by repeat (first | (with_reducible first | exact HB.out | apply below_alloc | apply pw_below_drewN | apply below_drew1) | exact HB.out))) : w.heap.size ≤ gb307)); have n3_ := Aside0.mk ((by rw [hg]; exact (below_size (by repeat (first | (with_reducible first | exact HB.out | apply below_alloc | apply pw_below_drewN | apply below_drew1) | exact HB.out))) : w.heap.size ≤ gb307)); clear HB; have HB := n0_; have BK307 := n1_; have GW307 := n2_; have GE307 := n3_; clear n0_ n1_ n2_ n3_; clear hb hbox hg))
  go_loopg [6, 7] k (fun kq v6 v7 w' => ∃ (x6_1 : Int) (x7_1 : Int), v6 = .int .i64 x6_1 ∧ v7 = .int .i64 x7_1 ∧ Aside0 (assartref04_At.l0 kq a1 x6_1 x7_1 a0_0 l0_1 = some (r1, r2)) ∧ Aside0 (kq ≤ k) ∧ Aside0 (w'.heap[gb307]? = some (.cells #[.bool a0_0, (.slice A0_1 l0_1.length c0_1)] 56 (0, 0))) ∧ Aside0 (Below w.heap.size w w'))
  case atStart => exact ⟨(0), (0), (by first | rfl | (simp; done) | (simp [*]; done)), (by first | rfl | (simp; done) | (simp [*]; done)), H', ⟨Nat.le_refl _⟩, ⟨by (with_reducible repeat (first | refine blk_drewN ?_ _ | refine blk_drew ?_ | refine blk_alloc ?_ _)); exact BK307.out⟩, ⟨by repeat (first | (with_reducible first | exact HB.out | apply below_alloc | apply pw_below_drewN | apply below_drew1 | refine below_set ?_ GE307.out) | exact HB.out)⟩⟩
  case round =>
    clear H'
    try clear p2
    try clear c3
    obtain ⟨x6_1, x7_1, rfl, rfl, HA, HK1, BK307, HB⟩ := hrel
    cases gk with
    | zero => exact absurd HA.out (by simp [assartref04_At.l0])
    | succ k1 =>
      have H := HA.out
      clear HA
      simp only [assartref04_At.l0] at H
      by_cases c4 : x7_1 < (l0_1.length : Int)
      · rw [if_pos c4] at H
        have c4b0 : decide (x7_1 < (l0_1.length : Int)) = true := decide_eq_true c4
        clear c4
        by_cases c5 : 0 ≤ x7_1
        · rw [if_pos c5] at H
          have c5b0 : decide (0 ≤ x7_1) = true := decide_eq_true c5
          clear c5
          by_cases c6 : ((rd_T78 l0_1 x7_1).f0) = a1
          · rw [if_pos c6] at H
            have c6b0 : (((rd_T78 l0_1 x7_1).f0) == a1) = true := beq_iff_eq.mpr c6
            have c6b1 : (((rd_T78 l0_1 x7_1).f0) != a1) = false := bne_eq_false_iff_eq.mpr c6
            clear c6
            simp only [Option.some.injEq, Prod.mk.injEq] at H
            obtain ⟨rfl, rfl⟩ := H
            have hcz7_0 : wr.cell? ⟨gb307, 0, none⟩ = some (.bool a0_0) := (blk_cell BK307.out 0).trans rfl
            have hcz7_1 : wr.cell? ⟨gb307, 1, none⟩ = some (.slice A0_1 l0_1.length c0_1) := (blk_cell BK307.out 1).trans rfl
            have hfz7_0 := blk_frozen BK307.out 0
            have hfz7_1 := blk_frozen BK307.out 1
            have p308 : 0 ≤ (x7_1 : Int) := of_decide_eq_true (by first | (with_reducible assumption) | assumption)
            have q308 : x7_1 < (l0_1.length : Int) := of_decide_eq_true (by first | (with_reducible assumption) | assumption)
            obtain ⟨ad308, e308, hx308_0, hx308_1⟩ := at_T78 HR0_1.out x7_1 p308 q308
            cases e308
            replace hx308_0 := (HB.out.cell (World.block_lt_of_cell? w _ hx308_0)).trans hx308_0
            replace hx308_1 := (HB.out.cell (World.block_lt_of_cell? w _ hx308_1)).trans hx308_1
            replace p308 := eq_true p308
            replace q308 := eq_true q308
            go_wp2
            go_ret2
            exact ⟨by first | rfl | (simp [errW_none, errW_some] <;> rfl) | (simp [*, errW_none, errW_some] <;> rfl), by repeat (first | (with_reducible first | exact HB.out | apply below_alloc | apply pw_below_drewN | apply below_drew1 | refine below_set ?_ GE307.out) | exact HB.out)⟩
          · rw [if_neg c6] at H
            have c6b0 : (((rd_T78 l0_1 x7_1).f0) == a1) = false := beq_eq_false_iff_ne.mpr c6
            have c6b1 : (((rd_T78 l0_1 x7_1).f0) != a1) = true := bne_iff_ne.mpr c6
            by_cases c8 : ((rd_T78 l0_1 x7_1).f0) < a1
            · rw [if_pos c8] at H
              have c8b0 : decide (((rd_T78 l0_1 x7_1).f0) < a1) = true := decide_eq_true c8
              clear c8
              have H' := Aside0.mk H
              clear H
              have hcz9_0 : wr.cell? ⟨gb307, 0, none⟩ = some (.bool a0_0) := (blk_cell BK307.out 0).trans rfl
              have hcz9_1 : wr.cell? ⟨gb307, 1, none⟩ = some (.slice A0_1 l0_1.length c0_1) := (blk_cell BK307.out 1).trans rfl
              have hfz9_0 := blk_frozen BK307.out 0
              have hfz9_1 := blk_frozen BK307.out 1
              have p308 : 0 ≤ (x7_1 : Int) := of_decide_eq_true (by first | (with_reducible assumption) | assumption)
              have q308 : x7_1 < (l0_1.length : Int) := of_decide_eq_true (by first | (with_reducible assumption) | assumption)
              obtain ⟨ad308, e308, hx308_0, hx308_1⟩ := at_T78 HR0_1.out x7_1 p308 q308
              cases e308
              replace hx308_0 := (HB.out.cell (World.block_lt_of_cell? w _ hx308_0)).trans hx308_0
              replace hx308_1 := (HB.out.cell (World.block_lt_of_cell? w _ hx308_1)).trans hx308_1
              replace p308 := eq_true p308
              replace q308 := eq_true q308
              have p309 : 0 ≤ (x7_1 : Int) := of_decide_eq_true (by first | (with_reducible assumption) | assumption)
              have q309 : x7_1 < (l0_1.length : Int) := of_decide_eq_true (by first | (with_reducible assumption) | assumption)
              obtain ⟨ad309, e309, hx309_0, hx309_1⟩ := at_T78 HR0_1.out x7_1 p309 q309
              obtain rfl : ad308 = ad309 := (by injection e309)
              replace hx309_0 := (HB.out.cell (World.block_lt_of_cell? w _ hx309_0)).trans hx309_0
              replace hx309_1 := (HB.out.cell (World.block_lt_of_cell? w _ hx309_1)).trans hx309_1
              replace p309 := eq_true p309
              replace q309 := eq_true q309
              go_wp2
              go_roundg k1
              case measure => have := HK1.out; omega
              case rel => exact ⟨(wrap64 (x6_1 + 1)), (wrap64 (x7_1 + 1)), (by first | rfl | (simp; done) | (simp [*]; done)), (by first | rfl | (simp; done) | (simp [*]; done)), H', ⟨by have := HK1.out; omega⟩, ⟨by (with_reducible repeat (first | refine blk_drewN ?_ _ | refine blk_drew ?_ | refine blk_alloc ?_ _)); exact BK307.out⟩, ⟨by repeat (first | (with_reducible first | exact HB.out | apply below_alloc | apply pw_below_drewN | apply below_drew1 | refine below_set ?_ GE307.out) | exact HB.out)⟩⟩
            · rw [if_neg c8] at H
              have c8b0 : decide (((rd_T78 l0_1 x7_1).f0) < a1) = false := decide_eq_false c8
              clear c8
              have H' := Aside0.mk H
              clear H
              have hcz10_0 : wr.cell? ⟨gb307, 0, none⟩ = some (.bool a0_0) := (blk_cell BK307.out 0).trans rfl
              have hcz10_1 : wr.cell? ⟨gb307, 1, none⟩ = some (.slice A0_1 l0_1.length c0_1) := (blk_cell BK307.out 1).trans rfl
              have hfz10_0 := blk_frozen BK307.out 0
              have hfz10_1 := blk_frozen BK307.out 1
              have p308 : 0 ≤ (x7_1 : Int) := of_decide_eq_true (by first | (with_reducible assumption) | assumption)
              have q308 : x7_1 < (l0_1.length : Int) := of_decide_eq_true (by first | (with_reducible assumption) | assumption)
              obtain ⟨ad308, e308, hx308_0, hx308_1⟩ := at_T78 HR0_1.out x7_1 p308 q308
              cases e308
              replace hx308_0 := (HB.out.cell (World.block_lt_of_cell? w _ hx308_0)).trans hx308_0
              replace hx308_1 := (HB.out.cell (World.block_lt_of_cell? w _ hx308_1)).trans hx308_1
              replace p308 := eq_true p308
              replace q308 := eq_true q308
              have p309 : 0 ≤ (x7_1 : Int) := of_decide_eq_true (by first | (with_reducible assumption) | assumption)
              have q309 : x7_1 < (l0_1.length : Int) := of_decide_eq_true (by first | (with_reducible assumption) | assumption)
              obtain ⟨ad309, e309, hx309_0, hx309_1⟩ := at_T78 HR0_1.out x7_1 p309 q309
              obtain rfl : ad308 = ad309 := (by injection e309)
              replace hx309_0 := (HB.out.cell (World.block_lt_of_cell? w _ hx309_0)).trans hx309_0
              replace hx309_1 := (HB.out.cell (World.block_lt_of_cell? w _ hx309_1)).trans hx309_1
              replace p309 := eq_true p309
              replace q309 := eq_true q309
              go_wp2
              go_roundg k1
              case measure => have := HK1.out; omega
              case rel => exact ⟨(x6_1), (wrap64 (x7_1 + 1)), (by first | rfl | (simp; done) | (simp [*]; done)), (by first | rfl | (simp; done) | (simp [*]; done)), H', ⟨by have := HK1.out; omega⟩, ⟨by (with_reducible repeat (first | refine blk_drewN ?_ _ | refine blk_drew ?_ | refine blk_alloc ?_ _)); exact BK307.out⟩, ⟨by repeat (first | (with_reducible first | exact HB.out | apply below_alloc | apply pw_below_drewN | apply below_drew1 | refine below_set ?_ GE307.out) | exact HB.out)⟩⟩
        · rw [if_neg c5] at H
          exact absurd H (by simp)
      · rw [if_neg c4] at H
        have c4b0 : decide (x7_1 < (l0_1.length : Int)) = false := decide_eq_false c4
        clear c4
        by_cases c11 : a0_0 = true
        · subst c11
          have H1 : (some (x6_1, false)) = some (r1, r2) := by rw [if_pos rfl] at H; exact H
          clear H
          have H := H1
          clear H1
          simp only [Option.some.injEq, Prod.mk.injEq] at H
          obtain ⟨rfl, rfl⟩ := H
          have hcz12_0 : wr.cell? ⟨gb307, 0, none⟩ = some (.bool true) := (blk_cell BK307.out 0).trans rfl
          have hcz12_1 : wr.cell? ⟨gb307, 1, none⟩ = some (.slice A0_1 l0_1.length c0_1) := (blk_cell BK307.out 1).trans rfl
          have hfz12_0 := blk_frozen BK307.out 0
          have hfz12_1 := blk_frozen BK307.out 1
          go_wp2
          go_ret2
          exact ⟨by first | rfl | (simp [errW_none, errW_some] <;> rfl) | (simp [*, errW_none, errW_some] <;> rfl), by repeat (first | (with_reducible first | exact HB.out | apply below_alloc | apply pw_below_drewN | apply below_drew1 | refine below_set ?_ GE307.out) | exact HB.out)⟩
        · replace c11 := Bool.eq_false_iff.mpr c11
          subst c11
          have H1 : (some (mx (wrap64 (x6_1 - 1)) 0, false)) = some (r1, r2) := by rw [if_neg (show ¬ (false = true) by decide)] at H; exact H
          clear H
          have H := H1
          clear H1
          obtain ⟨ji13, hji13⟩ : ∃ j_ : Int, (mx (wrap64 (x6_1 - 1)) 0) = j_ := ⟨_, rfl⟩
          replace H : (some (ji13, false)) = some (r1, r2) := by first | (rw [hji13] at H; exact H) | (simp only [hji13] at H ⊢; exact H)
          have hji13_ : (if (wrap64 (x6_1 - 1)) < 0 then 0 else (wrap64 (x6_1 - 1))) = ji13 := hji13
          simp only [Option.some.injEq, Prod.mk.injEq] at H
          obtain ⟨rfl, rfl⟩ := H
          have hcz14_0 : wr.cell? ⟨gb307, 0, none⟩ = some (.bool false) := (blk_cell BK307.out 0).trans rfl
          have hcz14_1 : wr.cell? ⟨gb307, 1, none⟩ = some (.slice A0_1 l0_1.length c0_1) := (blk_cell BK307.out 1).trans rfl
          have hfz14_0 := blk_frozen BK307.out 0
          have hfz14_1 := blk_frozen BK307.out 1
          go_wp2
          go_ret2
          exact ⟨by first | rfl | (simp [errW_none, errW_some] <;> rfl) | (simp only [← hji13]; first | rfl | (simp [errW_none, errW_some] <;> rfl)) | (simp [*, errW_none, errW_some] <;> rfl), by repeat (first | (with_reducible first | exact HB.out | apply below_alloc | apply pw_below_drewN | apply below_drew1 | refine below_set ?_ GE307.out) | exact HB.out)⟩

end Go.Proofs.Ythjnkapkhphpeaa.P
end
section
namespace Go.Proofs.Ythjnkapkhphpeaa.P
open Go.RowKit Go.Proofs.YthjnkapkhphpeaaW.PrintWords Go.Proofs.YthjnkapkhphpeaaW.PrintLast Go.Proofs.YthjnkapkhphpeaaW.PrintMore
attribute [local go_sem] max2_int min2_int max_two min_two max_three min_three max_four min_four
set_option linter.unusedVariables false
set_option linter.unusedSimpArgs false

attribute [local go_sem high] eqA78
/-! ### assartref04_Items: function 40 -/
def assartref04_Items.l0 : Nat → List (S78) → List (S78) → Int → Option (Bool)
  | 0, _, _, _ => none
  | k + 1, x0, x1, x5 => if x5 < (x0.length : Int) then (if 0 ≤ x5 then (if x5 < (x1.length : Int) then (if (!(((rd_T78 x0 x5).f0) == ((rd_T78 x1 x5).f0)) || (!(((rd_T78 x0 x5).f1) == ((rd_T78 x1 x5).f1)))) = true then (some false) else (assartref04_Items.l0 k x0 x1 (wrap64 (x5 + 1)))) else (none)) else (none)) else (some true)
def assartref04_Items.f (k : Nat) (l0 : List (S78)) (l1 : List (S78)) : Option (Bool) := if (l0.length : Int) = (l1.length : Int) then (assartref04_Items.l0 k l0 l1 0) else (some false)
theorem assartref04_Items.mono_l : ∀ k, (∀ y0 y1 y2, LeO (assartref04_Items.l0 k y0 y1 y2) (assartref04_Items.l0 (k + 1) y0 y1 y2))
  | 0 => fun _ _ _ r h => by simp [assartref04_Items.l0] at h
  | k + 1 => by
    have ih0 := assartref04_Items.mono_l k
    · intro y0 y1 y2
      unfold assartref04_Items.l0
      repeat' first
      | (with_reducible exact ih0 _ _ _)
      | (with_reducible exact LeO.refl _)
      | (with_reducible exact LeO.none _)
      | (with_reducible refine LeO.ite ?_ ?_)
      | (with_reducible refine LeO.bind ?_ (fun _ => ?_))
      | exact ih0 _ _ _
      | exact LeO.none _
      | refine LeO.ite ?_ ?_
      | refine LeO.bind ?_ (fun _ => ?_)
theorem assartref04_Items.mono : ∀ a0 a1 k, LeO (assartref04_Items.f k a0 a1) (assartref04_Items.f (k + 1) a0 a1) := by
  intro a0 a1 k
  have ih0 := assartref04_Items.mono_l k
  unfold assartref04_Items.f
  repeat' first
      | (with_reducible exact ih0 _ _ _)
      | (with_reducible exact LeO.refl _)
      | (with_reducible exact LeO.none _)
      | (with_reducible refine LeO.ite ?_ ?_)
      | (with_reducible refine LeO.bind ?_ (fun _ => ?_))
      | exact ih0 _ _ _
      | exact LeO.none _
      | refine LeO.ite ?_ ?_
      | refine LeO.bind ?_ (fun _ => ?_)
set_option maxHeartbeats 8000000 in
set_option maxRecDepth 100000 in
theorem assartref04_Items.calls (k : Nat) (A0 : Option Addr) (c0 : Nat) (l0 : List (S78)) (A1 : Option Addr) (c1 : Nat) (l1 : List (S78)) (r : Bool) (w : World) (hr0 : Kd.C k78 w A0 l0.length l0) (hc0 : l0.length ≤ c0) (hr1 : Kd.C k78 w A1 l1.length l1) (hc1 : l1.length ≤ c1) (h : assartref04_Items.f k l0 l1 = some r) :
    Calls Try.prog 40 #[.slice A0 l0.length c0, .slice A1 l1.length c1] w fun e w' => e = .returned (.bool r) ∧ Drawn0 w w' := by
  have hu78 := Try.underlying78
  have HR0 := Aside0.mk hr0
  have HC0 := Aside0.mk hc0
  clear hr0 hc0
  have HR1 := Aside0.mk hr1
  have HC1 := Aside0.mk hc1
  clear hr1 hc1
  have H : (if (l0.length : Int) = (l1.length : Int) then (assartref04_Items.l0 k l0 l1 0) else (some false)) = some r := h
  clear h
  by_cases c3 : (l0.length : Int) = (l1.length : Int)
  · rw [if_pos c3] at H
    have c3b0 : ((l0.length : Int) == (l1.length : Int)) = true := beq_iff_eq.mpr c3
    have c3b1 : ((l0.length : Int) != (l1.length : Int)) = false := bne_eq_false_iff_eq.mpr c3
    have c3b2 : (l0.length == l1.length) = true := by first | simpa using c3 | (simp at c3 ⊢; omega)
    clear c3
    have H' := Aside0.mk H
    clear H
    go_enter Try.func40, Try.ntmps40
    go_wp2
    repeat (go_quiet (fail); try go_wp2)
    go_loopg [5] k (fun kq v5 w' => ∃ (x5_1 : Int), v5 = .int .i64 x5_1 ∧ Aside0 (assartref04_Items.l0 kq l0 l1 x5_1 = some r) ∧ Aside0 (kq ≤ k) ∧ Drawn0 w w')
    case atStart => exact ⟨(0), (by first | rfl | (simp; done) | (simp [*]; done)), H', ⟨Nat.le_refl _⟩, by repeat (first | exact Drawn0.refl _ | apply Drawn0.step)⟩
    case round =>
      clear H'
      try clear c1
      try clear p2
      try clear c3
      try clear c3b0
      try clear c3b1
      try clear c3b2
      obtain ⟨x5_1, rfl, HA, HK1, ⟨m1, rfl⟩⟩ := hrel
      cases gk with
      | zero => exact absurd HA.out (by simp [assartref04_Items.l0])
      | succ k1 =>
        have H := HA.out
        clear HA
        simp only [assartref04_Items.l0] at H
        by_cases c4 : x5_1 < (l0.length : Int)
        · rw [if_pos c4] at H
          have c4b0 : decide (x5_1 < (l0.length : Int)) = true := decide_eq_true c4
          clear c4
          by_cases c5 : 0 ≤ x5_1
          · rw [if_pos c5] at H
            have c5b0 : decide (0 ≤ x5_1) = true := decide_eq_true c5
            clear c5
            by_cases c6 : x5_1 < (l1.length : Int)
            · rw [if_pos c6] at H
              have c6b0 : decide (x5_1 < (l1.length : Int)) = true := decide_eq_true c6
              clear c6
              by_cases c7 : (!(((rd_T78 l0 x5_1).f0) == ((rd_T78 l1 x5_1).f0)) || (!(((rd_T78 l0 x5_1).f1) == ((rd_T78 l1 x5_1).f1)))) = true
              · rw [if_pos c7] at H
                have c7b0 : (!(((rd_T78 l0 x5_1).f0) == ((rd_T78 l1 x5_1).f0)) || (!(((rd_T78 l0 x5_1).f1) == ((rd_T78 l1 x5_1).f1)))) = true := c7
                clear c7
                obtain rfl := Option.some.inj H
                have p273 : 0 ≤ (x5_1 : Int) := of_decide_eq_true (by first | (with_reducible assumption) | assumption)
                have q273 : x5_1 < (l0.length : Int) := of_decide_eq_true (by first | (with_reducible assumption) | assumption)
                obtain ⟨ad273, e273, hx273_0, hx273_1⟩ := at_T78 HR0.out x5_1 p273 q273
                cases e273
                replace p273 := eq_true p273
                replace q273 := eq_true q273
                have p274 : 0 ≤ (x5_1 : Int) := of_decide_eq_true (by first | (with_reducible assumption) | assumption)
                have q274 : x5_1 < (l1.length : Int) := of_decide_eq_true (by first | (with_reducible assumption) | assumption)
                obtain ⟨ad274, e274, hx274_0, hx274_1⟩ := at_T78 HR1.out x5_1 p274 q274
                cases e274
                replace p274 := eq_true p274
                replace q274 := eq_true q274
                go_wp2
                repeat (go_quiet (fail); try go_wp2)
                go_ret
                exact ⟨by first | rfl | (simp; done) | (simp [*]; done), by repeat (first | exact Drawn0.refl _ | apply Drawn0.step)⟩
              · rw [if_neg c7] at H
                have c7b0 : (!(((rd_T78 l0 x5_1).f0) == ((rd_T78 l1 x5_1).f0)) || (!(((rd_T78 l0 x5_1).f1) == ((rd_T78 l1 x5_1).f1)))) = false := by simpa using c7
                clear c7
                have H' := Aside0.mk H
                clear H
                have p273 : 0 ≤ (x5_1 : Int) := of_decide_eq_true (by first | (with_reducible assumption) | assumption)
                have q273 : x5_1 < (l0.length : Int) := of_decide_eq_true (by first | (with_reducible assumption) | assumption)
                obtain ⟨ad273, e273, hx273_0, hx273_1⟩ := at_T78 HR0.out x5_1 p273 q273
                cases e273
                replace p273 := eq_true p273
                replace q273 := eq_true q273
                have p274 : 0 ≤ (x5_1 : Int) := of_decide_eq_true (by first | (with_reducible assumption) | assumption)
                have q274 : x5_1 < (l1.length : Int) := of_decide_eq_true (by first | (with_reducible assumption) | assumption)
                obtain ⟨ad274, e274, hx274_0, hx274_1⟩ := at_T78 HR1.out x5_1 p274 q274
                cases e274
                replace p274 := eq_true p274
                replace q274 := eq_true q274
                go_wp2
                repeat (go_quiet (fail); try go_wp2)
                go_roundg k1
                case measure => have := HK1.out; omega
                case rel => exact ⟨(wrap64 (x5_1 + 1)), (by first | rfl | (simp; done) | (simp [*]; done)), H', ⟨by have := HK1.out; omega⟩, by repeat (first | exact Drawn0.refl _ | apply Drawn0.step)⟩
            · rw [if_neg c6] at H
              exact absurd H (by simp)
          · rw [if_neg c5] at H
            exact absurd H (by simp)
        · rw [if_neg c4] at H
          have c4b0 : decide (x5_1 < (l0.length : Int)) = false := decide_eq_false c4
          clear c4
          obtain rfl := Option.some.inj H
          go_wp2
          repeat (go_quiet (fail); try go_wp2)
          go_ret
          exact ⟨by first | rfl | (simp; done) | (simp [*]; done), by repeat (first | exact Drawn0.refl _ | apply Drawn0.step)⟩
  · rw [if_neg c3] at H
    have c3b0 : ((l0.length : Int) == (l1.length : Int)) = false := beq_eq_false_iff_ne.mpr c3
    have c3b1 : ((l0.length : Int) != (l1.length : Int)) = true := bne_iff_ne.mpr c3
    have c3b2 : (l0.length == l1.length) = false := by first | simpa using c3 | (simp at c3 ⊢; omega)
    obtain rfl := Option.some.inj H
    go_enter Try.func40, Try.ntmps40
    go_wp2
    repeat (go_quiet (fail); try go_wp2)
    go_ret
    exact ⟨by first | rfl | (simp; done) | (simp [*]; done), by repeat (first | exact Drawn0.refl _ | apply Drawn0.step)⟩

end Go.Proofs.Ythjnkapkhphpeaa.P
end
section
namespace Go.Proofs.Ythjnkapkhphpeaa.P
open Go.RowKit Go.Proofs.YthjnkapkhphpeaaW.PrintWords Go.Proofs.YthjnkapkhphpeaaW.PrintLast Go.Proofs.YthjnkapkhphpeaaW.PrintMore
attribute [local go_sem] max2_int min2_int max_two min_two max_three min_three max_four min_four
set_option linter.unusedVariables false
set_option linter.unusedSimpArgs false

/-! ### assartref04_Rows: function 37 -/
def assartref04_Rows.l0 : Nat → List (List (S78)) → List (List (S78)) → Int → Option (Bool)
  | 0, _, _, _ => none
  | k + 1, x0, x1, x5 => if x5 < (x0.length : Int) then (if 0 ≤ x5 then (if x5 < (x1.length : Int) then ((assartref04_Items.f k (rd_L7 x0 x5) (rd_L7 x1 x5)).bind fun t312 => (if t312 = true then (assartref04_Rows.l0 k x0 x1 (wrap64 (x5 + 1))) else (some false))) else (none)) else (none)) else (some true)
def assartref04_Rows.f (k : Nat) (l0 : List (List (S78))) (l1 : List (List (S78))) : Option (Bool) := if (l0.length : Int) = (l1.length : Int) then (assartref04_Rows.l0 k l0 l1 0) else (some false)
theorem assartref04_Rows.mono_l : ∀ k, (∀ y0 y1 y2, LeO (assartref04_Rows.l0 k y0 y1 y2) (assartref04_Rows.l0 (k + 1) y0 y1 y2))
  | 0 => fun _ _ _ r h => by simp [assartref04_Rows.l0] at h
  | k + 1 => by
    have ih0 := assartref04_Rows.mono_l k
    · intro y0 y1 y2
      unfold assartref04_Rows.l0
      repeat' first
      | (with_reducible exact ih0 _ _ _)
      | (with_reducible exact assartref04_Items.mono _ _ _)
      | (with_reducible exact LeO.refl _)
      | (with_reducible exact LeO.none _)
      | (with_reducible refine LeO.ite ?_ ?_)
      | (with_reducible refine LeO.bind ?_ (fun _ => ?_))
      | exact ih0 _ _ _
      | exact assartref04_Items.mono _ _ _
      | exact LeO.none _
      | refine LeO.ite ?_ ?_
      | refine LeO.bind ?_ (fun _ => ?_)
theorem assartref04_Rows.mono : ∀ a0 a1 k, LeO (assartref04_Rows.f k a0 a1) (assartref04_Rows.f (k + 1) a0 a1) := by
  intro a0 a1 k
  have ih0 := assartref04_Rows.mono_l k
  unfold assartref04_Rows.f
  repeat' first
      | (with_reducible exact ih0 _ _ _)
      | (with_reducible exact assartref04_Items.mono _ _ _)
      | (with_reducible exact LeO.refl _)
      | (with_reducible exact LeO.none _)
      | (with_reducible refine LeO.ite ?_ ?_)
      | (with_reducible refine LeO.bind ?_ (fun _ => ?_))
      | exact ih0 _ _ _
      | exact assartref04_Items.mono _ _ _
      | exact LeO.none _
      | refine LeO.ite ?_ ?_
      | refine LeO.bind ?_ (fun _ => ?_)
set_option maxHeartbeats 8000000 in
set_option maxRecDepth 100000 in
theorem assartref04_Rows.calls (k : Nat) (A0 : Option Addr) (c0 : Nat) (l0 : List (List (S78))) (A1 : Option Addr) (c1 : Nat) (l1 : List (List (S78))) (r : Bool) (w : World) (hr0 : Kd.C (Kd.slice 78 k78) w A0 l0.length l0) (hc0 : l0.length ≤ c0) (hr1 : Kd.C (Kd.slice 78 k78) w A1 l1.length l1) (hc1 : l1.length ≤ c1) (h : assartref04_Rows.f k l0 l1 = some r) :
    Calls Try.prog 37 #[.slice A0 l0.length c0, .slice A1 l1.length c1] w fun e w' => e = .returned (.bool r) ∧ Drawn0 w w' := by
  have HR0 := Aside0.mk hr0
  have HC0 := Aside0.mk hc0
  clear hr0 hc0
  have HR1 := Aside0.mk hr1
  have HC1 := Aside0.mk hc1
  clear hr1 hc1
  have H : (if (l0.length : Int) = (l1.length : Int) then (assartref04_Rows.l0 k l0 l1 0) else (some false)) = some r := h
  clear h
  by_cases c3 : (l0.length : Int) = (l1.length : Int)
  · rw [if_pos c3] at H
    have c3b0 : ((l0.length : Int) == (l1.length : Int)) = true := beq_iff_eq.mpr c3
    have c3b1 : ((l0.length : Int) != (l1.length : Int)) = false := bne_eq_false_iff_eq.mpr c3
    have c3b2 : (l0.length == l1.length) = true := by first | simpa using c3 | (simp at c3 ⊢; omega)
    clear c3
    have H' := Aside0.mk H
    clear H
    go_enter Try.func37, Try.ntmps37
    go_wp2
    repeat (go_quiet (fail); try go_wp2)
    go_loopg [5] k (fun kq v5 w' => ∃ (x5_1 : Int), v5 = .int .i64 x5_1 ∧ Aside0 (assartref04_Rows.l0 kq l0 l1 x5_1 = some r) ∧ Aside0 (kq ≤ k) ∧ Drawn0 w w')
    case atStart => exact ⟨(0), (by first | rfl | (simp; done) | (simp [*]; done)), H', ⟨Nat.le_refl _⟩, by repeat (first | exact Drawn0.refl _ | apply Drawn0.step)⟩
    case round =>
      clear H'
      try clear c1
      try clear p2
      try clear c3
      try clear c3b0
      try clear c3b1
      try clear c3b2
      obtain ⟨x5_1, rfl, HA, HK1, ⟨m1, rfl⟩⟩ := hrel
      cases gk with
      | zero => exact absurd HA.out (by simp [assartref04_Rows.l0])
      | succ k1 =>
        have H := HA.out
        clear HA
        simp only [assartref04_Rows.l0] at H
        by_cases c4 : x5_1 < (l0.length : Int)
        · rw [if_pos c4] at H
          have c4b0 : decide (x5_1 < (l0.length : Int)) = true := decide_eq_true c4
          clear c4
          by_cases c5 : 0 ≤ x5_1
          · rw [if_pos c5] at H
            have c5b0 : decide (0 ≤ x5_1) = true := decide_eq_true c5
            clear c5
            by_cases c6 : x5_1 < (l1.length : Int)
            · rw [if_pos c6] at H
              have c6b0 : decide (x5_1 < (l1.length : Int)) = true := decide_eq_true c6
              clear c6
              replace H := Option.bind_eq_some_iff.mp H
              obtain ⟨t312, A70, H⟩ := H
              replace H : (if t312 = true then (assartref04_Rows.l0 k1 l0 l1 (wrap64 (x5_1 + 1))) else (some false)) = some r := H
              have A7 := Aside0.mk A70
              clear A70
              by_cases c8 : t312 = true
              · subst c8
                have H1 : (assartref04_Rows.l0 k1 l0 l1 (wrap64 (x5_1 + 1))) = some r := by rw [if_pos rfl] at H; exact H
                clear H
                have H := H1
                clear H1
                have H' := Aside0.mk H
                clear H
                have p310 : 0 ≤ (x5_1 : Int) := of_decide_eq_true (by first | (with_reducible assumption) | assumption)
                have q310 : x5_1 < (l0.length : Int) := of_decide_eq_true (by first | (with_reducible assumption) | assumption)
                obtain ⟨ad310, A310_0, c310_0, e310, hx310_0, hl310_0, hi310_0⟩ := at_L7 HR0.out x5_1 p310 q310
                cases e310
                have HR310_0 := Aside0.mk hi310_0
                have HC310_0 := Aside0.mk hl310_0
                clear hi310_0 hl310_0
                replace p310 := eq_true p310
                replace q310 := eq_true q310
                have p311 : 0 ≤ (x5_1 : Int) := of_decide_eq_true (by first | (with_reducible assumption) | assumption)
                have q311 : x5_1 < (l1.length : Int) := of_decide_eq_true (by first | (with_reducible assumption) | assumption)
                obtain ⟨ad311, A311_0, c311_0, e311, hx311_0, hl311_0, hi311_0⟩ := at_L7 HR1.out x5_1 p311 q311
                cases e311
                have HR311_0 := Aside0.mk hi311_0
                have HC311_0 := Aside0.mk hl311_0
                clear hi311_0 hl311_0
                replace p311 := eq_true p311
                replace q311 := eq_true q311
                go_wp2_with (first | (go_at_call 40; (with_reducible refine (assartref04_Items.calls k1 _ _ (rd_L7 l0 x5_1) _ _ (rd_L7 l1 x5_1) true _ ?side1 ?side2 ?side3 ?side4 A7.out).mono ?_); (case side1 => repeat (first | exact HR310_0.out | (with_reducible refine Kd.C_alloc ?_ _) | (with_reducible refine Kd.C_drewN ?_ _) | (with_reducible refine Kd.C_drew ?_))); (case side2 => exact HC310_0.out); (case side3 => repeat (first | exact HR311_0.out | (with_reducible refine Kd.C_alloc ?_ _) | (with_reducible refine Kd.C_drewN ?_ _) | (with_reducible refine Kd.C_drew ?_))); (case side4 => exact HC311_0.out); rintro e w' ⟨rfl, ⟨nd, rfl⟩⟩; (try first | exact ⟨rfl, _, World.drewN_drewN _ _ _⟩ | exact ⟨rfl, _, Eq.trans (World.drewN_drewN _ _ _) (congrArg (World.drewN _) (Nat.add_assoc _ _ _))⟩)))
                repeat (go_quiet (first | (go_at_call 40; (with_reducible refine (assartref04_Items.calls k1 _ _ (rd_L7 l0 x5_1) _ _ (rd_L7 l1 x5_1) true _ ?side1 ?side2 ?side3 ?side4 A7.out).mono ?_); (case side1 => repeat (first | exact HR310_0.out | (with_reducible refine Kd.C_alloc ?_ _) | (with_reducible refine Kd.C_drewN ?_ _) | (with_reducible refine Kd.C_drew ?_))); (case side2 => exact HC310_0.out); (case side3 => repeat (first | exact HR311_0.out | (with_reducible refine Kd.C_alloc ?_ _) | (with_reducible refine Kd.C_drewN ?_ _) | (with_reducible refine Kd.C_drew ?_))); (case side4 => exact HC311_0.out); rintro e w' ⟨rfl, ⟨nd, rfl⟩⟩; (try first | exact ⟨rfl, _, World.drewN_drewN _ _ _⟩ | exact ⟨rfl, _, Eq.trans (World.drewN_drewN _ _ _) (congrArg (World.drewN _) (Nat.add_assoc _ _ _))⟩))); try go_wp2_with (first | (go_at_call 40; (with_reducible refine (assartref04_Items.calls k1 _ _ (rd_L7 l0 x5_1) _ _ (rd_L7 l1 x5_1) true _ ?side1 ?side2 ?side3 ?side4 A7.out).mono ?_); (case side1 => repeat (first | exact HR310_0.out | (with_reducible refine Kd.C_alloc ?_ _) | (with_reducible refine Kd.C_drewN ?_ _) | (with_reducible refine Kd.C_drew ?_))); (case side2 => exact HC310_0.out); (case side3 => repeat (first | exact HR311_0.out | (with_reducible refine Kd.C_alloc ?_ _) | (with_reducible refine Kd.C_drewN ?_ _) | (with_reducible refine Kd.C_drew ?_))); (case side4 => exact HC311_0.out); rintro e w' ⟨rfl, ⟨nd, rfl⟩⟩; (try first | exact ⟨rfl, _, World.drewN_drewN _ _ _⟩ | exact ⟨rfl, _, Eq.trans (World.drewN_drewN _ _ _) (congrArg (World.drewN _) (Nat.add_assoc _ _ _))⟩))))
                go_roundg k1
                case measure => have := HK1.out; omega
                case rel => exact ⟨(wrap64 (x5_1 + 1)), (by first | rfl | (simp; done) | (simp [*]; done)), H', ⟨by have := HK1.out; omega⟩, by repeat (first | exact Drawn0.refl _ | apply Drawn0.step)⟩
              · replace c8 := Bool.eq_false_iff.mpr c8
                subst c8
                have H1 : (some false) = some r := by rw [if_neg (show ¬ (false = true) by decide)] at H; exact H
                clear H
                have H := H1
                clear H1
                obtain rfl := Option.some.inj H
                have p310 : 0 ≤ (x5_1 : Int) := of_decide_eq_true (by first | (with_reducible assumption) | assumption)
                have q310 : x5_1 < (l0.length : Int) := of_decide_eq_true (by first | (with_reducible assumption) | assumption)
                obtain ⟨ad310, A310_0, c310_0, e310, hx310_0, hl310_0, hi310_0⟩ := at_L7 HR0.out x5_1 p310 q310
                cases e310
                have HR310_0 := Aside0.mk hi310_0
                have HC310_0 := Aside0.mk hl310_0
                clear hi310_0 hl310_0
                replace p310 := eq_true p310
                replace q310 := eq_true q310
                have p311 : 0 ≤ (x5_1 : Int) := of_decide_eq_true (by first | (with_reducible assumption) | assumption)
                have q311 : x5_1 < (l1.length : Int) := of_decide_eq_true (by first | (with_reducible assumption) | assumption)
                obtain ⟨ad311, A311_0, c311_0, e311, hx311_0, hl311_0, hi311_0⟩ := at_L7 HR1.out x5_1 p311 q311
                cases e311
                have HR311_0 := Aside0.mk hi311_0
                have HC311_0 := Aside0.mk hl311_0
                clear hi311_0 hl311_0
                replace p311 := eq_true p311
                replace q311 := eq_true q311
                go_wp2_with (first | (go_at_call 40; (with_reducible refine (assartref04_Items.calls k1 _ _ (rd_L7 l0 x5_1) _ _ (rd_L7 l1 x5_1) false _ ?side1 ?side2 ?side3 ?side4 A7.out).mono ?_); (case side1 => repeat (first | exact HR310_0.out | (with_reducible refine Kd.C_alloc ?_ _) | (with_reducible refine Kd.C_drewN ?_ _) | (with_reducible refine Kd.C_drew ?_))); (case side2 => exact HC310_0.out); (case side3 => repeat (first | exact HR311_0.out | (with_reducible refine Kd.C_alloc ?_ _) | (with_reducible refine Kd.C_drewN ?_ _) | (with_reducible refine Kd.C_drew ?_))); (case side4 => exact HC311_0.out); rintro e w' ⟨rfl, ⟨nd, rfl⟩⟩; (try first | exact ⟨rfl, _, World.drewN_drewN _ _ _⟩ | exact ⟨rfl, _, Eq.trans (World.drewN_drewN _ _ _) (congrArg (World.drewN _) (Nat.add_assoc _ _ _))⟩)))
                repeat (go_quiet (first | (go_at_call 40; (with_reducible refine (assartref04_Items.calls k1 _ _ (rd_L7 l0 x5_1) _ _ (rd_L7 l1 x5_1) false _ ?side1 ?side2 ?side3 ?side4 A7.out).mono ?_); (case side1 => repeat (first | exact HR310_0.out | (with_reducible refine Kd.C_alloc ?_ _) | (with_reducible refine Kd.C_drewN ?_ _) | (with_reducible refine Kd.C_drew ?_))); (case side2 => exact HC310_0.out); (case side3 => repeat (first | exact HR311_0.out | (with_reducible refine Kd.C_alloc ?_ _) | (with_reducible refine Kd.C_drewN ?_ _) | (with_reducible refine Kd.C_drew ?_))); (case side4 => exact HC311_0.out); rintro e w' ⟨rfl, ⟨nd, rfl⟩⟩; (try first | exact ⟨rfl, _, World.drewN_drewN _ _ _⟩ | exact ⟨rfl, _, Eq.trans (World.drewN_drewN _ _ _) (congrArg (World.drewN _) (Nat.add_assoc _ _ _))⟩))); try go_wp2_with (first | (go_at_call 40; (with_reducible refine (assartref04_Items.calls k1 _ _ (rd_L7 l0 x5_1) _ _ (rd_L7 l1 x5_1) false _ ?side1 ?side2 ?side3 ?side4 A7.out).mono ?_); (case side1 => repeat (first | exact HR310_0.out | (with_reducible refine Kd.C_alloc ?_ _) | (with_reducible refine Kd.C_drewN ?_ _) | (with_reducible refine Kd.C_drew ?_))); (case side2 => exact HC310_0.out); (case side3 => repeat (first | exact HR311_0.out | (with_reducible refine Kd.C_alloc ?_ _) | (with_reducible refine Kd.C_drewN ?_ _) | (with_reducible refine Kd.C_drew ?_))); (case side4 => exact HC311_0.out); rintro e w' ⟨rfl, ⟨nd, rfl⟩⟩; (try first | exact ⟨rfl, _, World.drewN_drewN _ _ _⟩ | exact ⟨rfl, _, Eq.trans (World.drewN_drewN _ _ _) (congrArg (World.drewN _) (Nat.add_assoc _ _ _))⟩))))
                go_ret
                exact ⟨by first | rfl | (simp; done) | (simp [*]; done), by repeat (first | exact Drawn0.refl _ | apply Drawn0.step)⟩
            · rw [if_neg c6] at H
              exact absurd H (by simp)
          · rw [if_neg c5] at H
            exact absurd H (by simp)
        · rw [if_neg c4] at H
          have c4b0 : decide (x5_1 < (l0.length : Int)) = false := decide_eq_false c4
          clear c4
          obtain rfl := Option.some.inj H
          go_wp2
          repeat (go_quiet (fail); try go_wp2)
          go_ret
          exact ⟨by first | rfl | (simp; done) | (simp [*]; done), by repeat (first | exact Drawn0.refl _ | apply Drawn0.step)⟩
  · rw [if_neg c3] at H
    have c3b0 : ((l0.length : Int) == (l1.length : Int)) = false := beq_eq_false_iff_ne.mpr c3
    have c3b1 : ((l0.length : Int) != (l1.length : Int)) = true := bne_iff_ne.mpr c3
    have c3b2 : (l0.length == l1.length) = false := by first | simpa using c3 | (simp at c3 ⊢; omega)
    obtain rfl := Option.some.inj H
    go_enter Try.func37, Try.ntmps37
    go_wp2
    repeat (go_quiet (fail); try go_wp2)
    go_ret
    exact ⟨by first | rfl | (simp; done) | (simp [*]; done), by repeat (first | exact Drawn0.refl _ | apply Drawn0.step)⟩

end Go.Proofs.Ythjnkapkhphpeaa.P
end
