/- Texts of this claim's proof put together: F42, PNode1, PureNodeSplits, LawNodeSplits. -/
import Derived.Test.YthjnkapkhphpeaaBNodeSplits0
import Derived.Test.YthjnkapkhphpeaaBNodeSplits1
import Derived.Test.YthjnkapkhphpeaaBNodeSplits2
import Derived.Test.YthjnkapkhphpeaaRows
import Derived.WalkKit
import Derived.ProofKit
import Derived.OpenShut
import Derived.ShutString
import Derived.ChangeOld
import Derived.Below
import Derived.SizedLaws
section
-- Written by a program of this session (xprint.py, over the kit's print). Not trusted: Lean checks it.
namespace Go.Proofs.Ythjnkapkhphpeaa.P
open Go.RowKit Go.Proofs.YthjnkapkhphpeaaW.PrintWords Go.Proofs.YthjnkapkhphpeaaW.PrintLast Go.Proofs.YthjnkapkhphpeaaW.PrintMore
attribute [local go_sem] max2_int min2_int max_two min_two max_three min_three max_four min_four   -- for this text's walks alone
set_option linter.unusedVariables false
set_option linter.unusedSimpArgs false

/-! ### assartref04_With: function 42 -/
def assartref04_With.f (l0 : List (S78)) (a1 : Int) (a2 : Int) (l3 : List (S78)) : Option ((List (S78))) := (some (([] : List (S78)) : List (S78))).bind fun y335 => (if 0 ≤ a1 then (if a1 ≤ (l0.length : Int) then ((some (l0.take (a1 : Int).toNat : List (S78))).bind fun y338 => (if y335.length + y338.length < 8796093022208 then ((some (y335 ++ y338 : List (S78))).bind fun y342 => (if y342.length + l3.length < 8796093022208 then ((some (y342 ++ l3 : List (S78))).bind fun y345 => (if 0 ≤ (wrap64 (a1 + a2)) then (if (wrap64 (a1 + a2)) ≤ (l0.length : Int) then ((some (l0.drop ((wrap64 (a1 + a2)) : Int).toNat : List (S78))).bind fun y348 => (if y345.length + y348.length < 8796093022208 then (some (y345 ++ y348)) else (none))) else (none)) else (none))) else (none))) else (none))) else (none)) else (none))
set_option maxHeartbeats 8000000 in
set_option maxRecDepth 100000 in
theorem assartref04_With.calls (A0 : Option Addr) (c0 : Nat) (l0 : List (S78)) (a1 : Int) (a2 : Int) (A3 : Option Addr) (c3 : Nat) (l3 : List (S78)) (r : List (S78)) (w : World) (hr0 : Kd.C k78 w A0 l0.length l0) (hc0 : l0.length ≤ c0) (hr3 : Kd.C k78 w A3 l3.length l3) (hc3 : l3.length ≤ c3) (h : assartref04_With.f l0 a1 a2 l3 = some r) :
    Calls Try.prog 42 #[.slice A0 l0.length c0, .int .i64 a1, .int .i64 a2, .slice A3 l3.length c3] w fun e w' => ∃ v0_ : Value, e = .returned (v0_) ∧ Kd.R k78 78 w' w.heap.size (fun _ => True) v0_ r ∧ Below w.heap.size w w' := by
  have HR0 := Aside0.mk hr0
  have HC0 := Aside0.mk hc0
  clear hr0 hc0
  have HR3 := Aside0.mk hr3
  have HC3 := Aside0.mk hc3
  clear hr3 hc3
  have HB := Aside0.mk (Below.refl w.heap.size w)
  have H : ((some (([] : List (S78)) : List (S78))).bind fun y335 => (if 0 ≤ a1 then (if a1 ≤ (l0.length : Int) then ((some (l0.take (a1 : Int).toNat : List (S78))).bind fun y338 => (if y335.length + y338.length < 8796093022208 then ((some (y335 ++ y338 : List (S78))).bind fun y342 => (if y342.length + l3.length < 8796093022208 then ((some (y342 ++ l3 : List (S78))).bind fun y345 => (if 0 ≤ (wrap64 (a1 + a2)) then (if (wrap64 (a1 + a2)) ≤ (l0.length : Int) then ((some (l0.drop ((wrap64 (a1 + a2)) : Int).toNat : List (S78))).bind fun y348 => (if y345.length + y348.length < 8796093022208 then (some (y345 ++ y348)) else (none))) else (none)) else (none))) else (none))) else (none))) else (none)) else (none))) = some r := h
  clear h
  obtain ⟨y335, hy335⟩ : ∃ y_ : List (S78), y_ = (([] : List (S78))) := ⟨_, rfl⟩
  replace H : (if 0 ≤ a1 then (if a1 ≤ (l0.length : Int) then ((some (l0.take (a1 : Int).toNat : List (S78))).bind fun y338 => (if y335.length + y338.length < 8796093022208 then ((some (y335 ++ y338 : List (S78))).bind fun y342 => (if y342.length + l3.length < 8796093022208 then ((some (y342 ++ l3 : List (S78))).bind fun y345 => (if 0 ≤ (wrap64 (a1 + a2)) then (if (wrap64 (a1 + a2)) ≤ (l0.length : Int) then ((some (l0.drop ((wrap64 (a1 + a2)) : Int).toNat : List (S78))).bind fun y348 => (if y345.length + y348.length < 8796093022208 then (some (y345 ++ y348)) else (none))) else (none)) else (none))) else (none))) else (none))) else (none)) else (none)) = some r := by first | (rw [hy335]; with_reducible exact H) | (have H2_ := (Option.bind_some _ _).symm.trans H; rw [hy335]; with_reducible exact H2_) | (have H2_ := (Option.bind_some _ _).symm.trans H; with_reducible exact H2_) | with_reducible exact H | (rw [hy335]; exact H) | exact H
  have Ny335 := Aside0.mk hy335
  clear hy335
  by_cases c5 : 0 ≤ a1
  · rw [if_pos c5] at H
    have c5b0 := eq_true c5
    have c5b1 : decide (0 ≤ a1) = true := decide_eq_true c5
    clear c5
    by_cases c6 : a1 ≤ (l0.length : Int)
    · rw [if_pos c6] at H
      have c6b0 := eq_true c6
      have c6b1 : decide (a1 ≤ (l0.length : Int)) = true := decide_eq_true c6
      clear c6
      obtain ⟨y338, hy338⟩ : ∃ y_ : List (S78), y_ = (l0.take (a1 : Int).toNat) := ⟨_, rfl⟩
      replace H : (if y335.length + y338.length < 8796093022208 then ((some (y335 ++ y338 : List (S78))).bind fun y342 => (if y342.length + l3.length < 8796093022208 then ((some (y342 ++ l3 : List (S78))).bind fun y345 => (if 0 ≤ (wrap64 (a1 + a2)) then (if (wrap64 (a1 + a2)) ≤ (l0.length : Int) then ((some (l0.drop ((wrap64 (a1 + a2)) : Int).toNat : List (S78))).bind fun y348 => (if y345.length + y348.length < 8796093022208 then (some (y345 ++ y348)) else (none))) else (none)) else (none))) else (none))) else (none)) = some r := by first | (rw [hy338]; with_reducible exact H) | (have H2_ := (Option.bind_some _ _).symm.trans H; rw [hy338]; with_reducible exact H2_) | (have H2_ := (Option.bind_some _ _).symm.trans H; with_reducible exact H2_) | with_reducible exact H | (rw [hy338]; exact H) | exact H
      have Ny338 := Aside0.mk hy338
      clear hy338
      by_cases c7 : y335.length + y338.length < 8796093022208
      · rw [if_pos c7] at H
        have LMc7 := Aside0.mk c7
        clear c7
        obtain ⟨y342, hy342⟩ : ∃ y_ : List (S78), y_ = (y335 ++ y338) := ⟨_, rfl⟩
        replace H : (if y342.length + l3.length < 8796093022208 then ((some (y342 ++ l3 : List (S78))).bind fun y345 => (if 0 ≤ (wrap64 (a1 + a2)) then (if (wrap64 (a1 + a2)) ≤ (l0.length : Int) then ((some (l0.drop ((wrap64 (a1 + a2)) : Int).toNat : List (S78))).bind fun y348 => (if y345.length + y348.length < 8796093022208 then (some (y345 ++ y348)) else (none))) else (none)) else (none))) else (none)) = some r := by first | (rw [hy342]; with_reducible exact H) | (have H2_ := (Option.bind_some _ _).symm.trans H; rw [hy342]; with_reducible exact H2_) | (have H2_ := (Option.bind_some _ _).symm.trans H; with_reducible exact H2_) | with_reducible exact H | (rw [hy342]; exact H) | exact H
        have Ny342 := Aside0.mk hy342
        clear hy342
        by_cases c8 : y342.length + l3.length < 8796093022208
        · rw [if_pos c8] at H
          have LMc8 := Aside0.mk c8
          clear c8
          obtain ⟨y345, hy345⟩ : ∃ y_ : List (S78), y_ = (y342 ++ l3) := ⟨_, rfl⟩
          replace H : (if 0 ≤ (wrap64 (a1 + a2)) then (if (wrap64 (a1 + a2)) ≤ (l0.length : Int) then ((some (l0.drop ((wrap64 (a1 + a2)) : Int).toNat : List (S78))).bind fun y348 => (if y345.length + y348.length < 8796093022208 then (some (y345 ++ y348)) else (none))) else (none)) else (none)) = some r := by first | (rw [hy345]; with_reducible exact H) | (have H2_ := (Option.bind_some _ _).symm.trans H; rw [hy345]; with_reducible exact H2_) | (have H2_ := (Option.bind_some _ _).symm.trans H; with_reducible exact H2_) | with_reducible exact H | (rw [hy345]; exact H) | exact H
          have Ny345 := Aside0.mk hy345
          clear hy345
          obtain ⟨ji9, hji9⟩ : ∃ j_ : Int, (wrap64 (a1 + a2)) = j_ := ⟨_, rfl⟩
          replace H : (if 0 ≤ (ji9) then (if (ji9) ≤ (l0.length : Int) then ((some (l0.drop ((ji9) : Int).toNat : List (S78))).bind fun y348 => (if y345.length + y348.length < 8796093022208 then (some (y345 ++ y348)) else (none))) else (none)) else (none)) = some r := by first | (rw [hji9] at H; exact H) | (simp only [hji9] at H ⊢; exact H)
          have hji9w : (IntKind.i64.wrap (a1 + a2)) = ji9 := (i64_w _).trans hji9
          by_cases c10 : 0 ≤ (ji9)
          · rw [if_pos c10] at H
            have c10b0 := eq_true c10
            have c10b1 : decide (0 ≤ (ji9)) = true := decide_eq_true c10
            clear c10
            by_cases c11 : (ji9) ≤ (l0.length : Int)
            · rw [if_pos c11] at H
              have c11b0 := eq_true c11
              have c11b1 : decide ((ji9) ≤ (l0.length : Int)) = true := decide_eq_true c11
              clear c11
              obtain ⟨y348, hy348⟩ : ∃ y_ : List (S78), y_ = (l0.drop ((ji9) : Int).toNat) := ⟨_, rfl⟩
              replace H : (if y345.length + y348.length < 8796093022208 then (some (y345 ++ y348)) else (none)) = some r := by first | (rw [hy348]; with_reducible exact H) | (have H2_ := (Option.bind_some _ _).symm.trans H; rw [hy348]; with_reducible exact H2_) | (have H2_ := (Option.bind_some _ _).symm.trans H; with_reducible exact H2_) | with_reducible exact H | (rw [hy348]; exact H) | exact H
              have Ny348 := Aside0.mk hy348
              clear hy348
              by_cases c12 : y345.length + y348.length < 8796093022208
              · rw [if_pos c12] at H
                have LMc12 := Aside0.mk c12
                clear c12
                obtain ⟨y352, hy352⟩ : ∃ y_ : List (S78), y_ = (y345 ++ y348) := ⟨_, rfl⟩
                replace H : (some y352) = some r := by first | (rw [hy352]; with_reducible exact H) | (have H2_ := (Option.bind_some _ _).symm.trans H; rw [hy352]; with_reducible exact H2_) | (have H2_ := (Option.bind_some _ _).symm.trans H; with_reducible exact H2_) | with_reducible exact H | (rw [hy352]; exact H) | exact H
                have Ny352 := Aside0.mk hy352
                clear hy352
                obtain rfl := Option.some.inj H
                go_enter Try.func42, Try.ntmps42
                go_wp2_with (first | ((with_reducible refine gate_dst (N := 10) rfl ?_); refine Kd.R_lit k78 _ 78 ?hg (N := 10) ?hd (xs := ([] : List (S78))) (inner := []) (ok := fun _ => True) (okp := fun _ => True) ?hr ?hp (fun _ hk => hk) trivial (Below.refl _ _) (Nat.le_refl _) (by simp) ?_; (case hd => rfl); (case hg => rfl); (case hr => first | (go_simp; done) | (go_simp; rfl)); (case hp => exact (Reps.none _ _)); intro v336 w13 ho14 hb hg_ hnew_; clear hg_ hnew_; (first | rw [← Ny335.out] at ho14 | (simp only [Int.reduceToNat] at ho14; rw [← Ny335.out] at ho14)); have n0_ := Aside0.mk (Kd.R_lower ho14 (below_size (by repeat (first | (with_reducible first | exact HB.out | apply below_alloc | apply pw_below_drewN | apply below_drew1) | exact HB.out)))); have n1_ := Aside0.mk (below_step (by repeat (first | (with_reducible first | exact HB.out | apply below_alloc | apply pw_below_drewN | apply below_drew1) | exact HB.out)) hb); clear HB; have HO337 := n0_; have HB := n1_; clear n0_ n1_; clear hb ho14; have q15 : (a1 : Int) ≤ ((l0.length : Int) : Int) := of_decide_eq_true (by first | (with_reducible assumption) | assumption); obtain ⟨i015, hi015, _, hsz15, _⟩ := info_parts info78; have hroom15 : l0.length ≤ c0 := HC0.out; have hC15 : Kd.C k78 _ A0 l0.length l0 := HR0.out; have hcut15 := cut_to (P := Try.prog) 54 78 .i64 Try.underlying54 hi015 A0 l0.length c0 a1 (of_decide_eq_true (by first | (with_reducible assumption) | assumption)) q15 hroom15; have hr15 := Kd.C_take (m := (a1 : Int).toNat) hC15 (by omega); have hy15 : y338.length = (a1 : Int).toNat := (by rw [Ny338.out, List.length_take]; omega); rw [← Ny338.out] at hr15; rw [← hy15] at hcut15; have HR341 := Aside0.mk hr15; have HC341 := Aside0.mk (show y338.length ≤ c0 from by omega); clear hr15 hC15 hroom15 hi015 hsz15; have KY15 := Aside0.mk hy15; clear hy15; replace q15 := eq_true q15) | ((with_reducible refine gate_builtin (b := .append) (xs := #[.tmp 10, .tmp 13]) rfl ?_); at_builtin; refine Kd.R_append_rows k78 (w0 := w) w.heap.size rfl (.tmp 10) (.tmp 13) 54 78 (.agg #[(.int .i64 0), (.int .i64 0)]) 16 rfl Try.underlying54 info78 rfl (by decide) (by omega) v336 y335 y338 _ _ _ (fun _ => True) (fun _ => False) rfl rfl ?aO ?aR (fun _ _ h => h) (fun _ h => h.elim) ?aF ?aB ?aS ?aL ?_; (case aR => repeat (first | exact (Kd.C_below HR341.out HB.out) | (with_reducible refine Kd.C_alloc ?_ _) | (with_reducible refine Kd.C_drewN ?_ _) | (with_reducible refine Kd.C_drew ?_))); (case aB => exact (by repeat (first | (with_reducible first | exact HB.out | apply below_alloc | apply pw_below_drewN | apply below_drew1) | exact HB.out))); (case aF => exact (fun _ _ => trivial)); (case aO => exact (by (with_reducible repeat (first | apply Kd.R_alloc | apply Kd.R_drewN | apply Kd.R_drew)); exact HO337.out)); (case aS => exact (below_size (by repeat (first | (with_reducible first | exact HB.out | apply below_alloc | apply pw_below_drewN | apply below_drew1) | exact HB.out)))); (case aL => have := LMc7.out; omega); intro v343 w16 ho hb hg hat; rw [← Ny342.out] at ho; have n0_ := Aside0.mk (hb); have n1_ := Aside0.mk (ho); clear HB; clear HO337; have HB := n0_; have HO344 := n1_; clear n0_ n1_; clear ho hb hg hat) | ((with_reducible refine gate_builtin (b := .append) (xs := #[.tmp 14, .tmp 15]) rfl ?_); at_builtin; refine Kd.R_append_rows k78 (w0 := w) w.heap.size rfl (.tmp 14) (.tmp 15) 54 78 (.agg #[(.int .i64 0), (.int .i64 0)]) 16 rfl Try.underlying54 info78 rfl (by decide) (by omega) v343 y342 l3 _ _ _ (fun _ => True) (fun _ => False) rfl rfl ?aO ?aR (fun _ _ h => h) (fun _ h => h.elim) ?aF ?aB ?aS ?aL ?_; (case aR => repeat (first | exact (Kd.C_below HR3.out HB.out) | (with_reducible refine Kd.C_alloc ?_ _) | (with_reducible refine Kd.C_drewN ?_ _) | (with_reducible refine Kd.C_drew ?_))); (case aB => exact (by repeat (first | (with_reducible first | exact HB.out | apply below_alloc | apply pw_below_drewN | apply below_drew1) | exact HB.out))); (case aF => exact (fun _ _ => trivial)); (case aO => exact (by (with_reducible repeat (first | apply Kd.R_alloc | apply Kd.R_drewN | apply Kd.R_drew)); exact HO344.out)); (case aS => exact (below_size (by repeat (first | (with_reducible first | exact HB.out | apply below_alloc | apply pw_below_drewN | apply below_drew1) | exact HB.out)))); (case aL => have := LMc8.out; omega); intro v346 w17 ho hb hg hat; rw [← Ny345.out] at ho; have n0_ := Aside0.mk (hb); have n1_ := Aside0.mk (ho); clear HB; clear HO344; have HB := n0_; have HO347 := n1_; clear n0_ n1_; clear ho hb hg hat; have q18 : ((ji9) : Int) ≤ ((l0.length : Int) : Int) := of_decide_eq_true (by first | (with_reducible assumption) | assumption); obtain ⟨i018, hi018, _, hsz18, _⟩ := info_parts info78; have hroom18 : l0.length ≤ c0 := HC0.out; have hC18 : Kd.C k78 _ A0 l0.length l0 := HR0.out; have q018 : (0 : Int) ≤ ((ji9) : Int) := of_decide_eq_true (by first | (with_reducible assumption) | assumption); have hcut18 := cut_from (P := Try.prog) 54 78 .i64 Try.underlying54 hi018 2 hsz18 A0 l0.length c0 (ji9) q018 q18; have hr18 := Kd.C_drop (m := ((ji9) : Int).toNat) (c := c0) hC18 (by omega) hroom18; obtain ⟨A18, hA18⟩ : ∃ A1, A1 = (if c0 = ((ji9) : Int).toNat then A0 else (A0 : Option Addr).map (·.add (((ji9) : Int).toNat * 2))) := ⟨_, rfl⟩; obtain ⟨c18, hc18⟩ : ∃ c1, c1 = c0 - ((ji9) : Int).toNat := ⟨_, rfl⟩; have hy18 : y348.length = l0.length - ((ji9) : Int).toNat := (by rw [Ny348.out, List.length_drop] <;> omega); rw [show (l0).drop ((ji9) : Int).toNat = y348 from Ny348.out.symm] at hr18; replace hr18 : Kd.C k78 _ A18 y348.length y348 := (by rw [hA18]; exact hr18); rw [← hy18, ← hA18, ← hc18] at hcut18; have HR351 := Aside0.mk hr18; have HC351 := Aside0.mk (show y348.length ≤ c18 from by rw [hy18, hc18]; exact Nat.sub_le_sub_right hroom18 _); clear hr18 hC18 hroom18 hi018 hsz18 hc18; have KY18 := Aside0.mk hy18; have KA18 := Aside0.mk hA18; clear hy18 hA18; replace q18 := eq_true q18) | ((with_reducible refine gate_builtin (b := .append) (xs := #[.tmp 17, .tmp 22]) rfl ?_); at_builtin; refine Kd.R_append_rows k78 (w0 := w) w.heap.size rfl (.tmp 17) (.tmp 22) 54 78 (.agg #[(.int .i64 0), (.int .i64 0)]) 16 rfl Try.underlying54 info78 rfl (by decide) (by omega) v346 y345 y348 _ _ _ (fun _ => True) (fun _ => False) rfl rfl ?aO ?aR (fun _ _ h => h) (fun _ h => h.elim) ?aF ?aB ?aS ?aL ?_; (case aR => repeat (first | exact (Kd.C_below HR351.out HB.out) | (with_reducible refine Kd.C_alloc ?_ _) | (with_reducible refine Kd.C_drewN ?_ _) | (with_reducible refine Kd.C_drew ?_))); (case aB => exact (by repeat (first | (with_reducible first | exact HB.out | apply below_alloc | apply pw_below_drewN | apply below_drew1) | exact HB.out))); (case aF => exact (fun _ _ => trivial)); (case aO => exact (by (with_reducible repeat (first | apply Kd.R_alloc | apply Kd.R_drewN | apply Kd.R_drew)); exact HO347.out)); (case aS => exact (below_size (by repeat (first | (with_reducible first | exact HB.out | apply below_alloc | apply pw_below_drewN | apply below_drew1) | exact HB.out)))); (case aL => have := LMc12.out; omega); intro v353 w19 ho hb hg hat; rw [← Ny352.out] at ho; have n0_ := Aside0.mk (hb); have n1_ := Aside0.mk (ho); clear HB; clear HO347; have HB := n0_; have HO354 := n1_; clear n0_ n1_; clear ho hb hg hat))
                go_ret
                exact ⟨_, by first | rfl | (simp [errW_none, errW_some] <;> rfl) | (simp only [← hji9]; first | rfl | (simp [errW_none, errW_some] <;> rfl)) | (simp [*, errW_none, errW_some] <;> rfl), by (with_reducible repeat (first | apply Kd.R_alloc | apply Kd.R_drewN | apply Kd.R_drew)); exact HO354.out, by repeat (first | (with_reducible first | exact HB.out | apply below_alloc | apply pw_below_drewN | apply below_drew1) | exact HB.out)⟩
              · rw [if_neg c12] at H
                exact absurd H (by simp)
            · rw [if_neg c11] at H
              exact absurd H (by simp)
          · rw [if_neg c10] at H
            exact absurd H (by simp)
        · rw [if_neg c8] at H
          exact absurd H (by simp)
      · rw [if_neg c7] at H
        exact absurd H (by simp)
    · rw [if_neg c6] at H
      exact absurd H (by simp)
  · rw [if_neg c5] at H
    exact absurd H (by simp)

end Go.Proofs.Ythjnkapkhphpeaa.P
end
section
/- The plain laws of node: what is right, rows of items, where a key stands, items with others, items split. -/
namespace Go.Proofs.Ythjnkapkhphpeaa.P
open Go.RowKit Go.Proofs.YthjnkapkhphpeaaW.PrintWords Go.Proofs.YthjnkapkhphpeaaW.PrintLast Go.Proofs.YthjnkapkhphpeaaW.PrintMore
set_option linter.unusedVariables false
set_option linter.unusedSimpArgs false
instance decS78 : DecidableEq S78 := fun x y =>
  if h : x.f0 = y.f0 ∧ x.f1 = y.f1 then isTrue (by cases x; cases y; simp at h; simp [h]) else isFalse (fun e => h (by rw [e]; exact ⟨rfl, rfl⟩))
abbrev kAt (l : List S78) (i : Nat) : Int := (rd_T78 l (i : Nat)).f0
abbrev vAt (l : List S78) (i : Nat) : Int := (rd_T78 l (i : Nat)).f1
theorem rd_eq (l : List S78) (i : Nat) (h : i < l.length) : rd_T78 l (i : Nat) = l[i] := by simp [rd_T78, h]
theorem wsucc (j : Nat) (h : j < 2000000) : wrap64 ((j : Int) + 1) = ((j + 1 : Nat) : Int) := by unfold wrap64; omega
theorem wpred (j : Nat) (h0 : 0 < j) (h : j < 2000000) : wrap64 ((j : Int) - 1) = ((j - 1 : Nat) : Int) := by unfold wrap64; omega
def okAt (l : List S78) (i : Nat) : Prop := 0 ≤ kAt l i ∧ kAt l i ≤ 2147483647 ∧ 0 ≤ vAt l i ∧ vAt l i ≤ 2147483647 ∧ (0 < i → kAt l (i - 1) < kAt l i)
instance (l : List S78) (i : Nat) : Decidable (okAt l i) := by unfold okAt; infer_instance
def okFrom (l : List S78) (j : Nat) : Prop := ∀ i, i < l.length → j ≤ i → okAt l i
instance (l : List S78) (j : Nat) : Decidable (okFrom l j) := by unfold okFrom; infer_instance
theorem okFrom_end (l : List S78) : okFrom l l.length := fun i h1 h2 => by omega
theorem okFrom_step {l : List S78} {j : Nat} (h : j < l.length) : okFrom l j ↔ okAt l j ∧ okFrom l (j + 1) :=
  ⟨fun hh => ⟨hh j h (Nat.le_refl _), fun i h1 h2 => hh i h1 (by omega)⟩, fun ⟨h1, h2⟩ i hi hj => by
    by_cases e : i = j
    · subst e; exact h1
    · exact h2 i hi (by omega)⟩
theorem okFrom_dec {l : List S78} {j : Nat} (h : j < l.length) : decide (okFrom l j) = (decide (okAt l j) && decide (okFrom l (j + 1))) := by
  rw [← Bool.decide_and, decide_eq_decide]
  exact okFrom_step h
def RtN (l : List S78) : Prop := 1 ≤ l.length ∧ l.length ≤ 4 ∧ okFrom l 0
instance (l : List S78) : Decidable (RtN l) := by unfold RtN; infer_instance
theorem refRight04_l0 (leaf : Bool) (l : List S78) (hl : l.length ≤ 1000) : ∀ (d k j : Nat), j + d = l.length → d < k → assartref04_Right.l0 k (j : Int) leaf l = some (decide (okFrom l j)) := by
  intro d
  induction d with
  | zero =>
    intro k j hj hk
    obtain ⟨k, rfl⟩ : ∃ m, k = m + 1 := ⟨k - 1, by omega⟩
    obtain rfl : j = l.length := by omega
    simp only [assartref04_Right.l0]
    rw [if_neg (by omega), decide_eq_true (okFrom_end l)]
  | succ d ih =>
    intro k j hj hk
    obtain ⟨k, rfl⟩ : ∃ m, k = m + 1 := ⟨k - 1, by omega⟩
    have hlt : j < l.length := by omega
    have ih' := ih k (j + 1) (by omega) (by omega)
    simp only [assartref04_Right.l0]
    rw [okFrom_dec hlt, if_pos (by omega), if_pos (by omega), wsucc j (by omega), ih']
    by_cases h1 : kAt l j < 0
    · rw [if_pos h1, decide_eq_false (fun h : okAt l j => by have := h.1; omega), Bool.false_and]
    by_cases h2 : kAt l j > 2147483647
    · rw [if_neg h1, if_pos h2, decide_eq_false (fun h : okAt l j => by have := h.2.1; omega), Bool.false_and]
    by_cases h3 : vAt l j < 0
    · rw [if_neg h1, if_neg h2, if_pos h3, decide_eq_false (fun h : okAt l j => by have := h.2.2.1; omega), Bool.false_and]
    by_cases h4 : vAt l j > 2147483647
    · rw [if_neg h1, if_neg h2, if_neg h3, if_pos h4, decide_eq_false (fun h : okAt l j => by have := h.2.2.2.1; omega), Bool.false_and]
    rw [if_neg h1, if_neg h2, if_neg h3, if_neg h4]
    by_cases h5 : j = 0
    · subst h5
      rw [if_neg (by simp), decide_eq_true (show okAt l 0 from ⟨by omega, by omega, by omega, by omega, fun h => absurd h (by omega)⟩), Bool.true_and]
    · rw [if_pos (by omega), wpred j (by omega) (by omega), if_pos (by omega), if_pos (by omega)]
      by_cases h6 : kAt l (j - 1) ≥ kAt l j
      · rw [if_pos h6, decide_eq_false (fun h : okAt l j => by have := h.2.2.2.2 (by omega); omega), Bool.false_and]
      · rw [if_neg h6, decide_eq_true (show okAt l j from ⟨by omega, by omega, by omega, by omega, fun _ => by omega⟩), Bool.true_and]
theorem refRight04_val (leaf : Bool) (l : List S78) (k : Nat) (hk : 2 + l.length ≤ k ∨ 6 ≤ k) : assartref04_Right.f k leaf l = some (decide (RtN l)) := by
  unfold assartref04_Right.f
  obtain ⟨k, rfl⟩ : ∃ m, k = m + 1 := ⟨k - 1, by omega⟩
  by_cases h1 : l.length < 1
  · rw [if_pos (by omega)]
    simp only [assartref04_Right.j0]
    rw [if_pos trivial, decide_eq_false (fun h : RtN l => by have := h.1; omega)]
  · rw [if_neg (by omega)]
    simp only [assartref04_Right.j0]
    by_cases h4 : l.length ≤ 4
    · rw [decide_eq_false (show ¬ (l.length : Int) > 4 by omega), if_neg (by simp)]
      have := refRight04_l0 leaf l (by omega) l.length k 0 (by omega) (by omega)
      rw [show ((0 : Nat) : Int) = 0 from rfl] at this
      rw [this]
      congr 1
      rw [decide_eq_decide]
      exact ⟨fun h => ⟨by omega, h4, h⟩, fun h => h.2.2⟩
    · rw [decide_eq_true (show (l.length : Int) > 4 by omega), if_pos rfl, decide_eq_false (fun h : RtN l => h4 h.2.1)]
theorem fits_val (a : Int) : node_fits.f a = some (decide (0 ≤ a ∧ a ≤ 2147483647)) := by
  unfold node_fits.f
  by_cases h : a ≥ 0
  · rw [if_pos h]
    have : (0 ≤ a ∧ a ≤ 2147483647) = (a ≤ 2147483647) := by apply propext; omega
    simp only [this]
  · rw [if_neg h, decide_eq_false (by omega)]
theorem right04_l0 (leaf : Bool) (l : List S78) (hl : l.length ≤ 1000) : ∀ (d k j : Nat), j + d = l.length → d < k → node_Right.l0 k l (l.length : Int) (j : Int) leaf l = some (decide (okFrom l j)) := by
  intro d
  induction d with
  | zero =>
    intro k j hj hk
    obtain ⟨k, rfl⟩ : ∃ m, k = m + 1 := ⟨k - 1, by omega⟩
    obtain rfl : j = l.length := by omega
    simp only [node_Right.l0]
    rw [if_neg (by omega), decide_eq_true (okFrom_end l)]
  | succ d ih =>
    intro k j hj hk
    obtain ⟨k, rfl⟩ : ∃ m, k = m + 1 := ⟨k - 1, by omega⟩
    have hlt : j < l.length := by omega
    have ih' := ih k (j + 1) (by omega) (by omega)
    simp only [node_Right.l0]
    rw [okFrom_dec hlt, if_pos (by omega), if_pos (by omega), if_pos (by omega), wsucc j (by omega), ih', fits_val, Option.bind_some, fits_val, Option.bind_some]
    by_cases h1 : 0 ≤ kAt l j ∧ kAt l j ≤ 2147483647
    · rw [if_pos (decide_eq_true h1)]
      by_cases h3 : 0 ≤ vAt l j ∧ vAt l j ≤ 2147483647
      · rw [if_pos (decide_eq_true h3)]
        by_cases h5 : j = 0
        · subst h5
          rw [if_neg (by simp), decide_eq_true (show okAt l 0 from ⟨by omega, by omega, by omega, by omega, fun h => absurd h (by omega)⟩), Bool.true_and]
        · rw [if_pos (by omega), wpred j (by omega) (by omega), if_pos (by omega), if_pos (by omega)]
          by_cases h6 : kAt l j ≤ kAt l (j - 1)
          · rw [if_pos h6, decide_eq_false (fun h : okAt l j => by have := h.2.2.2.2 (by omega); omega), Bool.false_and]
          · rw [if_neg h6, decide_eq_true (show okAt l j from ⟨by omega, by omega, by omega, by omega, fun _ => by omega⟩), Bool.true_and]
      · rw [if_neg (by simpa using h3), decide_eq_false (fun h : okAt l j => h3 ⟨h.2.2.1, h.2.2.2.1⟩), Bool.false_and]
    · rw [if_neg (by simpa using h1), decide_eq_false (fun h : okAt l j => h1 ⟨h.1, h.2.1⟩), Bool.false_and]
theorem right04_val (leaf : Bool) (l : List S78) (k : Nat) (hk : 6 ≤ k) : node_Right.f k leaf l = some (decide (RtN l)) := by
  unfold node_Right.f
  obtain ⟨k, rfl⟩ : ∃ m, k = m + 1 := ⟨k - 1, by omega⟩
  by_cases h1 : l.length < 1
  · rw [if_pos (by omega)]
    simp only [node_Right.j0]
    rw [if_pos trivial, decide_eq_false (fun h : RtN l => by have := h.1; omega)]
  · rw [if_neg (by omega)]
    simp only [node_Right.j0]
    by_cases h4 : l.length ≤ 4
    · rw [decide_eq_false (show ¬ (l.length : Int) > 4 by omega), if_neg (by simp)]
      have := right04_l0 leaf l (by omega) l.length k 0 (by omega) (by omega)
      rw [show ((0 : Nat) : Int) = 0 from rfl] at this
      rw [this]
      congr 1
      rw [decide_eq_decide]
      exact ⟨fun h => ⟨by omega, h4, h⟩, fun h => h.2.2⟩
    · rw [decide_eq_true (show (l.length : Int) > 4 by omega), if_pos rfl, decide_eq_false (fun h : RtN l => h4 h.2.1)]
theorem items_l0 (a b : List S78) (hl : a.length ≤ 1000000) (hab : a.length = b.length) : ∀ (d k j : Nat), j + d = a.length → d < k → assartref04_Items.l0 k a b (j : Int) = some (decide (a.drop j = b.drop j)) := by
  intro d
  induction d with
  | zero =>
    intro k j hj hk
    obtain ⟨k, rfl⟩ : ∃ m, k = m + 1 := ⟨k - 1, by omega⟩
    obtain rfl : j = a.length := by omega
    simp only [assartref04_Items.l0]
    rw [if_neg (by omega), decide_eq_true (by rw [List.drop_of_length_le (Nat.le_refl _), List.drop_of_length_le (by omega)])]
  | succ d ih =>
    intro k j hj hk
    obtain ⟨k, rfl⟩ : ∃ m, k = m + 1 := ⟨k - 1, by omega⟩
    have hlt : j < a.length := by omega
    have hlt2 : j < b.length := by omega
    simp only [assartref04_Items.l0]
    rw [if_pos (by omega), if_pos (by omega), if_pos (by omega), wsucc j (by omega), ih k (j + 1) (by omega) (by omega), rd_eq a j hlt, rd_eq b j hlt2, List.drop_eq_getElem_cons hlt, List.drop_eq_getElem_cons hlt2]
    by_cases h : a[j] = b[j]
    · rw [h, if_neg (by simp)]
      congr 1
      rw [decide_eq_decide]
      exact ⟨fun hh => by rw [hh], fun hh => (List.cons.inj hh).2⟩
    · rw [if_pos]
      · rw [decide_eq_false]
        intro hh
        exact h (List.cons.inj hh).1
      · have : ¬ (a[j].f0 = b[j].f0 ∧ a[j].f1 = b[j].f1) := fun ⟨h1, h2⟩ => h (by
          generalize a[j] = x at h1 h2; generalize b[j] = y at h1 h2
          cases x; cases y; simp at h1 h2; simp [h1, h2])
        by_cases e : a[j].f0 = b[j].f0
        · have : ¬ a[j].f1 = b[j].f1 := fun h2 => this ⟨e, h2⟩
          simp [e, this]
        · simp [e]
theorem items_val (a b : List S78) (hl : a.length ≤ 1000000) (k : Nat) (hk : a.length < k) : assartref04_Items.f k a b = some (decide (a = b)) := by
  unfold assartref04_Items.f
  by_cases h : a.length = b.length
  · rw [if_pos (by omega)]
    have := items_l0 a b hl h a.length k 0 (by omega) hk
    rw [show ((0 : Nat) : Int) = 0 from rfl] at this
    rw [this, List.drop_zero, List.drop_zero]
  · rw [if_neg (by omega), decide_eq_false (fun e => h (by rw [e]))]
/-- Items in rows that nodes can have. -/
def splitN : Nat → List S78 → List (List S78)
  | 0, _ => []
  | n + 1, l => if l.length = 0 then [] else if l.length ≤ 4 then [l] else l.take 3 :: splitN n (l.drop 3)
theorem splitN_len : ∀ (n : Nat) (l : List S78), (splitN n l).length ≤ n
  | 0, l => by simp [splitN]
  | n + 1, l => by
    unfold splitN
    split
    · simp
    · split
      · simp
      · have := splitN_len n (l.drop 3)
        simp
        omega
theorem split_val : ∀ (n : Nat) (l : List S78) (k : Nat), l.length ≤ n → n ≤ 1000 → n < k → node_Split.f k l = some (splitN (n + 1) l) := by
  intro n
  induction n with
  | zero =>
    intro l k h _ hk
    obtain ⟨k, rfl⟩ : ∃ m, k = m + 1 := ⟨k - 1, by omega⟩
    unfold node_Split.f splitN
    rw [if_pos (by omega), if_pos (by omega)]
  | succ n ih =>
    intro l k h hn hk
    obtain ⟨k, rfl⟩ : ∃ m, k = m + 1 := ⟨k - 1, by omega⟩
    unfold node_Split.f splitN
    by_cases h0 : l.length = 0
    · rw [if_pos (by omega), if_pos h0]
    · rw [if_neg (by omega), if_neg h0]
      by_cases h4 : l.length ≤ 4
      · rw [if_pos (by omega), if_pos h4]
      · have := splitN_len (n + 1) (l.drop 3)
        rw [if_neg (by omega), if_neg h4, if_pos (by omega), Option.bind_some, ih (l.drop 3) k (by simp; omega) (by omega) (by omega), Option.bind_some, if_pos (by simp; omega)]
        rfl
theorem refSplit_val : ∀ (n : Nat) (l : List S78) (k : Nat), l.length ≤ n → n ≤ 1000 → n < k → assartref04_Split.f k l = some (splitN (n + 1) l) := by
  intro n
  induction n with
  | zero =>
    intro l k h _ hk
    obtain ⟨k, rfl⟩ : ∃ m, k = m + 1 := ⟨k - 1, by omega⟩
    unfold assartref04_Split.f splitN
    rw [if_pos (by omega), if_pos (by omega)]
  | succ n ih =>
    intro l k h hn hk
    obtain ⟨k, rfl⟩ : ∃ m, k = m + 1 := ⟨k - 1, by omega⟩
    unfold assartref04_Split.f splitN
    by_cases h0 : l.length = 0
    · rw [if_pos (by omega), if_pos h0]
    · rw [if_neg (by omega), if_neg h0]
      by_cases h4 : l.length ≤ 4
      · rw [if_pos (by omega), if_pos h4]
      · have := splitN_len (n + 1) (l.drop 3)
        rw [if_neg (by omega), if_neg h4, if_pos (by omega), Option.bind_some, ih (l.drop 3) k (by simp; omega) (by omega) (by omega), Option.bind_some, if_pos (by simp; omega)]
        rfl
theorem splitN_row_le : ∀ (n : Nat) (l : List S78), ∀ r ∈ splitN n l, r.length ≤ 4
  | 0, l => by simp [splitN]
  | n + 1, l => by
    unfold splitN
    split
    · simp
    · split
      · intro r hr; simp at hr; subst hr; assumption
      · intro r hr
        rcases List.mem_cons.1 hr with rfl | hr
        · simp; omega
        · exact splitN_row_le n (l.drop 3) r hr
theorem rows_l0 (a b : List (List S78)) (hab : a = b) (hl : a.length ≤ 1000) (hr : ∀ r ∈ a, r.length ≤ 1000) : ∀ (d k j : Nat), j + d = a.length → d + 1001 < k → assartref04_Rows.l0 k a b (j : Int) = some true := by
  subst hab
  intro d
  induction d with
  | zero =>
    intro k j hj hk
    obtain ⟨k, rfl⟩ : ∃ m, k = m + 1 := ⟨k - 1, by omega⟩
    simp only [assartref04_Rows.l0]
    rw [if_neg (by omega)]
  | succ d ih =>
    intro k j hj hk
    obtain ⟨k, rfl⟩ : ∃ m, k = m + 1 := ⟨k - 1, by omega⟩
    have hlt : j < a.length := by omega
    have hrd : rd_L7 a (j : Int) = a[j] := by simp [rd_L7, hlt]
    have hlen := hr _ (List.getElem_mem hlt)
    simp only [assartref04_Rows.l0]
    rw [if_pos (by omega), if_pos (by omega), if_pos (by omega), hrd, items_val _ _ (by omega) k (by omega), Option.bind_some, decide_eq_true rfl, if_pos rfl, wsucc j (by omega), ih k (j + 1) (by omega) (by omega)]
theorem rows_same (a : List (List S78)) (hl : a.length ≤ 1000) (hr : ∀ r ∈ a, r.length ≤ 1000) (k : Nat) (hk : 3000 < k) : assartref04_Rows.f k a a = some true := by
  unfold assartref04_Rows.f
  rw [if_pos rfl]
  have := rows_l0 a a rfl hl hr a.length k 0 (by omega) (by omega)
  rwa [show ((0 : Nat) : Int) = 0 from rfl] at this
theorem with_val (l m : List S78) (a g : Nat) (h : a + g ≤ l.length) (hl : l.length ≤ 1000) (hm : m.length ≤ 1000) : node_With.f l (a : Int) (g : Int) m = some (l.take a ++ m ++ l.drop (a + g)) := by
  have hw : wrap64 ((a : Int) + (g : Int)) = ((a + g : Nat) : Int) := by unfold wrap64; omega
  unfold node_With.f
  rw [hw, if_pos (by omega), if_pos (by omega), if_pos (by omega), if_pos (by omega)]
  unfold api_Item_59.f
  simp only [Int.toNat_natCast]
  rw [if_pos]
  · simp
  · simp
    omega
theorem refWith_val (l m : List S78) (a g : Nat) (h : a + g ≤ l.length) (hl : l.length ≤ 1000) (hm : m.length ≤ 1000) : assartref04_With.f l (a : Int) (g : Int) m = some (l.take a ++ m ++ l.drop (a + g)) := by
  have hw : wrap64 ((a : Int) + (g : Int)) = ((a + g : Nat) : Int) := by unfold wrap64; omega
  have ht : (l.take a).length ≤ 1000 := by rw [List.length_take]; omega
  have hd : (l.drop (a + g)).length ≤ 1000 := by rw [List.length_drop]; omega
  unfold assartref04_With.f
  rw [Option.bind_some, hw, if_pos (by omega), if_pos (by omega), Option.bind_some, Int.toNat_natCast, if_pos (by simp; omega), Option.bind_some, if_pos (by simp; omega), Option.bind_some, if_pos (by omega), if_pos (by omega), Option.bind_some, Int.toNat_natCast, if_pos (by simp; omega)]
  simp
def atAns (leaf : Bool) (c : Nat) (is' : Bool) : Option (Int × Bool) := some (if leaf = false ∧ is' = false then (if (c : Int) - 1 < 0 then 0 else (c : Int) - 1) else (c : Int), is')
theorem at_ans {l : List S78} (leaf : Bool) (key : Int) (hl : l.length ≤ 1000) (hris : rising l = true) (c : Nat) (hc : c ≤ l.length) (h0 : ∀ i, i < c → kAt l i < key) (h1 : ∀ i, c ≤ i → i < l.length → key ≤ kAt l i) :
    node_At.f leaf l key = atAns leaf c (decide (c < l.length) && (kAt l c == key)) := by
  have hn : atN l key = c := cut_at (p := fun i => decide (key ≤ kAt l i)) c hc (fun t ht => decide_eq_false (by have := h0 t ht; omega)) (fun t ht htn => decide_eq_true (h1 t ht htn))
  unfold node_At.f atAns
  rw [if_pos ⟨hris, by omega⟩]
  unfold atIs
  rw [hn]
theorem end_ans (leaf : Bool) (c : Nat) (hc : c ≤ 1000) : (if leaf = true then some ((c : Int), false) else some (mx (wrap64 ((c : Int) - 1)) 0, false)) = atAns leaf c false := by
  have hw : wrap64 ((c : Int) - 1) = (c : Int) - 1 := by unfold wrap64; omega
  unfold atAns
  rw [hw]
  cases leaf
  · simp [mx]
  · simp
theorem refAt_tail (leaf : Bool) (l : List S78) (key : Int) (hl : l.length ≤ 1000) (c : Nat) (hc : c ≤ 1000) : ∀ (d k j : Nat), j + d = l.length → d < k → (∀ i, j ≤ i → i < l.length → key < kAt l i) →
    assartref04_At.l0 k key (c : Int) (j : Int) leaf l = atAns leaf c false := by
  intro d
  induction d with
  | zero =>
    intro k j hj hk _
    obtain ⟨k, rfl⟩ : ∃ m, k = m + 1 := ⟨k - 1, by omega⟩
    simp only [assartref04_At.l0]
    rw [if_neg (by omega), end_ans leaf c hc]
  | succ d ih =>
    intro k j hj hk h
    obtain ⟨k, rfl⟩ : ∃ m, k = m + 1 := ⟨k - 1, by omega⟩
    have hj2 := h j (Nat.le_refl _) (by omega)
    simp only [assartref04_At.l0]
    rw [if_pos (by omega), if_pos (by omega), if_neg (by show ¬ kAt l j = key; omega), if_neg (by show ¬ kAt l j < key; omega), wsucc j (by omega), ih k (j + 1) (by omega) (by omega) (fun i hi => h i (by omega))]
theorem refAt_l0 (leaf : Bool) (l : List S78) (key : Int) (hl : l.length ≤ 1000) (hris : rising l = true) : ∀ (d k j : Nat), j + d = l.length → d < k → (∀ i, i < j → kAt l i < key) →
    assartref04_At.l0 k key (j : Int) (j : Int) leaf l = node_At.f leaf l key := by
  intro d
  induction d with
  | zero =>
    intro k j hj hk h
    obtain ⟨k, rfl⟩ : ∃ m, k = m + 1 := ⟨k - 1, by omega⟩
    simp only [assartref04_At.l0]
    rw [at_ans leaf key hl hris j (by omega) h (fun i hi hl => by omega), decide_eq_false (by omega), Bool.false_and, if_neg (by omega), end_ans leaf j (by omega)]
  | succ d ih =>
    intro k j hj hk h
    obtain ⟨k, rfl⟩ : ∃ m, k = m + 1 := ⟨k - 1, by omega⟩
    have hlt : j < l.length := by omega
    have hup : ∀ i, j < i → i < l.length → kAt l j < kAt l i := fun i hi hl => rising_lt hris j i hi hl
    simp only [assartref04_At.l0]
    rw [if_pos (by omega), if_pos (by omega)]
    by_cases h1 : kAt l j = key
    · rw [if_pos h1, at_ans leaf key hl hris j (by omega) h (fun i hi hl => by
        by_cases e : i = j
        · subst e; omega
        · have := hup i (by omega) hl; omega), decide_eq_true hlt, Bool.true_and, h1]
      simp [atAns]
    · rw [if_neg h1]
      by_cases h2 : kAt l j < key
      · rw [if_pos h2, wsucc j (by omega), ih k (j + 1) (by omega) (by omega) (fun i hi => by
          by_cases e : i = j
          · subst e; exact h2
          · exact h i (by omega))]
      · have h3 : (kAt l j == key) = false := by simpa using h1
        rw [if_neg h2, wsucc j (by omega), at_ans leaf key hl hris j (by omega) h (fun i hi hl => by
          by_cases e : i = j
          · subst e; omega
          · have := hup i (by omega) hl; omega), h3, Bool.and_false, refAt_tail leaf l key hl j (by omega) d k (j + 1) (by omega) (by omega) (fun i hi hl => by have := hup i (by omega) hl; omega)]
theorem refAt_val (leaf : Bool) (l : List S78) (key : Int) (hl : l.length ≤ 1000) (hris : rising l = true) (k : Nat) (hk : l.length < k) : assartref04_At.f k leaf l key = node_At.f leaf l key := by
  unfold assartref04_At.f
  have := refAt_l0 leaf l key hl hris l.length k 0 (by omega) hk (fun i hi => by omega)
  rwa [show ((0 : Nat) : Int) = 0 from rfl] at this
theorem rising_of {l : List S78} (h : RtN l) : rising l = true := by
  have step : ∀ i, i + 1 < l.length → kAt l i < kAt l (i + 1) := fun i hi => (h.2.2 (i + 1) hi (by omega)).2.2.2.2 (by omega)
  have all : ∀ d a, a + d + 1 < l.length → kAt l a < kAt l (a + d + 1) := by
    intro d
    induction d with
    | zero => intro a ha; exact step a ha
    | succ d ih => intro a ha; have h1 := ih a (by omega); have h2 := step (a + d + 1) (by omega); rw [show a + (d + 1) + 1 = a + d + 1 + 1 by omega]; omega
  unfold rising
  rw [List.all_eq_true]
  intro b hb
  rw [List.all_eq_true]
  intro a ha
  have hb := List.mem_range.1 hb
  have ha := List.mem_range.1 ha
  have := all (b - a - 1) a (by omega)
  rw [show a + (b - a - 1) + 1 = b by omega] at this
  exact decide_eq_true this
end Go.Proofs.Ythjnkapkhphpeaa.P
end
section
/- NodeSplits: what is split, one row behind the other, is what it was; each row has from 1 to 4 items, and none but the last one another number than 3, if there are more rows. -/
namespace Go.Proofs.Ythjnkapkhphpeaa.Pure
open Go.RowKit Go.Proofs.Ythjnkapkhphpeaa.P Go.Proofs.YthjnkapkhphpeaaW.PrintWords Go.Proofs.YthjnkapkhphpeaaW.PrintLast Go.Proofs.YthjnkapkhphpeaaW.PrintMore

theorem splitN_flat : ∀ (n : Nat) (l : List S78), l.length < n → (splitN n l).flatten = l
  | 0, l, h => by omega
  | n + 1, l, h => by
    unfold splitN
    split
    · have : l = [] := List.eq_nil_of_length_eq_zero (by omega)
      rw [this]; rfl
    · split
      · simp
      · rw [List.flatten_cons, splitN_flat n (l.drop 3) (by simp; omega), List.take_append_drop]
theorem splitN_rows : ∀ (n : Nat) (l : List S78), l.length < n → ∀ j (h : j < (splitN n l).length), 1 ≤ (splitN n l)[j].length ∧ (splitN n l)[j].length ≤ 4 ∧ (j + 1 < (splitN n l).length → (splitN n l)[j].length = 3)
  | 0, l, h => by omega
  | n + 1, l, h => by
    unfold splitN
    by_cases h0 : l.length = 0
    · simp [h0]
    · by_cases h4 : l.length ≤ 4
      · simp only [h0, h4, if_true, if_false]
        intro j hj
        have : j = 0 := by simp at hj; omega
        subst this
        simp
        omega
      · simp only [h0, h4, if_false]
        intro j hj
        cases j with
        | zero => simp; omega
        | succ j =>
          have := splitN_rows n (l.drop 3) (by simp; omega) j (by simpa using hj)
          simpa using this
theorem splits_l0 (l : List S78) (rows : List (List S78)) (hr : rows.length ≤ 1000) (hfl : rows.flatten.length ≤ 1000) (hflat : rows.flatten = l) (hrow : ∀ j (h : j < rows.length), 1 ≤ rows[j].length ∧ rows[j].length ≤ 4 ∧ (j + 1 < rows.length → rows[j].length = 3)) (hz : (rows.length = 0) ↔ (l.length = 0)) :
    ∀ (d k j : Nat), j + d = rows.length → d + 2000 < k → assartlaw04_NodeSplits.l0 k l true rows (rows.take j).flatten (j : Int) = some true := by
  intro d
  induction d with
  | zero =>
    intro k j hj hk
    obtain ⟨k, rfl⟩ : ∃ m, k = m + 1 := ⟨k - 1, by omega⟩
    obtain rfl : j = rows.length := by omega
    simp only [assartlaw04_NodeSplits.l0]
    rw [List.take_length, hflat, if_neg (by omega), if_pos trivial, items_val l l (by rw [← hflat]; omega) k (by rw [← hflat]; omega), Option.bind_some, decide_eq_true rfl, if_pos rfl]
    congr 1
    rw [beq_iff_eq]
    by_cases h : rows.length = 0
    · have := hz.1 h
      simp [h, this]
    · have : ¬ l.length = 0 := fun h2 => h (hz.2 h2)
      rw [beq_eq_false_iff_ne.2 (by omega), beq_eq_false_iff_ne.2 (by omega)]
  | succ d ih =>
    intro k j hj hk
    obtain ⟨k, rfl⟩ : ∃ m, k = m + 1 := ⟨k - 1, by omega⟩
    have hlt : j < rows.length := by omega
    have hrd : rd_L7 rows (j : Int) = rows[j] := by simp [rd_L7, hlt]
    obtain ⟨h1, h4, h3⟩ := hrow j hlt
    have hnext : (rows.take (j + 1)).flatten = (rows.take j).flatten ++ rows[j] := flat_takeI rows j hlt
    have hle := flat_leI rows (j + 1)
    rw [hnext, List.length_append] at hle
    have ih' := ih k (j + 1) (by omega) (by omega)
    rw [hnext] at ih'
    have hw : wrap64 ((rows.length : Int) - 1) = (rows.length : Int) - 1 := by unfold wrap64; omega
    simp only [assartlaw04_NodeSplits.l0]
    rw [hrd, if_pos (by omega), if_pos (by omega), if_neg (by omega), if_neg (by omega), hw, wsucc j (by omega), ih']
    by_cases hlast : (j : Int) < (rows.length : Int) - 1
    · rw [if_pos hlast, if_pos (by have := h3 (by omega); omega), if_pos (by omega)]
    · rw [if_neg hlast, if_pos (by omega)]
theorem NodeSplits : assartlaw04_NodeSplits.QPure := by
  intro l ⟨_, _⟩
  refine ⟨4000, ?_⟩
  unfold assartlaw04_NodeSplits.f
  rw [show assartlaw04_shown.f = some true from rfl, Option.bind_some]
  by_cases h : (l.length : Int) > 20
  · rw [if_pos h]
  · rw [if_neg h, split_val 20 l 4000 (by omega) (by omega) (by omega), Option.bind_some]
    have hf := splitN_flat 21 l (by omega)
    have hlen := splitN_len 21 l
    refine splits_l0 l (splitN 21 l) (by omega) (by rw [hf]; omega) hf (splitN_rows 21 l (by omega)) ⟨fun h => ?_, fun h => ?_⟩ (splitN 21 l).length 4000 0 (by omega) (by omega)
    · rw [← hf, List.eq_nil_of_length_eq_zero h]; rfl
    · rw [List.eq_nil_of_length_eq_zero h]; rfl
end Go.Proofs.Ythjnkapkhphpeaa.Pure
end
section
-- Written by a program of this session (xprint.py, over the kit's print). Not trusted: Lean checks it.
namespace Go.Proofs.Ythjnkapkhphpeaa.nodeSplits
open Go.ChangeShapes Go.WideShapes Go.ChangeAt Go.RowKit Go.Proofs.Ythjnkapkhphpeaa.P Go.Proofs.YthjnkapkhphpeaaW.PrintWords Go.Proofs.YthjnkapkhphpeaaW.PrintLast Go.Proofs.YthjnkapkhphpeaaW.PrintMore
open Go.ChangeMaps (open_string shut_string)
set_option linter.unusedVariables false
set_option linter.unusedSimpArgs false
theorem own : ownKnob Try.prog.godebug = none := by kernel_rfl
theorem laidOut : laidOutB Try.prog = true := by kernel_rfl
set_option maxHeartbeats 1000000 in
set_option maxRecDepth 100000 in
theorem lifted (os : Os) (started : os.Started) (H : Type) (enc : TypeId × Value → H) :
    ReturnsInHanded {} Try.checked os 11 .any (Rows.nodeSplitsSpec.pre6 enc Try.prog Try.f11 Rows.nodeSplitsRow.domain false) (Rows.nodeSplitsSpec.post enc Try.prog Try.f11 false true false false) := by
  refine returnsInHanded_of_change_sized (C := Try.checked) own started (by kernel_rfl) Try.func11
    (ChangeSpec.witness6 (enc := enc) (C := Try.checked) false ⟨#[], #[.slice none 0 0], []⟩ 8 (by kernel_rfl) (by kernel_rfl) (by kernel_rfl) (by kernel_rfl)) ?_
  intro W base args ds gs before hval0 hW hcnd hsz0 _
  have hsz : (DataW.weightsEach Try.prog (Try.f11.params.toList ++ Rows.nodeSplitsSpec.plain.varTypes Try.prog) (ds ++ gs)).all (· ≤ reachBytes) = true := hsz0
  have hval : ∀ (j : Nat) t v, Try.f11.params[j]? = some t → args[j]? = some v → Value.okWide Try.prog W .any base t v := hval0
  have hW' := hW
  obtain ⟨p, q, hA0, hV, rfl, hfz, hnd⟩ := hW
  have hA : DataW.TrodAll enc Try.prog W 0 (fun _ => true) true Try.f11.params.toList args.toList ds p := hA0
  rw [Try.params11] at hA hval hsz
  obtain ⟨v0, vs0, d0, ds0, p0, q0, hargs, rfl, rfl, h0, r0⟩ := trodAll_cons hA
  obtain ⟨rfl, rfl, rfl⟩ := trodAll_nil r0
  obtain rfl : args = #[v0] := by cases args; simp_all
  obtain ⟨rfl, rfl⟩ := trodVars_none hV
  have k0 := h0
  have lt0 : ∀ x ∈ p0, x.block < W.heap.size := by obtain ⟨m, hm⟩ := k0; exact DataW.trod_lt m _ _ _ hm
  have wt0 := weights_at hsz (j := 0) (t := 54) (d := d0) rfl rfl
  obtain ⟨fuel0, hf0⟩ := h0
  obtain ⟨l0, hK0, hok0⟩ := (Opens.slice (B := 16) Try.underlying54 (by kernel_rfl) (by kernel_rfl) opens78).op hf0 wt0
  obtain ⟨b0, m0, e0, rfl⟩ := okWide_slice Try.underlying54 (hval 0 54 v0 rfl rfl)
  obtain ⟨A0, c0, hcs0, hc0, hr0⟩ := hK0
  have hcs0' : Value.slice b0 m0 e0 = .slice A0 l0.length c0 := by simpa [Value.cells] using hcs0
  injection hcs0' with q1_0 q2_0 q3_0
  subst q1_0 q2_0 q3_0
  have o0 := hok0
  clear hA0 hval0 hsz0 hsz
  obtain ⟨k, h⟩ := Pure.NodeSplits l0 o0
  refine (assartlaw04_NodeSplits.calls k _ _ l0 true W hr0 hc0 h).mono fun e W' ⟨he, bel0⟩ => ?_
  have bel := bel0
  subst he
  exact ⟨_, rfl, _, _, _, [], _, [], hW', trodAll_mk1 (shut_bool Try.underlying4 _), (trodAll_cons_mk (Below.trod laidOut (by kernel_rfl) (of_decide_eq_true (by kernel_rfl)) k0 bel lt0) trodAll_mk0), rfl, bel.frame _, fun h => by cases h⟩
theorem over : Rows.nodeSplitsRow.holds Try.pinned (OpenSpec.ofChange Rows.nodeSplitsSpec) :=
  OpenClaim.holds_of_wide 11 Try.f11 rfl rfl rfl rfl rfl rfl rfl ⟨rfl, rfl, rfl, rfl, rfl⟩ rfl rfl rfl rfl rfl (by kernel_rfl) Try.func11 (by kernel_rfl)
    (of_decide_eq_true (by kernel_rfl)) (by unfold Func.isWrapper; first | (rw [if_pos (by decide +kernel)]; kernel_rfl) | (rw [if_neg (by decide +kernel)]; exact ⟨rfl, rfl⟩))
    (fun os started H enc _ => lifted os started H enc)
theorem proved : Rows.NodeSplitsSaid := over
#print axioms proved
end Go.Proofs.Ythjnkapkhphpeaa.nodeSplits
namespace Go.Proofs.Ythjnkapkhphpeaa
/-- The row, under a short name, for the claim. -/
theorem nodeSplits_holds : Rows.NodeSplitsSaid := nodeSplits.proved
end Go.Proofs.Ythjnkapkhphpeaa
end
