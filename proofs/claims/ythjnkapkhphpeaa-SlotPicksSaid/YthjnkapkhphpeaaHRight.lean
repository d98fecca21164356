/- slot.Right: the document's condition (num.Put answers nil just where the number is too big). -/
import Derived.Test.YthjnkapkhphpeaaPSeal
import Derived.Laws.Cover3
namespace Go.Proofs.Ythjnkapkhphpeaa.P
open Go.RowKit Go.Proofs.YthjnkapkhphpeaaW.PrintWords Go.Proofs.YthjnkapkhphpeaaW.PrintLast Go.Proofs.YthjnkapkhphpeaaW.PrintMore
set_option linter.unusedVariables false
set_option linter.unusedSimpArgs false
set_option maxHeartbeats 4000000 in
set_option maxRecDepth 100000 in
theorem Put_nil (n : Int) (w : World) (h : n < 0 ∨ 4294967296 ≤ n) : Calls Try.prog 43 #[.int .i64 n, .int .i64 4] w fun e w' => e = .returned (.slice none 0 0) ∧ Below w.heap.size w w' := by
  by_cases h0 : n < 0
  · have d0 : decide (n < 0) = true := by simpa using h0
    go_enter Try.func43, Try.ntmps43
    go_wp2_with fail
    refine (num_isWide.calls 4 true _ rfl).mono ?_
    rintro e wa ⟨rfl, ⟨nd, rfl⟩⟩
    go_wp2
    go_ret
    exact ⟨rfl, pw_below_drewN (Below.refl _ _) _⟩
  · have d0 : decide (n < 0) = false := by simpa using h0
    have d1 : decide ((0 : Int) < n / 4294967296) = true := by simp; omega
    go_enter Try.func43, Try.ntmps43
    go_wp2_with fail
    refine (num_isWide.calls 4 true _ rfl).mono ?_
    rintro e wa ⟨rfl, ⟨nd, rfl⟩⟩
    go_wp2
    go_ret
    exact ⟨rfl, pw_below_drewN (Below.refl _ _) _⟩
theorem R_some {e : Nat} {w : World} {base : Nat} {ok : Nat → Prop} {v : Value} {xs : List Int} (h : Kd.R (Kd.int .u8) e w base ok v xs) (hx : xs ≠ []) : ∃ (A : Addr) (n c : Nat), v = .slice (some A) n c := by
  obtain ⟨_, inner, ho, _⟩ := h
  rcases ho.2 with h2 | ⟨g, cap, cur, rfl, _⟩
  · exfalso
    have := h2.2
    simp at this
    exact hx this
  · exact ⟨_, _, _, rfl⟩
def slot_Right.f (a0_0 : Int) (a0_1 : Int) (a0_2 : Int) : Option Bool := some (decide (1 ≤ a0_0) && (decide (a0_0 ≤ 2147483647) && (decide (0 ≤ a0_1) && (decide (a0_1 ≤ 2147483647) && decide (0 ≤ a0_2 ∧ a0_2 < 4294967296)))))
set_option maxHeartbeats 8000000 in
set_option maxRecDepth 100000 in
theorem slot_Right.calls (a0_0 : Int) (a0_1 : Int) (a0_2 : Int) (r : Bool) (w : World) (h : slot_Right.f a0_0 a0_1 a0_2 = some r) :
    Calls Try.prog 24 #[.agg #[.int .i64 a0_0, .int .i64 a0_1, .int .i64 a0_2]] w fun e w' => e = .returned (.bool r) ∧ Below w.heap.size w w' := by
  have hu23 := Try.underlying23
  have hu24 := Try.underlying24
  obtain rfl := Option.some.inj h
  clear h
  obtain ⟨b0, d0⟩ : ∃ b, decide (1 ≤ a0_0) = b := ⟨_, rfl⟩
  obtain ⟨b1, d1⟩ : ∃ b, decide (a0_0 ≤ 2147483647) = b := ⟨_, rfl⟩
  obtain ⟨b2, d2⟩ : ∃ b, decide (0 ≤ a0_1) = b := ⟨_, rfl⟩
  obtain ⟨b3, d3⟩ : ∃ b, decide (a0_1 ≤ 2147483647) = b := ⟨_, rfl⟩
  rw [d0, d1, d2, d3]
  by_cases ha : b0 = true ∧ b1 = true ∧ b2 = true ∧ b3 = true
  · obtain ⟨rfl, rfl, rfl, rfl⟩ := ha
    by_cases hp : 0 ≤ a0_2 ∧ a0_2 < 4294967296
    · have HP := Aside0.mk (Put_val 0 a0_2 4 (by omega) (by omega) hp.1 (by simpa using hp.2))
      rw [decide_eq_true hp]
      clear hp
      go_enter Try.func24, Try.ntmps24
      go_wp2_with (first | ((with_reducible refine gate_dst (N := 1) rfl ?_); refine box_event ?hg (N := 1) ?hd (cs := #[.int .i64 a0_0, .int .i64 a0_1, .int .i64 a0_2]) (t := 23) ?hr ?_; (case hd => rfl); (case hg => rfl); (case hr => first | (go_simp; done) | (go_simp; rfl)); intro gb hg wb hbox hb; have HB := Aside0.mk hb; have z0 : wb.cell? ⟨gb, 0, none⟩ = some (.int .i64 a0_0) := (blk_cell hbox 0).trans rfl; have z1 : wb.cell? ⟨gb, 1, none⟩ = some (.int .i64 a0_1) := (blk_cell hbox 1).trans rfl; have z2 : wb.cell? ⟨gb, 2, none⟩ = some (.int .i64 a0_2) := (blk_cell hbox 2).trans rfl; clear hb hbox hg) | fail)
      refine (num_Put.calls _ _ _ _ _ HP.out).mono ?_
      rintro e wc ⟨v0, rfl, hr, hbc⟩
      obtain ⟨A, n, c, rfl⟩ := R_some hr (by simp [le, le4])
      have HBc : Aside0 (Below w.heap.size w wc) := ⟨HB.out.trans (hbc.mono HB.out.size)⟩
      clear hr hbc HB
      go_wp2
      go_ret
      exact ⟨rfl, HBc.out⟩
    · have HP := Aside0.mk (fun W => Put_nil a0_2 W (by omega))
      rw [decide_eq_false hp]
      clear hp
      go_enter Try.func24, Try.ntmps24
      go_wp2_with (first | ((with_reducible refine gate_dst (N := 1) rfl ?_); refine box_event ?hg (N := 1) ?hd (cs := #[.int .i64 a0_0, .int .i64 a0_1, .int .i64 a0_2]) (t := 23) ?hr ?_; (case hd => rfl); (case hg => rfl); (case hr => first | (go_simp; done) | (go_simp; rfl)); intro gb hg wb hbox hb; have HB := Aside0.mk hb; have z0 : wb.cell? ⟨gb, 0, none⟩ = some (.int .i64 a0_0) := (blk_cell hbox 0).trans rfl; have z1 : wb.cell? ⟨gb, 1, none⟩ = some (.int .i64 a0_1) := (blk_cell hbox 1).trans rfl; have z2 : wb.cell? ⟨gb, 2, none⟩ = some (.int .i64 a0_2) := (blk_cell hbox 2).trans rfl; clear hb hbox hg) | fail)
      refine (HP.out _).mono ?_
      rintro e wc ⟨rfl, hbc⟩
      have HBc : Aside0 (Below w.heap.size w wc) := ⟨HB.out.trans (hbc.mono HB.out.size)⟩
      clear hbc HB
      go_wp2
      go_ret
      exact ⟨rfl, HBc.out⟩
  · cases b0 with
    | false =>
      go_enter Try.func24, Try.ntmps24
      go_wp2_with (first | ((with_reducible refine gate_dst (N := 1) rfl ?_); refine box_event ?hg (N := 1) ?hd (cs := #[.int .i64 a0_0, .int .i64 a0_1, .int .i64 a0_2]) (t := 23) ?hr ?_; (case hd => rfl); (case hg => rfl); (case hr => first | (go_simp; done) | (go_simp; rfl)); intro gb hg wb hbox hb; have HB := Aside0.mk hb; have z0 : wb.cell? ⟨gb, 0, none⟩ = some (.int .i64 a0_0) := (blk_cell hbox 0).trans rfl; have z1 : wb.cell? ⟨gb, 1, none⟩ = some (.int .i64 a0_1) := (blk_cell hbox 1).trans rfl; have z2 : wb.cell? ⟨gb, 2, none⟩ = some (.int .i64 a0_2) := (blk_cell hbox 2).trans rfl; clear hb hbox hg) | fail)
      go_ret
      exact ⟨rfl, HB.out⟩
    | true =>
      cases b1 with
      | false =>
        go_enter Try.func24, Try.ntmps24
        go_wp2_with (first | ((with_reducible refine gate_dst (N := 1) rfl ?_); refine box_event ?hg (N := 1) ?hd (cs := #[.int .i64 a0_0, .int .i64 a0_1, .int .i64 a0_2]) (t := 23) ?hr ?_; (case hd => rfl); (case hg => rfl); (case hr => first | (go_simp; done) | (go_simp; rfl)); intro gb hg wb hbox hb; have HB := Aside0.mk hb; have z0 : wb.cell? ⟨gb, 0, none⟩ = some (.int .i64 a0_0) := (blk_cell hbox 0).trans rfl; have z1 : wb.cell? ⟨gb, 1, none⟩ = some (.int .i64 a0_1) := (blk_cell hbox 1).trans rfl; have z2 : wb.cell? ⟨gb, 2, none⟩ = some (.int .i64 a0_2) := (blk_cell hbox 2).trans rfl; clear hb hbox hg) | fail)
        go_ret
        exact ⟨rfl, HB.out⟩
      | true =>
        cases b2 with
        | false =>
          go_enter Try.func24, Try.ntmps24
          go_wp2_with (first | ((with_reducible refine gate_dst (N := 1) rfl ?_); refine box_event ?hg (N := 1) ?hd (cs := #[.int .i64 a0_0, .int .i64 a0_1, .int .i64 a0_2]) (t := 23) ?hr ?_; (case hd => rfl); (case hg => rfl); (case hr => first | (go_simp; done) | (go_simp; rfl)); intro gb hg wb hbox hb; have HB := Aside0.mk hb; have z0 : wb.cell? ⟨gb, 0, none⟩ = some (.int .i64 a0_0) := (blk_cell hbox 0).trans rfl; have z1 : wb.cell? ⟨gb, 1, none⟩ = some (.int .i64 a0_1) := (blk_cell hbox 1).trans rfl; have z2 : wb.cell? ⟨gb, 2, none⟩ = some (.int .i64 a0_2) := (blk_cell hbox 2).trans rfl; clear hb hbox hg) | fail)
          go_ret
          exact ⟨rfl, HB.out⟩
        | true =>
          cases b3 with
          | false =>
            go_enter Try.func24, Try.ntmps24
            go_wp2_with (first | ((with_reducible refine gate_dst (N := 1) rfl ?_); refine box_event ?hg (N := 1) ?hd (cs := #[.int .i64 a0_0, .int .i64 a0_1, .int .i64 a0_2]) (t := 23) ?hr ?_; (case hd => rfl); (case hg => rfl); (case hr => first | (go_simp; done) | (go_simp; rfl)); intro gb hg wb hbox hb; have HB := Aside0.mk hb; have z0 : wb.cell? ⟨gb, 0, none⟩ = some (.int .i64 a0_0) := (blk_cell hbox 0).trans rfl; have z1 : wb.cell? ⟨gb, 1, none⟩ = some (.int .i64 a0_1) := (blk_cell hbox 1).trans rfl; have z2 : wb.cell? ⟨gb, 2, none⟩ = some (.int .i64 a0_2) := (blk_cell hbox 2).trans rfl; clear hb hbox hg) | fail)
            go_ret
            exact ⟨rfl, HB.out⟩
          | true => exact absurd ⟨rfl, rfl, rfl, rfl⟩ ha
end Go.Proofs.Ythjnkapkhphpeaa.P
