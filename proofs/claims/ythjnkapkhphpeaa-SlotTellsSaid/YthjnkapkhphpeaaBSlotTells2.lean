/- Texts of this claim's proof put together: PSlotRef, HSlotTells, HRow, QSlotTells, PureSlotTells, LawSlotTells. -/
import Derived.Test.YthjnkapkhphpeaaBSlotTells1
import Derived.Test.YthjnkapkhphpeaaBSlotTells0
import Derived.ChangeArms
import Derived.DataReads
import Derived.DataElems
import Derived.SizedLaws
import Derived.Test.YthjnkapkhphpeaaRows
import Derived.WalkKit
import Derived.ProofKit
import Derived.OpenShut
import Derived.ShutString
import Derived.ChangeOld
import Derived.Below
section
/- The document's answers for slot are slot's. -/
namespace Go.Proofs.Ythjnkapkhphpeaa.P
open Go.RowKit Go.Proofs.YthjnkapkhphpeaaW.PrintWords Go.Proofs.YthjnkapkhphpeaaW.PrintLast Go.Proofs.YthjnkapkhphpeaaW.PrintMore
theorem refPrint_val (k : Nat) (hk : 500 < k) (g s m : Int) : assartref03_Print.f k g s m = slot_Print.f g s m := by
  obtain ⟨n, rfl⟩ : ∃ n, k = n + 6 := ⟨k - 6, by omega⟩
  unfold assartref03_Print.f
  rw [refRight_val, Option.bind_some]
  by_cases h : Rt g s m
  · have h' := h
    unfold Rt at h'
    have h256 : ((256 : Int) ^ (4 : Int).toNat) = 4294967296 := rfl
    rw [decide_eq_true h, if_pos rfl, Option.bind_some, refPut_val n g 4 (by omega) (by omega) (by omega) (by omega), Option.bind_some, if_pos (by simp [le4_len]), Option.bind_some,
      refPut_val n s 4 (by omega) (by omega) (by omega) (by omega), Option.bind_some, if_pos (by simp [le4_len]), Option.bind_some,
      refPut_val n m 4 (by omega) (by omega) (by omega) (by omega), Option.bind_some, if_pos (by simp [le4_len])]
    have hrow : [97, 115] ++ le g 4 ++ le s 4 ++ le m 4 = slot_Print.row g s m := rfl
    rw [hrow, refSeal_val _ (by rw [row_len]; omega) (row_bd g s m) _ hk]
    unfold slot_Print.f
    rw [if_pos ((right_iff _ _ _).2 h)]
    cases num_Seal.f (slot_Print.row g s m) <;> rfl
  · rw [decide_eq_false h, if_neg (by simp), print_bad h]
theorem refParse_val (k : Nat) (hk : 500 < k) (b : ByteArray) : assartref03_Parse.f k b = slot_Parse.f b := by
  obtain ⟨n, rfl⟩ : ∃ n, k = n + 6 := ⟨k - 6, by omega⟩
  have hO : assartref01_Open.f b = num_Open.f b := rfl
  obtain ⟨p, hp⟩ := prefix_any b
  unfold assartref03_Parse.f slot_Parse.f
  rw [hO]
  by_cases hs : isSealed (bytesOf b) = true
  · have ho : num_Open.f b = some ((bytesOf b).take 36, 0) := by unfold num_Open.f; rw [if_pos hs]
    have hl : ((bytesOf b).take 36).length = 36 := by
      unfold isSealed at hs
      simp only [Bool.and_eq_true, decide_eq_true_eq] at hs
      rw [List.length_take, hs.1]
      rfl
    have hby : ∀ x ∈ (bytesOf b).take 36, 0 ≤ x ∧ x < 256 := fun x hx => bytesOf_bd b x (List.mem_of_mem_take hx)
    rw [ho, Option.bind_some, Option.bind_some, hp, Option.bind_some]
    generalize (bytesOf b).take 36 = l at hl hby
    simp only []
    rw [if_pos trivial, refTake_val n l 2 4 (by omega) hby (by omega) (by omega) (by omega) (by omega), Option.bind_some, refTake_val n l 6 4 (by omega) hby (by omega) (by omega) (by omega) (by omega), Option.bind_some, refTake_val n l 10 4 (by omega) hby (by omega) (by omega) (by omega) (by omega), Option.bind_some]
    simp only []
    rw [refPrint_val _ hk]
    by_cases hr : Rt (lev l 2 4) (lev l 6 4) (lev l 10 4)
    · rw [print_ok hr, Option.bind_some, Option.bind_some]
      by_cases hx : (blk (lev l 2 4) (lev l 6 4) (lev l 10 4)).toList = b.toList
      · have hpt : p = true := by
          have := prefix_blk (lev l 2 4) (lev l 6 4) (lev l 10 4)
          rw [toList_inj hx, hp] at this
          exact Option.some.inj this
        simp [hx, hpt]
      · simp [hx]
    · rw [print_bad hr, Option.bind_some, Option.bind_some]
      simp
  · have ho : num_Open.f b = some ([], 2) := by unfold num_Open.f; rw [if_neg hs]
    rw [ho, Option.bind_some, Option.bind_some, hp, Option.bind_some]
    simp
theorem refPick_val (k : Nat) (hk : 500 < k) (a b : ByteArray) : assartref03_Pick.f k a b = slot_Pick.f k a b := by
  obtain ⟨n, rfl⟩ : ∃ n, k = n + 1 := ⟨k - 1, by omega⟩
  unfold assartref03_Pick.f slot_Pick.f
  rw [refParse_val _ hk, refParse_val _ hk]
  rfl
theorem pick_some (k : Nat) (a b : ByteArray) : ∃ r, slot_Pick.f (k + 1) a b = some r := by
  have h : ∀ x, ∃ r, slot_Parse.f x = some r := fun x => by
    rcases parse_cases x with h | ⟨g, s, m, _, _, h⟩ <;> exact ⟨_, h⟩
  obtain ⟨⟨x1, x2, x3, e⟩, hx⟩ := h a
  obtain ⟨⟨y1, y2, y3, f⟩, hy⟩ := h b
  exact ⟨_, pick_val k hx hy⟩
end Go.Proofs.Ythjnkapkhphpeaa.P
end
section
/- SlotTells: the walk: which are right, their blocks, what any block tells, which counts, and books, are as the document's answers say. -/
namespace Go.Proofs.Ythjnkapkhphpeaa.P
open Go.RowKit Go.Proofs.YthjnkapkhphpeaaW.PrintWords Go.Proofs.YthjnkapkhphpeaaW.PrintLast Go.Proofs.YthjnkapkhphpeaaW.PrintMore
attribute [local go_sem] max2_int min2_int max_two min_two max_three min_three max_four min_four
set_option linter.unusedVariables false
set_option linter.unusedSimpArgs false
set_option maxHeartbeats 8000000 in
set_option maxRecDepth 100000 in
theorem SlotTells_a (g s m : Int) (a b : ByteArray) (A : Option Addr) (c : Nat) (l : List Int) (w : World) (hr0 : Kd.C (Kd.int .u8) w A l.length l) (hc0 : l.length ≤ c) (h1 : 200 < a.size) :
    Calls Try.prog 3 #[.agg #[.int .i64 g, .int .i64 s, .int .i64 m, .string a, .string b, .slice A l.length c]] w fun e w' => e = .returned (.bool true) ∧ Below w.heap.size w w' := by
  have d1 : decide ((200 : Int) < a.size) = true := by simp; omega
  clear h1
  have hu23 := Try.underlying23
  have hu26 := Try.underlying26
  have HR0 := Aside0.mk hr0
  have HC0 := Aside0.mk hc0
  clear hr0 hc0
  go_enter Try.func3, Try.ntmps3
  go_wp2_with (first | ((with_reducible refine gate_dst (N := 1) rfl ?_); refine box_event ?hg (N := 1) ?hd (cs := #[.int .i64 g, .int .i64 s, .int .i64 m, .string a, .string b, .slice A l.length c]) (t := 26) ?hr ?_; (case hd => rfl); (case hg => rfl); (case hr => first | (go_simp; done) | (go_simp; rfl)); intro g1 hg w1 hbox hb; have HB1 := Aside0.mk hb; have HK1 := Aside0.mk hbox; have HG1 := Aside0.mk hg; have z0 : w1.cell? ⟨g1, 0, none⟩ = some (.int .i64 g) := (blk_cell hbox 0).trans rfl; have z1 : w1.cell? ⟨g1, 1, none⟩ = some (.int .i64 s) := (blk_cell hbox 1).trans rfl; have z2 : w1.cell? ⟨g1, 2, none⟩ = some (.int .i64 m) := (blk_cell hbox 2).trans rfl; have z3 : w1.cell? ⟨g1, 3, none⟩ = some (.string a) := (blk_cell hbox 3).trans rfl; have z4 : w1.cell? ⟨g1, 4, none⟩ = some (.string b) := (blk_cell hbox 4).trans rfl; have z5 : w1.cell? ⟨g1, 5, none⟩ = some (.slice A l.length c) := (blk_cell hbox 5).trans rfl; clear hb hbox hg) | ((with_reducible refine gate_dst (N := 3) rfl ?_); refine box_event ?hg (N := 3) ?hd (cs := #[.int .i64 0, .int .i64 0, .int .i64 0]) (t := 23) ?hr ?_; (case hd => rfl); (case hg => rfl); (case hr => first | (go_simp; done) | (go_simp; rfl)); intro g3 hg w3 hbox hb; have HB3 := Aside0.mk (HB1.out.trans (hb.mono HB1.out.size)); have HG3 : Aside0 (w.heap.size ≤ g3) := ⟨by rw [hg]; exact HB1.out.size⟩; have HNE : Aside0 (g1 ≠ g3) := ⟨by have := blk_lt HK1.out; rw [hg]; omega⟩; have HK3 := Aside0.mk hbox; have f0 := blk_frozen hbox 0; have f1 := blk_frozen hbox 1; have f2 := blk_frozen hbox 2;have x0 : w3.cell? ⟨g3, 0, none⟩ = some (.int .i64 0) := (blk_cell hbox 0).trans rfl; have x1 : w3.cell? ⟨g3, 1, none⟩ = some (.int .i64 0) := (blk_cell hbox 1).trans rfl; have x2 : w3.cell? ⟨g3, 2, none⟩ = some (.int .i64 0) := (blk_cell hbox 2).trans rfl; have hk1 := blk_far (blk_far (blk_far (blk_below HK1.out hb) (p := ⟨g3, 0, none⟩) HNE.out (.int .i64 g)) (p := ⟨g3, 1, none⟩) HNE.out (.int .i64 s)) (p := ⟨g3, 2, none⟩) HNE.out (.int .i64 m); have y3 : (((w3.setCell ⟨g3, 0, none⟩ (.int .i64 g)).setCell ⟨g3, 1, none⟩ (.int .i64 s)).setCell ⟨g3, 2, none⟩ (.int .i64 m)).cell? ⟨g1, 3, none⟩ = some (.string a) := (blk_cell hk1 3).trans rfl;  have y4 : (((w3.setCell ⟨g3, 0, none⟩ (.int .i64 g)).setCell ⟨g3, 1, none⟩ (.int .i64 s)).setCell ⟨g3, 2, none⟩ (.int .i64 m)).cell? ⟨g1, 4, none⟩ = some (.string b) := (blk_cell hk1 4).trans rfl;  have y5 : (((w3.setCell ⟨g3, 0, none⟩ (.int .i64 g)).setCell ⟨g3, 1, none⟩ (.int .i64 s)).setCell ⟨g3, 2, none⟩ (.int .i64 m)).cell? ⟨g1, 5, none⟩ = some (.slice A l.length c) := (blk_cell hk1 5).trans rfl; clear hk1 z0 z1 z2 z3 z4 z5; clear hb hbox hg) | fail)
  have hS3 := blk_put (cs' := #[.int .i64 g, .int .i64 s, .int .i64 m]) (blk_put (cs' := #[.int .i64 g, .int .i64 s, .int .i64 0]) (blk_put (cs' := #[.int .i64 g, .int .i64 0, .int .i64 0]) HK3.out 0 (.int .i64 g) rfl) 1 (.int .i64 s) rfl) 2 (.int .i64 m) rfl
  have hB3 := below_set (j := 2) (v := .int .i64 m) (below_set (j := 1) (v := .int .i64 s) (below_set (j := 0) (v := .int .i64 g) HB3.out HG3.out) HG3.out) HG3.out
  have HKg3_0 := Aside0.mk hS3
  have HB0 := Aside0.mk hB3
  clear hS3 hB3 f0 f1 f2 x0 x1 x2 y3 y4 y5 HB3 HK3 HB1 HK1 HG1 HNE
  refine (assartlaw03_shown.calls true _ rfl).mono ?_
  rintro e wc1 ⟨rfl, hb⟩
  have HB1 : Aside0 (Below w.heap.size w wc1) := ⟨HB0.out.trans (hb.mono HB0.out.size)⟩
  have HKg3_1 := Aside0.mk (blk_below HKg3_0.out hb)
  clear hb HB0 HKg3_0
  go_wp2
  go_ret
  exact ⟨rfl, HB1.out⟩
set_option maxHeartbeats 8000000 in
set_option maxRecDepth 100000 in
theorem SlotTells_b (g s m : Int) (a b : ByteArray) (A : Option Addr) (c : Nat) (l : List Int) (w : World) (hr0 : Kd.C (Kd.int .u8) w A l.length l) (hc0 : l.length ≤ c) (h1 : ¬ 200 < a.size) (h2 : 200 < b.size) :
    Calls Try.prog 3 #[.agg #[.int .i64 g, .int .i64 s, .int .i64 m, .string a, .string b, .slice A l.length c]] w fun e w' => e = .returned (.bool true) ∧ Below w.heap.size w w' := by
  have d1 : decide ((200 : Int) < a.size) = false := by simp; omega
  have d2 : decide ((200 : Int) < b.size) = true := by simp; omega
  clear h1 h2
  have hu23 := Try.underlying23
  have hu26 := Try.underlying26
  have HR0 := Aside0.mk hr0
  have HC0 := Aside0.mk hc0
  clear hr0 hc0
  go_enter Try.func3, Try.ntmps3
  go_wp2_with (first | ((with_reducible refine gate_dst (N := 1) rfl ?_); refine box_event ?hg (N := 1) ?hd (cs := #[.int .i64 g, .int .i64 s, .int .i64 m, .string a, .string b, .slice A l.length c]) (t := 26) ?hr ?_; (case hd => rfl); (case hg => rfl); (case hr => first | (go_simp; done) | (go_simp; rfl)); intro g1 hg w1 hbox hb; have HB1 := Aside0.mk hb; have HK1 := Aside0.mk hbox; have HG1 := Aside0.mk hg; have z0 : w1.cell? ⟨g1, 0, none⟩ = some (.int .i64 g) := (blk_cell hbox 0).trans rfl; have z1 : w1.cell? ⟨g1, 1, none⟩ = some (.int .i64 s) := (blk_cell hbox 1).trans rfl; have z2 : w1.cell? ⟨g1, 2, none⟩ = some (.int .i64 m) := (blk_cell hbox 2).trans rfl; have z3 : w1.cell? ⟨g1, 3, none⟩ = some (.string a) := (blk_cell hbox 3).trans rfl; have z4 : w1.cell? ⟨g1, 4, none⟩ = some (.string b) := (blk_cell hbox 4).trans rfl; have z5 : w1.cell? ⟨g1, 5, none⟩ = some (.slice A l.length c) := (blk_cell hbox 5).trans rfl; clear hb hbox hg) | ((with_reducible refine gate_dst (N := 3) rfl ?_); refine box_event ?hg (N := 3) ?hd (cs := #[.int .i64 0, .int .i64 0, .int .i64 0]) (t := 23) ?hr ?_; (case hd => rfl); (case hg => rfl); (case hr => first | (go_simp; done) | (go_simp; rfl)); intro g3 hg w3 hbox hb; have HB3 := Aside0.mk (HB1.out.trans (hb.mono HB1.out.size)); have HG3 : Aside0 (w.heap.size ≤ g3) := ⟨by rw [hg]; exact HB1.out.size⟩; have HNE : Aside0 (g1 ≠ g3) := ⟨by have := blk_lt HK1.out; rw [hg]; omega⟩; have HK3 := Aside0.mk hbox; have f0 := blk_frozen hbox 0; have f1 := blk_frozen hbox 1; have f2 := blk_frozen hbox 2;have x0 : w3.cell? ⟨g3, 0, none⟩ = some (.int .i64 0) := (blk_cell hbox 0).trans rfl; have x1 : w3.cell? ⟨g3, 1, none⟩ = some (.int .i64 0) := (blk_cell hbox 1).trans rfl; have x2 : w3.cell? ⟨g3, 2, none⟩ = some (.int .i64 0) := (blk_cell hbox 2).trans rfl; have hk1 := blk_far (blk_far (blk_far (blk_below HK1.out hb) (p := ⟨g3, 0, none⟩) HNE.out (.int .i64 g)) (p := ⟨g3, 1, none⟩) HNE.out (.int .i64 s)) (p := ⟨g3, 2, none⟩) HNE.out (.int .i64 m); have y3 : (((w3.setCell ⟨g3, 0, none⟩ (.int .i64 g)).setCell ⟨g3, 1, none⟩ (.int .i64 s)).setCell ⟨g3, 2, none⟩ (.int .i64 m)).cell? ⟨g1, 3, none⟩ = some (.string a) := (blk_cell hk1 3).trans rfl;  have y4 : (((w3.setCell ⟨g3, 0, none⟩ (.int .i64 g)).setCell ⟨g3, 1, none⟩ (.int .i64 s)).setCell ⟨g3, 2, none⟩ (.int .i64 m)).cell? ⟨g1, 4, none⟩ = some (.string b) := (blk_cell hk1 4).trans rfl;  have y5 : (((w3.setCell ⟨g3, 0, none⟩ (.int .i64 g)).setCell ⟨g3, 1, none⟩ (.int .i64 s)).setCell ⟨g3, 2, none⟩ (.int .i64 m)).cell? ⟨g1, 5, none⟩ = some (.slice A l.length c) := (blk_cell hk1 5).trans rfl; clear hk1 z0 z1 z2 z3 z4 z5; clear hb hbox hg) | fail)
  have hS3 := blk_put (cs' := #[.int .i64 g, .int .i64 s, .int .i64 m]) (blk_put (cs' := #[.int .i64 g, .int .i64 s, .int .i64 0]) (blk_put (cs' := #[.int .i64 g, .int .i64 0, .int .i64 0]) HK3.out 0 (.int .i64 g) rfl) 1 (.int .i64 s) rfl) 2 (.int .i64 m) rfl
  have hB3 := below_set (j := 2) (v := .int .i64 m) (below_set (j := 1) (v := .int .i64 s) (below_set (j := 0) (v := .int .i64 g) HB3.out HG3.out) HG3.out) HG3.out
  have HKg3_0 := Aside0.mk hS3
  have HB0 := Aside0.mk hB3
  clear hS3 hB3 f0 f1 f2 x0 x1 x2 y3 y4 y5 HB3 HK3 HB1 HK1 HG1 HNE
  refine (assartlaw03_shown.calls true _ rfl).mono ?_
  rintro e wc1 ⟨rfl, hb⟩
  have HB1 : Aside0 (Below w.heap.size w wc1) := ⟨HB0.out.trans (hb.mono HB0.out.size)⟩
  have HKg3_1 := Aside0.mk (blk_below HKg3_0.out hb)
  clear hb HB0 HKg3_0
  go_wp2
  go_ret
  exact ⟨rfl, HB1.out⟩
set_option maxHeartbeats 8000000 in
set_option maxRecDepth 100000 in
theorem SlotTells_l (g s m : Int) (a b : ByteArray) (A : Option Addr) (c : Nat) (l : List Int) (w : World) (hr0 : Kd.C (Kd.int .u8) w A l.length l) (hc0 : l.length ≤ c) (h1 : ¬ 200 < a.size) (h2 : ¬ 200 < b.size) (h3 : 1000 < l.length) :
    Calls Try.prog 3 #[.agg #[.int .i64 g, .int .i64 s, .int .i64 m, .string a, .string b, .slice A l.length c]] w fun e w' => e = .returned (.bool true) ∧ Below w.heap.size w w' := by
  have d1 : decide ((200 : Int) < a.size) = false := by simp; omega
  have d2 : decide ((200 : Int) < b.size) = false := by simp; omega
  have d3 : decide ((1000 : Int) < l.length) = true := by simp; omega
  clear h1 h2 h3
  have hu23 := Try.underlying23
  have hu26 := Try.underlying26
  have HR0 := Aside0.mk hr0
  have HC0 := Aside0.mk hc0
  clear hr0 hc0
  go_enter Try.func3, Try.ntmps3
  go_wp2_with (first | ((with_reducible refine gate_dst (N := 1) rfl ?_); refine box_event ?hg (N := 1) ?hd (cs := #[.int .i64 g, .int .i64 s, .int .i64 m, .string a, .string b, .slice A l.length c]) (t := 26) ?hr ?_; (case hd => rfl); (case hg => rfl); (case hr => first | (go_simp; done) | (go_simp; rfl)); intro g1 hg w1 hbox hb; have HB1 := Aside0.mk hb; have HK1 := Aside0.mk hbox; have HG1 := Aside0.mk hg; have z0 : w1.cell? ⟨g1, 0, none⟩ = some (.int .i64 g) := (blk_cell hbox 0).trans rfl; have z1 : w1.cell? ⟨g1, 1, none⟩ = some (.int .i64 s) := (blk_cell hbox 1).trans rfl; have z2 : w1.cell? ⟨g1, 2, none⟩ = some (.int .i64 m) := (blk_cell hbox 2).trans rfl; have z3 : w1.cell? ⟨g1, 3, none⟩ = some (.string a) := (blk_cell hbox 3).trans rfl; have z4 : w1.cell? ⟨g1, 4, none⟩ = some (.string b) := (blk_cell hbox 4).trans rfl; have z5 : w1.cell? ⟨g1, 5, none⟩ = some (.slice A l.length c) := (blk_cell hbox 5).trans rfl; clear hb hbox hg) | ((with_reducible refine gate_dst (N := 3) rfl ?_); refine box_event ?hg (N := 3) ?hd (cs := #[.int .i64 0, .int .i64 0, .int .i64 0]) (t := 23) ?hr ?_; (case hd => rfl); (case hg => rfl); (case hr => first | (go_simp; done) | (go_simp; rfl)); intro g3 hg w3 hbox hb; have HB3 := Aside0.mk (HB1.out.trans (hb.mono HB1.out.size)); have HG3 : Aside0 (w.heap.size ≤ g3) := ⟨by rw [hg]; exact HB1.out.size⟩; have HNE : Aside0 (g1 ≠ g3) := ⟨by have := blk_lt HK1.out; rw [hg]; omega⟩; have HK3 := Aside0.mk hbox; have f0 := blk_frozen hbox 0; have f1 := blk_frozen hbox 1; have f2 := blk_frozen hbox 2;have x0 : w3.cell? ⟨g3, 0, none⟩ = some (.int .i64 0) := (blk_cell hbox 0).trans rfl; have x1 : w3.cell? ⟨g3, 1, none⟩ = some (.int .i64 0) := (blk_cell hbox 1).trans rfl; have x2 : w3.cell? ⟨g3, 2, none⟩ = some (.int .i64 0) := (blk_cell hbox 2).trans rfl; have hk1 := blk_far (blk_far (blk_far (blk_below HK1.out hb) (p := ⟨g3, 0, none⟩) HNE.out (.int .i64 g)) (p := ⟨g3, 1, none⟩) HNE.out (.int .i64 s)) (p := ⟨g3, 2, none⟩) HNE.out (.int .i64 m); have y3 : (((w3.setCell ⟨g3, 0, none⟩ (.int .i64 g)).setCell ⟨g3, 1, none⟩ (.int .i64 s)).setCell ⟨g3, 2, none⟩ (.int .i64 m)).cell? ⟨g1, 3, none⟩ = some (.string a) := (blk_cell hk1 3).trans rfl;  have y4 : (((w3.setCell ⟨g3, 0, none⟩ (.int .i64 g)).setCell ⟨g3, 1, none⟩ (.int .i64 s)).setCell ⟨g3, 2, none⟩ (.int .i64 m)).cell? ⟨g1, 4, none⟩ = some (.string b) := (blk_cell hk1 4).trans rfl;  have y5 : (((w3.setCell ⟨g3, 0, none⟩ (.int .i64 g)).setCell ⟨g3, 1, none⟩ (.int .i64 s)).setCell ⟨g3, 2, none⟩ (.int .i64 m)).cell? ⟨g1, 5, none⟩ = some (.slice A l.length c) := (blk_cell hk1 5).trans rfl; clear hk1 z0 z1 z2 z3 z4 z5; clear hb hbox hg) | fail)
  have hS3 := blk_put (cs' := #[.int .i64 g, .int .i64 s, .int .i64 m]) (blk_put (cs' := #[.int .i64 g, .int .i64 s, .int .i64 0]) (blk_put (cs' := #[.int .i64 g, .int .i64 0, .int .i64 0]) HK3.out 0 (.int .i64 g) rfl) 1 (.int .i64 s) rfl) 2 (.int .i64 m) rfl
  have hB3 := below_set (j := 2) (v := .int .i64 m) (below_set (j := 1) (v := .int .i64 s) (below_set (j := 0) (v := .int .i64 g) HB3.out HG3.out) HG3.out) HG3.out
  have HKg3_0 := Aside0.mk hS3
  have HB0 := Aside0.mk hB3
  clear hS3 hB3 f0 f1 f2 x0 x1 x2 y3 y4 y5 HB3 HK3 HB1 HK1 HG1 HNE
  refine (assartlaw03_shown.calls true _ rfl).mono ?_
  rintro e wc1 ⟨rfl, hb⟩
  have HB1 : Aside0 (Below w.heap.size w wc1) := ⟨HB0.out.trans (hb.mono HB0.out.size)⟩
  have HKg3_1 := Aside0.mk (blk_below HKg3_0.out hb)
  clear hb HB0 HKg3_0
  go_wp2
  go_ret
  exact ⟨rfl, HB1.out⟩
def SlotTells.T16 : Bool × List (List Nat × List Nat) := (true, [([], []), ([0], [0]), ([1], [1]), ([2, 1, 1], [1, 2]), ([1], [1]), ([4, 3, 1], [1, 4]), ([3, 5, 1], [1, 3, 5]), ([1, 6], [1, 6]), ([7, 5], [7]), ([8], [8]), ([8], [8]), ([9, 10, 8], [8, 9, 10]), ([8, 11], [8, 11]), ([12, 8], [12]), ([13], [13]), ([13], [13]), ([14, 15, 13], [13, 14, 15]), ([13, 16], [13, 16]), ([17, 13], [17]), ([18], [18]), ([18], [18]), ([19, 20, 18], [18, 19, 20]), ([18, 21], [18, 21]), ([22, 18], [22]), ([23], [23]), ([23], [23]), ([24, 25, 23], [23, 24, 25]), ([23, 26], [23, 26]), ([27, 23], [27]), ([28], [28]), ([28], [28]), ([29, 30, 28], [28, 29, 30]), ([28, 31], [28, 31]), ([32, 28], [32]), ([33], [33]), ([33], [33]), ([34, 35, 33], [33, 34, 35]), ([33, 36], [33, 36]), ([37, 33], [37]), ([38], [38]), ([38], [38]), ([39, 40, 38], [38, 39, 40]), ([38, 41], [38, 41]), ([42, 38], [42]), ([43], [43]), ([43], [43]), ([44, 45, 43], [43, 44, 45]), ([43, 46], [43, 46]), ([47, 43], [47]), ([48], [48]), ([48], [48]), ([49, 50, 48], [48, 49, 50]), ([48, 51], [48, 51]), ([52, 48, 0, 1, 2, 3, 4, 5, 6, 7, 8, 9, 10, 11, 12, 13, 14, 15, 16, 17, 18, 19, 20, 21, 22, 23, 24, 25, 26, 27, 28, 29, 30, 31, 32, 33, 34, 35, 36, 37, 38, 39, 40, 41, 42, 43, 44, 45, 46, 47, 48, 49, 50, 51, 52], [52])])
def SlotTells.B16 : List Nat := [0, 1, 3, 7, 3, 31, 63, 127, 255, 511, 511, 2047, 4095, 8191, 16383, 16383, 65535, 131071, 262143, 524287, 524287, 2097151, 4194303, 8388607, 16777215, 16777215, 67108863, 134217727, 268435455, 536870911, 536870911, 2147483647, 4294967295, 8589934591, 17179869183, 17179869183, 68719476735, 137438953471, 274877906943, 549755813887, 549755813887, 2199023255551, 4398046511103, 8796093022207, 17592186044415, 17592186044415, 70368744177663, 140737488355327, 281474976710655, 562949953421311, 562949953421311, 2251799813685247, 4503599627370495, 9007199254740991]
theorem SlotTells.tab16 : rtab .any (opsOf Try.f3 16) = SlotTells.T16 := by kernel_rfl
theorem SlotTells.bits16 : waitsOk SlotTells.T16.2 SlotTells.B16 = true := by kernel_rfl
set_option maxHeartbeats 8000000 in
set_option maxRecDepth 100000 in
theorem SlotTells_all (g s m : Int) (a b : ByteArray) (A : Option Addr) (c : Nat) (l : List Int) (w : World) (hr0 : Kd.C (Kd.int .u8) w A l.length l) (hc0 : l.length ≤ c) (h1 : ¬ 200 < a.size) (h2 : ¬ 200 < b.size) (h3 : ¬ 1000 < l.length)
    (x : ByteArray) (xe p1 p2 p3 pe k1 k2 k3 k4 k5 n1 n2 : Int) (rt : Bool) (hp : slot_Print.f g s m = some (x, xe)) (hq : slot_Parse.f a = some (p1, p2, p3, pe)) (hk : slot_Pick.f 20000 a b = some (k1, k2, k3, k4, k5))
    (hm : slot_Book.f l = some (n1, n2)) (hm' : assartref03_Book.f 20000 l = some (n1, n2)) (hx : slot_Right.f g s m = some rt) (hx' : assartref03_Right.f g s m = some rt) :
    Calls Try.prog 3 #[.agg #[.int .i64 g, .int .i64 s, .int .i64 m, .string a, .string b, .slice A l.length c]] w fun e w' => e = .returned (.bool true) ∧ Below w.heap.size w w' := by
  have d1 : decide ((200 : Int) < a.size) = false := by simp; omega
  have d2 : decide ((200 : Int) < b.size) = false := by simp; omega
  have d3 : decide ((1000 : Int) < l.length) = false := by simp; omega
  have HP := Aside0.mk hp
  have HP' := Aside0.mk ((refPrint_val 20000 (by omega) g s m).trans hp)
  have HQ := Aside0.mk hq
  have HQ' := Aside0.mk ((refParse_val 20000 (by omega) a).trans hq)
  have HK := Aside0.mk hk
  have HK' := Aside0.mk ((refPick_val 20000 (by omega) a b).trans hk)
  have HM := Aside0.mk hm
  have HM' := Aside0.mk hm'
  have HX := Aside0.mk hx
  have HX' := Aside0.mk hx'
  clear h1 h2 h3 hp hq hk hm hm' hx hx'
  have hu23 := Try.underlying23
  have hu26 := Try.underlying26
  have HR0 := Aside0.mk hr0
  have HC0 := Aside0.mk hc0
  clear hr0 hc0
  go_enter Try.func3, Try.ntmps3
  go_wp2_with (first | ((with_reducible refine gate_dst (N := 1) rfl ?_); refine box_event ?hg (N := 1) ?hd (cs := #[.int .i64 g, .int .i64 s, .int .i64 m, .string a, .string b, .slice A l.length c]) (t := 26) ?hr ?_; (case hd => rfl); (case hg => rfl); (case hr => first | (go_simp; done) | (go_simp; rfl)); intro g1 hg w1 hbox hb; have HB1 := Aside0.mk hb; have HK1 := Aside0.mk hbox; have HG1 := Aside0.mk hg; have z0 : w1.cell? ⟨g1, 0, none⟩ = some (.int .i64 g) := (blk_cell hbox 0).trans rfl; have z1 : w1.cell? ⟨g1, 1, none⟩ = some (.int .i64 s) := (blk_cell hbox 1).trans rfl; have z2 : w1.cell? ⟨g1, 2, none⟩ = some (.int .i64 m) := (blk_cell hbox 2).trans rfl; have z3 : w1.cell? ⟨g1, 3, none⟩ = some (.string a) := (blk_cell hbox 3).trans rfl; have z4 : w1.cell? ⟨g1, 4, none⟩ = some (.string b) := (blk_cell hbox 4).trans rfl; have z5 : w1.cell? ⟨g1, 5, none⟩ = some (.slice A l.length c) := (blk_cell hbox 5).trans rfl; clear hb hbox hg) | ((with_reducible refine gate_dst (N := 3) rfl ?_); refine box_event ?hg (N := 3) ?hd (cs := #[.int .i64 0, .int .i64 0, .int .i64 0]) (t := 23) ?hr ?_; (case hd => rfl); (case hg => rfl); (case hr => first | (go_simp; done) | (go_simp; rfl)); intro g3 hg w3 hbox hb; have HB3 := Aside0.mk (HB1.out.trans (hb.mono HB1.out.size)); have HG3 : Aside0 (w.heap.size ≤ g3) := ⟨by rw [hg]; exact HB1.out.size⟩; have HNE : Aside0 (g1 ≠ g3) := ⟨by have := blk_lt HK1.out; rw [hg]; omega⟩; have HK3 := Aside0.mk hbox; have f0 := blk_frozen hbox 0; have f1 := blk_frozen hbox 1; have f2 := blk_frozen hbox 2;have x0 : w3.cell? ⟨g3, 0, none⟩ = some (.int .i64 0) := (blk_cell hbox 0).trans rfl; have x1 : w3.cell? ⟨g3, 1, none⟩ = some (.int .i64 0) := (blk_cell hbox 1).trans rfl; have x2 : w3.cell? ⟨g3, 2, none⟩ = some (.int .i64 0) := (blk_cell hbox 2).trans rfl; have hk1 := blk_far (blk_far (blk_far (blk_below HK1.out hb) (p := ⟨g3, 0, none⟩) HNE.out (.int .i64 g)) (p := ⟨g3, 1, none⟩) HNE.out (.int .i64 s)) (p := ⟨g3, 2, none⟩) HNE.out (.int .i64 m); have y3 : (((w3.setCell ⟨g3, 0, none⟩ (.int .i64 g)).setCell ⟨g3, 1, none⟩ (.int .i64 s)).setCell ⟨g3, 2, none⟩ (.int .i64 m)).cell? ⟨g1, 3, none⟩ = some (.string a) := (blk_cell hk1 3).trans rfl;  have y4 : (((w3.setCell ⟨g3, 0, none⟩ (.int .i64 g)).setCell ⟨g3, 1, none⟩ (.int .i64 s)).setCell ⟨g3, 2, none⟩ (.int .i64 m)).cell? ⟨g1, 4, none⟩ = some (.string b) := (blk_cell hk1 4).trans rfl;  have y5 : (((w3.setCell ⟨g3, 0, none⟩ (.int .i64 g)).setCell ⟨g3, 1, none⟩ (.int .i64 s)).setCell ⟨g3, 2, none⟩ (.int .i64 m)).cell? ⟨g1, 5, none⟩ = some (.slice A l.length c) := (blk_cell hk1 5).trans rfl; clear hk1 z0 z1 z2 z3 z4 z5; clear hb hbox hg) | fail)
  have hS3 := blk_put (cs' := #[.int .i64 g, .int .i64 s, .int .i64 m]) (blk_put (cs' := #[.int .i64 g, .int .i64 s, .int .i64 0]) (blk_put (cs' := #[.int .i64 g, .int .i64 0, .int .i64 0]) HK3.out 0 (.int .i64 g) rfl) 1 (.int .i64 s) rfl) 2 (.int .i64 m) rfl
  have hB3 := below_set (j := 2) (v := .int .i64 m) (below_set (j := 1) (v := .int .i64 s) (below_set (j := 0) (v := .int .i64 g) HB3.out HG3.out) HG3.out) HG3.out
  have HKg3_0 := Aside0.mk hS3
  have HB0 := Aside0.mk hB3
  clear hS3 hB3 f0 f1 f2 x0 x1 x2 y3 y4 y5 HB3 HK3 HB1 HK1 HG1 HNE
  refine (assartlaw03_shown.calls true _ rfl).mono ?_
  rintro e wc1 ⟨rfl, hb⟩
  have HB1 : Aside0 (Below w.heap.size w wc1) := ⟨HB0.out.trans (hb.mono HB0.out.size)⟩
  have HKg3_1 := Aside0.mk (blk_below HKg3_0.out hb)
  clear hb HB0 HKg3_0
  have cg3_0_1 : wc1.cell? ⟨g3, 0, none⟩ = some (.int .i64 g) := (blk_cell HKg3_1.out 0).trans rfl
  have cg3_1_1 : wc1.cell? ⟨g3, 1, none⟩ = some (.int .i64 s) := (blk_cell HKg3_1.out 1).trans rfl
  have cg3_2_1 : wc1.cell? ⟨g3, 2, none⟩ = some (.int .i64 m) := (blk_cell HKg3_1.out 2).trans rfl
  go_wp2_with fail
  refine (slot_Print.calls _ _ _ _ _ _ HP.out).mono ?_
  rintro e wc2 ⟨rfl, hb⟩
  have HB2 : Aside0 (Below w.heap.size w wc2) := ⟨HB1.out.trans (hb.mono HB1.out.size)⟩
  have HKg3_2 := Aside0.mk (blk_below HKg3_1.out hb)
  clear cg3_0_1 cg3_1_1 cg3_2_1
  clear hb HB1 HKg3_1
  have cg3_0_2 : wc2.cell? ⟨g3, 0, none⟩ = some (.int .i64 g) := (blk_cell HKg3_2.out 0).trans rfl
  have cg3_1_2 : wc2.cell? ⟨g3, 1, none⟩ = some (.int .i64 s) := (blk_cell HKg3_2.out 1).trans rfl
  have cg3_2_2 : wc2.cell? ⟨g3, 2, none⟩ = some (.int .i64 m) := (blk_cell HKg3_2.out 2).trans rfl
  go_wp2_with fail
  refine (assartref03_Print.calls 20000 _ _ _ _ _ _ HP'.out).mono ?_
  rintro e wc3 ⟨rfl, hb⟩
  have HB3 : Aside0 (Below w.heap.size w wc3) := ⟨HB2.out.trans (hb.mono HB2.out.size)⟩
  have HKg3_3 := Aside0.mk (blk_below HKg3_2.out hb)
  clear cg3_0_2 cg3_1_2 cg3_2_2
  clear hb HB2 HKg3_2
  go_wp2_with fail
  refine (slot_Parse.calls _ _ _ _ _ _ HQ.out).mono ?_
  rintro e wc4 ⟨rfl, hb⟩
  have HB4 : Aside0 (Below w.heap.size w wc4) := ⟨HB3.out.trans (hb.mono HB3.out.size)⟩
  have HKg3_4 := Aside0.mk (blk_below HKg3_3.out hb)
  clear hb HB3 HKg3_3
  go_wp2_with (first | ((with_reducible refine gate_dst (N := 12) rfl ?_); refine box_event ?hg (N := 12) ?hd (cs := #[.int .i64 0, .int .i64 0, .int .i64 0]) (t := 23) ?hr ?_; (case hd => rfl); (case hg => rfl); (case hr => first | (go_simp; done) | (go_simp; rfl)); intro g12 hg wb5 hbox hb; have f0_5 := blk_frozen hbox 0; have x0_5 : wb5.cell? ⟨g12, 0, none⟩ = some (.int .i64 0) := (blk_cell hbox 0).trans rfl; have f1_5 := blk_frozen hbox 1; have x1_5 : wb5.cell? ⟨g12, 1, none⟩ = some (.int .i64 0) := (blk_cell hbox 1).trans rfl; have f2_5 := blk_frozen hbox 2; have x2_5 : wb5.cell? ⟨g12, 2, none⟩ = some (.int .i64 0) := (blk_cell hbox 2).trans rfl; have HGg12 : Aside0 (w.heap.size ≤ g12) := ⟨by rw [hg]; exact HB4.out.size⟩; have HB5 := Aside0.mk (below_set (j := 2) (v := .int .i64 p3) (below_set (j := 1) (v := .int .i64 p2) (below_set (j := 0) (v := .int .i64 p1) (HB4.out.trans (hb.mono HB4.out.size)) HGg12.out) HGg12.out) HGg12.out); have HNg3_5 : Aside0 (g3 ≠ g12) := ⟨by have := blk_lt HKg3_4.out; rw [hg]; omega⟩; have HKg3_5 := Aside0.mk (blk_far (blk_far (blk_far (blk_below HKg3_4.out hb) (p := ⟨g12, 0, none⟩) HNg3_5.out (.int .i64 p1)) (p := ⟨g12, 1, none⟩) HNg3_5.out (.int .i64 p2)) (p := ⟨g12, 2, none⟩) HNg3_5.out (.int .i64 p3)); have HKg12_5 := Aside0.mk (blk_put (cs' := #[.int .i64 p1, .int .i64 p2, .int .i64 p3]) (blk_put (cs' := #[.int .i64 p1, .int .i64 p2, .int .i64 0]) (blk_put (cs' := #[.int .i64 p1, .int .i64 0, .int .i64 0]) hbox 0 (.int .i64 p1) rfl) 1 (.int .i64 p2) rfl) 2 (.int .i64 p3) rfl); clear hb hbox hg) | fail)
  refine (assartref03_Parse.calls 20000 _ _ _ _ _ _ HQ'.out).mono ?_
  rintro e wc6 ⟨rfl, hb⟩
  have HB6 : Aside0 (Below w.heap.size w wc6) := ⟨HB5.out.trans (hb.mono HB5.out.size)⟩
  have HKg3_6 := Aside0.mk (blk_below HKg3_5.out hb)
  have HKg12_6 := Aside0.mk (blk_below HKg12_5.out hb)
  clear f0_5 x0_5 f1_5 x1_5 f2_5 x2_5
  clear hb HB5 HKg3_5 HKg12_5
  go_wp2_with (first | ((with_reducible refine gate_dst (N := 14) rfl ?_); refine box_event ?hg (N := 14) ?hd (cs := #[.int .i64 0, .int .i64 0, .int .i64 0]) (t := 23) ?hr ?_; (case hd => rfl); (case hg => rfl); (case hr => first | (go_simp; done) | (go_simp; rfl)); intro g14 hg wb7 hbox hb; have f0_7 := blk_frozen hbox 0; have x0_7 : wb7.cell? ⟨g14, 0, none⟩ = some (.int .i64 0) := (blk_cell hbox 0).trans rfl; have f1_7 := blk_frozen hbox 1; have x1_7 : wb7.cell? ⟨g14, 1, none⟩ = some (.int .i64 0) := (blk_cell hbox 1).trans rfl; have f2_7 := blk_frozen hbox 2; have x2_7 : wb7.cell? ⟨g14, 2, none⟩ = some (.int .i64 0) := (blk_cell hbox 2).trans rfl; have HGg14 : Aside0 (w.heap.size ≤ g14) := ⟨by rw [hg]; exact HB6.out.size⟩; have HB7 := Aside0.mk (below_set (j := 2) (v := .int .i64 p3) (below_set (j := 1) (v := .int .i64 p2) (below_set (j := 0) (v := .int .i64 p1) (HB6.out.trans (hb.mono HB6.out.size)) HGg14.out) HGg14.out) HGg14.out); have HNg3_7 : Aside0 (g3 ≠ g14) := ⟨by have := blk_lt HKg3_6.out; rw [hg]; omega⟩; have HKg3_7 := Aside0.mk (blk_far (blk_far (blk_far (blk_below HKg3_6.out hb) (p := ⟨g14, 0, none⟩) HNg3_7.out (.int .i64 p1)) (p := ⟨g14, 1, none⟩) HNg3_7.out (.int .i64 p2)) (p := ⟨g14, 2, none⟩) HNg3_7.out (.int .i64 p3)); have HNg12_7 : Aside0 (g12 ≠ g14) := ⟨by have := blk_lt HKg12_6.out; rw [hg]; omega⟩; have HKg12_7 := Aside0.mk (blk_far (blk_far (blk_far (blk_below HKg12_6.out hb) (p := ⟨g14, 0, none⟩) HNg12_7.out (.int .i64 p1)) (p := ⟨g14, 1, none⟩) HNg12_7.out (.int .i64 p2)) (p := ⟨g14, 2, none⟩) HNg12_7.out (.int .i64 p3)); have HKg14_7 := Aside0.mk (blk_put (cs' := #[.int .i64 p1, .int .i64 p2, .int .i64 p3]) (blk_put (cs' := #[.int .i64 p1, .int .i64 p2, .int .i64 0]) (blk_put (cs' := #[.int .i64 p1, .int .i64 0, .int .i64 0]) hbox 0 (.int .i64 p1) rfl) 1 (.int .i64 p2) rfl) 2 (.int .i64 p3) rfl); clear hb hbox hg) | fail)
  refine (slot_Pick.calls 20000 _ _ _ _ _ _ _ _ HK.out).mono ?_
  rintro e wc8 ⟨rfl, hb⟩
  have HB8 : Aside0 (Below w.heap.size w wc8) := ⟨HB7.out.trans (hb.mono HB7.out.size)⟩
  have HKg3_8 := Aside0.mk (blk_below HKg3_7.out hb)
  have HKg12_8 := Aside0.mk (blk_below HKg12_7.out hb)
  have HKg14_8 := Aside0.mk (blk_below HKg14_7.out hb)
  clear f0_7 x0_7 f1_7 x1_7 f2_7 x2_7
  clear hb HB7 HKg3_7 HKg12_7 HKg14_7
  go_wp2_with (first | ((with_reducible refine gate_dst (N := 17) rfl ?_); refine box_event ?hg (N := 17) ?hd (cs := #[.int .i64 0, .int .i64 0, .int .i64 0]) (t := 23) ?hr ?_; (case hd => rfl); (case hg => rfl); (case hr => first | (go_simp; done) | (go_simp; rfl)); intro g17 hg wb9 hbox hb; have f0_9 := blk_frozen hbox 0; have x0_9 : wb9.cell? ⟨g17, 0, none⟩ = some (.int .i64 0) := (blk_cell hbox 0).trans rfl; have f1_9 := blk_frozen hbox 1; have x1_9 : wb9.cell? ⟨g17, 1, none⟩ = some (.int .i64 0) := (blk_cell hbox 1).trans rfl; have f2_9 := blk_frozen hbox 2; have x2_9 : wb9.cell? ⟨g17, 2, none⟩ = some (.int .i64 0) := (blk_cell hbox 2).trans rfl; have HGg17 : Aside0 (w.heap.size ≤ g17) := ⟨by rw [hg]; exact HB8.out.size⟩; have HB9 := Aside0.mk (below_set (j := 2) (v := .int .i64 k4) (below_set (j := 1) (v := .int .i64 k3) (below_set (j := 0) (v := .int .i64 k2) (HB8.out.trans (hb.mono HB8.out.size)) HGg17.out) HGg17.out) HGg17.out); have HNg3_9 : Aside0 (g3 ≠ g17) := ⟨by have := blk_lt HKg3_8.out; rw [hg]; omega⟩; have HKg3_9 := Aside0.mk (blk_far (blk_far (blk_far (blk_below HKg3_8.out hb) (p := ⟨g17, 0, none⟩) HNg3_9.out (.int .i64 k2)) (p := ⟨g17, 1, none⟩) HNg3_9.out (.int .i64 k3)) (p := ⟨g17, 2, none⟩) HNg3_9.out (.int .i64 k4)); have HNg12_9 : Aside0 (g12 ≠ g17) := ⟨by have := blk_lt HKg12_8.out; rw [hg]; omega⟩; have HKg12_9 := Aside0.mk (blk_far (blk_far (blk_far (blk_below HKg12_8.out hb) (p := ⟨g17, 0, none⟩) HNg12_9.out (.int .i64 k2)) (p := ⟨g17, 1, none⟩) HNg12_9.out (.int .i64 k3)) (p := ⟨g17, 2, none⟩) HNg12_9.out (.int .i64 k4)); have HNg14_9 : Aside0 (g14 ≠ g17) := ⟨by have := blk_lt HKg14_8.out; rw [hg]; omega⟩; have HKg14_9 := Aside0.mk (blk_far (blk_far (blk_far (blk_below HKg14_8.out hb) (p := ⟨g17, 0, none⟩) HNg14_9.out (.int .i64 k2)) (p := ⟨g17, 1, none⟩) HNg14_9.out (.int .i64 k3)) (p := ⟨g17, 2, none⟩) HNg14_9.out (.int .i64 k4)); have HKg17_9 := Aside0.mk (blk_put (cs' := #[.int .i64 k2, .int .i64 k3, .int .i64 k4]) (blk_put (cs' := #[.int .i64 k2, .int .i64 k3, .int .i64 0]) (blk_put (cs' := #[.int .i64 k2, .int .i64 0, .int .i64 0]) hbox 0 (.int .i64 k2) rfl) 1 (.int .i64 k3) rfl) 2 (.int .i64 k4) rfl); clear hb hbox hg) | fail)
  refine (assartref03_Pick.calls 20000 _ _ _ _ _ _ _ _ HK'.out).mono ?_
  rintro e wc10 ⟨rfl, hb⟩
  have HB10 : Aside0 (Below w.heap.size w wc10) := ⟨HB9.out.trans (hb.mono HB9.out.size)⟩
  have HKg3_10 := Aside0.mk (blk_below HKg3_9.out hb)
  have HKg12_10 := Aside0.mk (blk_below HKg12_9.out hb)
  have HKg14_10 := Aside0.mk (blk_below HKg14_9.out hb)
  have HKg17_10 := Aside0.mk (blk_below HKg17_9.out hb)
  clear f0_9 x0_9 f1_9 x1_9 f2_9 x2_9
  clear hb HB9 HKg3_9 HKg12_9 HKg14_9 HKg17_9
  go_wp2_with (first | ((with_reducible refine gate_dst (N := 20) rfl ?_); refine box_event ?hg (N := 20) ?hd (cs := #[.int .i64 0, .int .i64 0, .int .i64 0]) (t := 23) ?hr ?_; (case hd => rfl); (case hg => rfl); (case hr => first | (go_simp; done) | (go_simp; rfl)); intro g20 hg wb11 hbox hb; have f0_11 := blk_frozen hbox 0; have x0_11 : wb11.cell? ⟨g20, 0, none⟩ = some (.int .i64 0) := (blk_cell hbox 0).trans rfl; have f1_11 := blk_frozen hbox 1; have x1_11 : wb11.cell? ⟨g20, 1, none⟩ = some (.int .i64 0) := (blk_cell hbox 1).trans rfl; have f2_11 := blk_frozen hbox 2; have x2_11 : wb11.cell? ⟨g20, 2, none⟩ = some (.int .i64 0) := (blk_cell hbox 2).trans rfl; have HGg20 : Aside0 (w.heap.size ≤ g20) := ⟨by rw [hg]; exact HB10.out.size⟩; have HB11 := Aside0.mk (below_set (j := 2) (v := .int .i64 k4) (below_set (j := 1) (v := .int .i64 k3) (below_set (j := 0) (v := .int .i64 k2) (HB10.out.trans (hb.mono HB10.out.size)) HGg20.out) HGg20.out) HGg20.out); have HNg3_11 : Aside0 (g3 ≠ g20) := ⟨by have := blk_lt HKg3_10.out; rw [hg]; omega⟩; have HKg3_11 := Aside0.mk (blk_far (blk_far (blk_far (blk_below HKg3_10.out hb) (p := ⟨g20, 0, none⟩) HNg3_11.out (.int .i64 k2)) (p := ⟨g20, 1, none⟩) HNg3_11.out (.int .i64 k3)) (p := ⟨g20, 2, none⟩) HNg3_11.out (.int .i64 k4)); have HNg12_11 : Aside0 (g12 ≠ g20) := ⟨by have := blk_lt HKg12_10.out; rw [hg]; omega⟩; have HKg12_11 := Aside0.mk (blk_far (blk_far (blk_far (blk_below HKg12_10.out hb) (p := ⟨g20, 0, none⟩) HNg12_11.out (.int .i64 k2)) (p := ⟨g20, 1, none⟩) HNg12_11.out (.int .i64 k3)) (p := ⟨g20, 2, none⟩) HNg12_11.out (.int .i64 k4)); have HNg14_11 : Aside0 (g14 ≠ g20) := ⟨by have := blk_lt HKg14_10.out; rw [hg]; omega⟩; have HKg14_11 := Aside0.mk (blk_far (blk_far (blk_far (blk_below HKg14_10.out hb) (p := ⟨g20, 0, none⟩) HNg14_11.out (.int .i64 k2)) (p := ⟨g20, 1, none⟩) HNg14_11.out (.int .i64 k3)) (p := ⟨g20, 2, none⟩) HNg14_11.out (.int .i64 k4)); have HNg17_11 : Aside0 (g17 ≠ g20) := ⟨by have := blk_lt HKg17_10.out; rw [hg]; omega⟩; have HKg17_11 := Aside0.mk (blk_far (blk_far (blk_far (blk_below HKg17_10.out hb) (p := ⟨g20, 0, none⟩) HNg17_11.out (.int .i64 k2)) (p := ⟨g20, 1, none⟩) HNg17_11.out (.int .i64 k3)) (p := ⟨g20, 2, none⟩) HNg17_11.out (.int .i64 k4)); have HKg20_11 := Aside0.mk (blk_put (cs' := #[.int .i64 k2, .int .i64 k3, .int .i64 k4]) (blk_put (cs' := #[.int .i64 k2, .int .i64 k3, .int .i64 0]) (blk_put (cs' := #[.int .i64 k2, .int .i64 0, .int .i64 0]) hbox 0 (.int .i64 k2) rfl) 1 (.int .i64 k3) rfl) 2 (.int .i64 k4) rfl); clear hb hbox hg) | fail)
  refine (slot_Book.calls _ _ _ _ _ _ (Kd.C_below HR0.out HB11.out) HC0.out HM.out).mono ?_
  rintro e wc12 ⟨rfl, hd⟩
  have hb := hd.below
  clear hd
  have HB12 : Aside0 (Below w.heap.size w wc12) := ⟨HB11.out.trans (hb.mono HB11.out.size)⟩
  have HKg3_12 := Aside0.mk (blk_below HKg3_11.out hb)
  have HKg12_12 := Aside0.mk (blk_below HKg12_11.out hb)
  have HKg14_12 := Aside0.mk (blk_below HKg14_11.out hb)
  have HKg17_12 := Aside0.mk (blk_below HKg17_11.out hb)
  have HKg20_12 := Aside0.mk (blk_below HKg20_11.out hb)
  clear f0_11 x0_11 f1_11 x1_11 f2_11 x2_11
  clear hb HB11 HKg3_11 HKg12_11 HKg14_11 HKg17_11 HKg20_11
  go_wp2_with fail
  refine (assartref03_Book.calls 20000 _ _ _ _ _ _ (Kd.C_below HR0.out HB12.out) HC0.out HM'.out).mono ?_
  rintro e wc13 ⟨rfl, hd⟩
  have hb := hd.below
  clear hd
  have HB13 : Aside0 (Below w.heap.size w wc13) := ⟨HB12.out.trans (hb.mono HB12.out.size)⟩
  have HKg3_13 := Aside0.mk (blk_below HKg3_12.out hb)
  have HKg12_13 := Aside0.mk (blk_below HKg12_12.out hb)
  have HKg14_13 := Aside0.mk (blk_below HKg14_12.out hb)
  have HKg17_13 := Aside0.mk (blk_below HKg17_12.out hb)
  have HKg20_13 := Aside0.mk (blk_below HKg20_12.out hb)
  clear hb HB12 HKg3_12 HKg12_12 HKg14_12 HKg17_12 HKg20_12
  have cg3_0_13 : wc13.cell? ⟨g3, 0, none⟩ = some (.int .i64 g) := (blk_cell HKg3_13.out 0).trans rfl
  have cg3_1_13 : wc13.cell? ⟨g3, 1, none⟩ = some (.int .i64 s) := (blk_cell HKg3_13.out 1).trans rfl
  have cg3_2_13 : wc13.cell? ⟨g3, 2, none⟩ = some (.int .i64 m) := (blk_cell HKg3_13.out 2).trans rfl
  go_wp2_with fail
  clear cg3_0_13 cg3_1_13 cg3_2_13
  have HKg3_14 := Aside0.mk (blk_drew HKg3_13.out)
  have HKg12_14 := Aside0.mk (blk_drew HKg12_13.out)
  have HKg14_14 := Aside0.mk (blk_drew HKg14_13.out)
  have HKg17_14 := Aside0.mk (blk_drew HKg17_13.out)
  have HKg20_14 := Aside0.mk (blk_drew HKg20_13.out)
  have HB14 := Aside0.mk (below_drew1 HB13.out)
  clear HB13 HKg3_13 HKg12_13 HKg14_13 HKg17_13 HKg20_13
  refine start_ (n := 54) (S := fun w' => w'.cell? ⟨g3, 0, none⟩ = some (.int .i64 g) ∧ w'.cell? ⟨g3, 1, none⟩ = some (.int .i64 s) ∧ w'.cell? ⟨g3, 2, none⟩ = some (.int .i64 m) ∧ w'.cell? ⟨g12, 0, none⟩ = some (.int .i64 p1) ∧ w'.cell? ⟨g12, 1, none⟩ = some (.int .i64 p2) ∧ w'.cell? ⟨g12, 2, none⟩ = some (.int .i64 p3) ∧ w'.cell? ⟨g14, 0, none⟩ = some (.int .i64 p1) ∧ w'.cell? ⟨g14, 1, none⟩ = some (.int .i64 p2) ∧ w'.cell? ⟨g14, 2, none⟩ = some (.int .i64 p3) ∧ w'.cell? ⟨g17, 0, none⟩ = some (.int .i64 k2) ∧ w'.cell? ⟨g17, 1, none⟩ = some (.int .i64 k3) ∧ w'.cell? ⟨g17, 2, none⟩ = some (.int .i64 k4) ∧ w'.cell? ⟨g20, 0, none⟩ = some (.int .i64 k2) ∧ w'.cell? ⟨g20, 1, none⟩ = some (.int .i64 k3) ∧ w'.cell? ⟨g20, 2, none⟩ = some (.int .i64 k4)) (ds := []) #[false, false, false, false, false, false, false, false, false, false, false, false, false, false, false, false, false, false, false, false, false, false, false, false, false, false, false, false, false, false, false, false, false, false, false, false, false, false, false, false, false, false, false, false, false, false, false, false, false, false, false, false, false, false] (by kernel_rfl) rfl rfl ⟨(blk_cell HKg3_14.out 0).trans rfl, (blk_cell HKg3_14.out 1).trans rfl, (blk_cell HKg3_14.out 2).trans rfl, (blk_cell HKg12_14.out 0).trans rfl, (blk_cell HKg12_14.out 1).trans rfl, (blk_cell HKg12_14.out 2).trans rfl, (blk_cell HKg14_14.out 0).trans rfl, (blk_cell HKg14_14.out 1).trans rfl, (blk_cell HKg14_14.out 2).trans rfl, (blk_cell HKg17_14.out 0).trans rfl, (blk_cell HKg17_14.out 1).trans rfl, (blk_cell HKg17_14.out 2).trans rfl, (blk_cell HKg20_14.out 0).trans rfl, (blk_cell HKg20_14.out 1).trans rfl, (blk_cell HKg20_14.out 2).trans rfl⟩ (fun hHeld => ?_)
  refine with_tabW SlotTells.tab16 SlotTells.bits16 (fun HT_ HW_ => ?_)
  generalize wc13.drew = wd14 at HKg3_14 HKg12_14 HKg14_14 HKg17_14 HKg20_14 HB14 hHeld ⊢
  refine pure_ (i := 0) (N := some 93) (v := ?_) (a' := ?_) #[true, false, false, false, false, false, false, false, false, false, false, false, false, false, false, false, false, false, false, false, false, false, false, false, false, false, false, false, false, false, false, false, false, false, false, false, false, false, false, false, false, false, false, false, false, false, false, false, false, false, false, false, false, false] rfl rfl (any_of HT_.out (by kernel_rfl)) (fun _ _ _ h => h) (Or.inl ⟨by rfl, ?_⟩) ?_ ?_
  rotate_left
  · intro w'
    go_simp
    with_reducible rfl
  rotate_left
  · simp only [Act.put, List.setIfInBounds_toArray, List.set_cons_zero, List.set_cons_succ, i64_w, i32_w]
    rfl
  refine pure_ (i := 1) (N := some 94) (v := ?_) (a' := ?_) #[true, true, false, false, false, false, false, false, false, false, false, false, false, false, false, false, false, false, false, false, false, false, false, false, false, false, false, false, false, false, false, false, false, false, false, false, false, false, false, false, false, false, false, false, false, false, false, false, false, false, false, false, false, false] rfl rfl (any_of HT_.out (by kernel_rfl)) (fun _ _ _ h => h) (Or.inl ⟨by rfl, ?_⟩) ?_ ?_
  rotate_left
  · intro w'
    go_simp
    with_reducible rfl
  rotate_left
  · simp only [Act.put, List.setIfInBounds_toArray, List.set_cons_zero, List.set_cons_succ, i64_w, i32_w]
    rfl
  refine take_ (i := 2) (N := some 95) (v := ?_) (a' := ?_) #[true, true, true, false, false, false, false, false, false, false, false, false, false, false, false, false, false, false, false, false, false, false, false, false, false, false, false, false, false, false, false, false, false, false, false, false, false, false, false, false, false, false, false, false, false, false, false, false, false, false, false, false, false, false] rfl rfl (take_ofW HT_.out HW_.out (by kernel_rfl)) (fun _ _ _ h => h) (Or.inl ⟨by rfl, ?_⟩) hHeld ?_ ?_
  rotate_left
  · rintro w' ⟨s0, s1, s2, s3, s4, s5, s6, s7, s8, s9, s10, s11, s12, s13, s14⟩
    go_simp
    with_reducible rfl
  rotate_left
  · simp only [Act.put, List.setIfInBounds_toArray, List.set_cons_zero, List.set_cons_succ, i64_w, i32_w]
    rfl
  refine take_ (i := 4) (N := some 97) (v := ?_) (a' := ?_) #[true, true, true, false, true, false, false, false, false, false, false, false, false, false, false, false, false, false, false, false, false, false, false, false, false, false, false, false, false, false, false, false, false, false, false, false, false, false, false, false, false, false, false, false, false, false, false, false, false, false, false, false, false, false] rfl rfl (take_ofW HT_.out HW_.out (by kernel_rfl)) (fun _ _ _ h => h) (Or.inl ⟨by rfl, ?_⟩) hHeld ?_ ?_
  rotate_left
  · rintro w' ⟨s0, s1, s2, s3, s4, s5, s6, s7, s8, s9, s10, s11, s12, s13, s14⟩
    go_simp
    with_reducible rfl
  rotate_left
  · simp only [Act.put, List.setIfInBounds_toArray, List.set_cons_zero, List.set_cons_succ, i64_w, i32_w]
    rfl
  refine one_ (i := 3) (N := some 96) #[true, true, true, true, true, false, false, false, false, false, false, false, false, false, false, false, false, false, false, false, false, false, false, false, false, false, false, false, false, false, false, false, false, false, false, false, false, false, false, false, false, false, false, false, false, false, false, false, false, false, false, false, false, false] rfl rfl (one_of HT_.out (by kernel_rfl)) (by decide) (fun K hK => ?_)
  refine goes_ Try.func24 (by kernel_rfl) rfl #[.agg #[.int .i64 g, .int .i64 s, .int .i64 m]] (by rfl) rfl rfl (by (try simp only [List.map_toArray, List.map_cons, List.map_nil]); first | done | rfl | (simp only [List.length_drop, List.length_take]; rfl)) ?_
  with_reducible refine (slot_Right.calls _ _ _ _ _ HX.out).mono ?_
  rintro e wc15 ⟨rfl, hb⟩
  refine ⟨_, rfl, ?_⟩
  have HB15 : Aside0 (Below w.heap.size w wc15) := ⟨HB14.out.trans (hb.mono HB14.out.size)⟩
  have HKg3_15 := Aside0.mk (blk_below HKg3_14.out hb)
  have HKg12_15 := Aside0.mk (blk_below HKg12_14.out hb)
  have HKg14_15 := Aside0.mk (blk_below HKg14_14.out hb)
  have HKg17_15 := Aside0.mk (blk_below HKg17_14.out hb)
  have HKg20_15 := Aside0.mk (blk_below HKg20_14.out hb)
  clear hb hHeld HB14 HKg3_14 HKg12_14 HKg14_14 HKg17_14 HKg20_14
  refine hK.out _ _ ⟨(blk_cell HKg3_15.out 0).trans rfl, (blk_cell HKg3_15.out 1).trans rfl, (blk_cell HKg3_15.out 2).trans rfl, (blk_cell HKg12_15.out 0).trans rfl, (blk_cell HKg12_15.out 1).trans rfl, (blk_cell HKg12_15.out 2).trans rfl, (blk_cell HKg14_15.out 0).trans rfl, (blk_cell HKg14_15.out 1).trans rfl, (blk_cell HKg14_15.out 2).trans rfl, (blk_cell HKg17_15.out 0).trans rfl, (blk_cell HKg17_15.out 1).trans rfl, (blk_cell HKg17_15.out 2).trans rfl, (blk_cell HKg20_15.out 0).trans rfl, (blk_cell HKg20_15.out 1).trans rfl, (blk_cell HKg20_15.out 2).trans rfl⟩ (fun hHeld => ?_)
  clear hK K
  refine norm_ (a' := ?_) ?_ ?_
  rotate_left
  · show Act.put _ (some 96) _ = _
    simp only [Act.put, List.setIfInBounds_toArray, List.set_cons_zero, List.set_cons_succ, i64_w, i32_w]
    rfl
  refine one_ (i := 5) (N := some 98) #[true, true, true, true, true, true, false, false, false, false, false, false, false, false, false, false, false, false, false, false, false, false, false, false, false, false, false, false, false, false, false, false, false, false, false, false, false, false, false, false, false, false, false, false, false, false, false, false, false, false, false, false, false, false] rfl rfl (one_of HT_.out (by kernel_rfl)) (by decide) (fun K hK => ?_)
  refine goes_ Try.func25 (by kernel_rfl) rfl #[.agg #[.int .i64 g, .int .i64 s, .int .i64 m]] (by rfl) rfl rfl (by (try simp only [List.map_toArray, List.map_cons, List.map_nil]); first | done | rfl | (simp only [List.length_drop, List.length_take]; rfl)) ?_
  with_reducible refine (assartref03_Right.calls _ _ _ _ _ HX'.out).mono ?_
  rintro e wc16 ⟨rfl, hb⟩
  refine ⟨_, rfl, ?_⟩
  have HB16 : Aside0 (Below w.heap.size w wc16) := ⟨HB15.out.trans (hb.mono HB15.out.size)⟩
  have HKg3_16 := Aside0.mk (blk_below HKg3_15.out hb)
  have HKg12_16 := Aside0.mk (blk_below HKg12_15.out hb)
  have HKg14_16 := Aside0.mk (blk_below HKg14_15.out hb)
  have HKg17_16 := Aside0.mk (blk_below HKg17_15.out hb)
  have HKg20_16 := Aside0.mk (blk_below HKg20_15.out hb)
  clear hb hHeld HB15 HKg3_15 HKg12_15 HKg14_15 HKg17_15 HKg20_15
  refine hK.out _ _ ⟨(blk_cell HKg3_16.out 0).trans rfl, (blk_cell HKg3_16.out 1).trans rfl, (blk_cell HKg3_16.out 2).trans rfl, (blk_cell HKg12_16.out 0).trans rfl, (blk_cell HKg12_16.out 1).trans rfl, (blk_cell HKg12_16.out 2).trans rfl, (blk_cell HKg14_16.out 0).trans rfl, (blk_cell HKg14_16.out 1).trans rfl, (blk_cell HKg14_16.out 2).trans rfl, (blk_cell HKg17_16.out 0).trans rfl, (blk_cell HKg17_16.out 1).trans rfl, (blk_cell HKg17_16.out 2).trans rfl, (blk_cell HKg20_16.out 0).trans rfl, (blk_cell HKg20_16.out 1).trans rfl, (blk_cell HKg20_16.out 2).trans rfl⟩ (fun hHeld => ?_)
  clear hK K
  refine norm_ (a' := ?_) ?_ ?_
  rotate_left
  · show Act.put _ (some 98) _ = _
    simp only [Act.put, List.setIfInBounds_toArray, List.set_cons_zero, List.set_cons_succ, i64_w, i32_w]
    rfl
  refine pure_ (i := 6) (N := some 99) (v := ?_) (a' := ?_) #[true, true, true, true, true, true, true, false, false, false, false, false, false, false, false, false, false, false, false, false, false, false, false, false, false, false, false, false, false, false, false, false, false, false, false, false, false, false, false, false, false, false, false, false, false, false, false, false, false, false, false, false, false, false] rfl rfl (any_of HT_.out (by kernel_rfl)) (fun _ _ _ h => h) (Or.inl ⟨by rfl, ?_⟩) ?_ ?_
  rotate_left
  · intro w'
    go_simp
    with_reducible rfl
  rotate_left
  · simp only [Act.put, List.setIfInBounds_toArray, List.set_cons_zero, List.set_cons_succ, i64_w, i32_w]
    rfl
  refine pure_ (i := 7) (N := some 100) (v := ?_) (a' := ?_) #[true, true, true, true, true, true, true, true, false, false, false, false, false, false, false, false, false, false, false, false, false, false, false, false, false, false, false, false, false, false, false, false, false, false, false, false, false, false, false, false, false, false, false, false, false, false, false, false, false, false, false, false, false, false] rfl rfl (any_of HT_.out (by kernel_rfl)) (fun _ _ _ h => h) (Or.inl ⟨by rfl, ?_⟩) ?_ ?_
  rotate_left
  · intro w'
    go_simp
    with_reducible rfl
  rotate_left
  · simp only [Act.put, List.setIfInBounds_toArray, List.set_cons_zero, List.set_cons_succ, i64_w, i32_w]
    rfl
  refine pure_ (i := 8) (N := some 101) (v := ?_) (a' := ?_) #[true, true, true, true, true, true, true, true, true, false, false, false, false, false, false, false, false, false, false, false, false, false, false, false, false, false, false, false, false, false, false, false, false, false, false, false, false, false, false, false, false, false, false, false, false, false, false, false, false, false, false, false, false, false] rfl rfl (any_of HT_.out (by kernel_rfl)) (fun _ _ _ h => h) (Or.inl ⟨by rfl, ?_⟩) ?_ ?_
  rotate_left
  · intro w'
    go_simp
    with_reducible rfl
  rotate_left
  · simp only [Act.put, List.setIfInBounds_toArray, List.set_cons_zero, List.set_cons_succ, i64_w, i32_w]
    rfl
  refine pure_ (i := 9) (N := some 102) (v := ?_) (a' := ?_) #[true, true, true, true, true, true, true, true, true, true, false, false, false, false, false, false, false, false, false, false, false, false, false, false, false, false, false, false, false, false, false, false, false, false, false, false, false, false, false, false, false, false, false, false, false, false, false, false, false, false, false, false, false, false] rfl rfl (any_of HT_.out (by kernel_rfl)) (fun _ _ _ h => h) (Or.inl ⟨by rfl, ?_⟩) ?_ ?_
  rotate_left
  · intro w'
    go_simp
    with_reducible rfl
  rotate_left
  · simp only [Act.put, List.setIfInBounds_toArray, List.set_cons_zero, List.set_cons_succ, i64_w, i32_w]
    rfl
  refine pure_ (i := 10) (N := some 103) (v := ?_) (a' := ?_) #[true, true, true, true, true, true, true, true, true, true, true, false, false, false, false, false, false, false, false, false, false, false, false, false, false, false, false, false, false, false, false, false, false, false, false, false, false, false, false, false, false, false, false, false, false, false, false, false, false, false, false, false, false, false] rfl rfl (any_of HT_.out (by kernel_rfl)) (fun _ _ _ h => h) (Or.inl ⟨by rfl, ?_⟩) ?_ ?_
  rotate_left
  · intro w'
    go_simp
    with_reducible rfl
  rotate_left
  · simp only [Act.put, List.setIfInBounds_toArray, List.set_cons_zero, List.set_cons_succ, i64_w, i32_w]
    rfl
  refine pure_ (i := 11) (N := some 104) (v := ?_) (a' := ?_) #[true, true, true, true, true, true, true, true, true, true, true, true, false, false, false, false, false, false, false, false, false, false, false, false, false, false, false, false, false, false, false, false, false, false, false, false, false, false, false, false, false, false, false, false, false, false, false, false, false, false, false, false, false, false] rfl rfl (any_of HT_.out (by kernel_rfl)) (fun _ _ _ h => h) (Or.inl ⟨by rfl, ?_⟩) ?_ ?_
  rotate_left
  · intro w'
    go_simp
    with_reducible rfl
  rotate_left
  · simp only [Act.put, List.setIfInBounds_toArray, List.set_cons_zero, List.set_cons_succ, i64_w, i32_w]
    rfl
  refine pure_ (i := 12) (N := some 105) (v := ?_) (a' := ?_) #[true, true, true, true, true, true, true, true, true, true, true, true, true, false, false, false, false, false, false, false, false, false, false, false, false, false, false, false, false, false, false, false, false, false, false, false, false, false, false, false, false, false, false, false, false, false, false, false, false, false, false, false, false, false] rfl rfl (any_of HT_.out (by kernel_rfl)) (fun _ _ _ h => h) (Or.inl ⟨by rfl, ?_⟩) ?_ ?_
  rotate_left
  · intro w'
    go_simp
    with_reducible rfl
  rotate_left
  · simp only [Act.put, List.setIfInBounds_toArray, List.set_cons_zero, List.set_cons_succ, i64_w, i32_w]
    rfl
  refine pure_ (i := 13) (N := some 106) (v := ?_) (a' := ?_) #[true, true, true, true, true, true, true, true, true, true, true, true, true, true, false, false, false, false, false, false, false, false, false, false, false, false, false, false, false, false, false, false, false, false, false, false, false, false, false, false, false, false, false, false, false, false, false, false, false, false, false, false, false, false] rfl rfl (any_of HT_.out (by kernel_rfl)) (fun _ _ _ h => h) (Or.inl ⟨by rfl, ?_⟩) ?_ ?_
  rotate_left
  · intro w'
    go_simp
    with_reducible rfl
  rotate_left
  · simp only [Act.put, List.setIfInBounds_toArray, List.set_cons_zero, List.set_cons_succ, i64_w, i32_w]
    rfl
  refine pure_ (i := 14) (N := some 107) (v := ?_) (a' := ?_) #[true, true, true, true, true, true, true, true, true, true, true, true, true, true, true, false, false, false, false, false, false, false, false, false, false, false, false, false, false, false, false, false, false, false, false, false, false, false, false, false, false, false, false, false, false, false, false, false, false, false, false, false, false, false] rfl rfl (any_of HT_.out (by kernel_rfl)) (fun _ _ _ h => h) (Or.inl ⟨by rfl, ?_⟩) ?_ ?_
  rotate_left
  · intro w'
    go_simp
    with_reducible rfl
  rotate_left
  · simp only [Act.put, List.setIfInBounds_toArray, List.set_cons_zero, List.set_cons_succ, i64_w, i32_w]
    rfl
  refine pure_ (i := 15) (N := some 108) (v := ?_) (a' := ?_) #[true, true, true, true, true, true, true, true, true, true, true, true, true, true, true, true, false, false, false, false, false, false, false, false, false, false, false, false, false, false, false, false, false, false, false, false, false, false, false, false, false, false, false, false, false, false, false, false, false, false, false, false, false, false] rfl rfl (any_of HT_.out (by kernel_rfl)) (fun _ _ _ h => h) (Or.inl ⟨by rfl, ?_⟩) ?_ ?_
  rotate_left
  · intro w'
    go_simp
    with_reducible rfl
  rotate_left
  · simp only [Act.put, List.setIfInBounds_toArray, List.set_cons_zero, List.set_cons_succ, i64_w, i32_w]
    rfl
  refine pure_ (i := 16) (N := some 109) (v := ?_) (a' := ?_) #[true, true, true, true, true, true, true, true, true, true, true, true, true, true, true, true, true, false, false, false, false, false, false, false, false, false, false, false, false, false, false, false, false, false, false, false, false, false, false, false, false, false, false, false, false, false, false, false, false, false, false, false, false, false] rfl rfl (any_of HT_.out (by kernel_rfl)) (fun _ _ _ h => h) (Or.inl ⟨by rfl, ?_⟩) ?_ ?_
  rotate_left
  · intro w'
    go_simp
    with_reducible rfl
  rotate_left
  · simp only [Act.put, List.setIfInBounds_toArray, List.set_cons_zero, List.set_cons_succ, i64_w, i32_w]
    rfl
  refine pure_ (i := 17) (N := some 110) (v := ?_) (a' := ?_) #[true, true, true, true, true, true, true, true, true, true, true, true, true, true, true, true, true, true, false, false, false, false, false, false, false, false, false, false, false, false, false, false, false, false, false, false, false, false, false, false, false, false, false, false, false, false, false, false, false, false, false, false, false, false] rfl rfl (any_of HT_.out (by kernel_rfl)) (fun _ _ _ h => h) (Or.inl ⟨by rfl, ?_⟩) ?_ ?_
  rotate_left
  · intro w'
    go_simp
    with_reducible rfl
  rotate_left
  · simp only [Act.put, List.setIfInBounds_toArray, List.set_cons_zero, List.set_cons_succ, i64_w, i32_w]
    rfl
  refine pure_ (i := 18) (N := some 111) (v := ?_) (a' := ?_) #[true, true, true, true, true, true, true, true, true, true, true, true, true, true, true, true, true, true, true, false, false, false, false, false, false, false, false, false, false, false, false, false, false, false, false, false, false, false, false, false, false, false, false, false, false, false, false, false, false, false, false, false, false, false] rfl rfl (any_of HT_.out (by kernel_rfl)) (fun _ _ _ h => h) (Or.inl ⟨by rfl, ?_⟩) ?_ ?_
  rotate_left
  · intro w'
    go_simp
    with_reducible rfl
  rotate_left
  · simp only [Act.put, List.setIfInBounds_toArray, List.set_cons_zero, List.set_cons_succ, i64_w, i32_w]
    rfl
  refine take_ (i := 19) (N := some 112) (v := ?_) (a' := ?_) #[true, true, true, true, true, true, true, true, true, true, true, true, true, true, true, true, true, true, true, true, false, false, false, false, false, false, false, false, false, false, false, false, false, false, false, false, false, false, false, false, false, false, false, false, false, false, false, false, false, false, false, false, false, false] rfl rfl (take_ofW HT_.out HW_.out (by kernel_rfl)) (fun _ _ _ h => h) (Or.inl ⟨by rfl, ?_⟩) hHeld ?_ ?_
  rotate_left
  · rintro w' ⟨s0, s1, s2, s3, s4, s5, s6, s7, s8, s9, s10, s11, s12, s13, s14⟩
    go_simp
    with_reducible rfl
  rotate_left
  · simp only [Act.put, List.setIfInBounds_toArray, List.set_cons_zero, List.set_cons_succ, i64_w, i32_w]
    rfl
  refine take_ (i := 20) (N := some 113) (v := ?_) (a' := ?_) #[true, true, true, true, true, true, true, true, true, true, true, true, true, true, true, true, true, true, true, true, true, false, false, false, false, false, false, false, false, false, false, false, false, false, false, false, false, false, false, false, false, false, false, false, false, false, false, false, false, false, false, false, false, false] rfl rfl (take_ofW HT_.out HW_.out (by kernel_rfl)) (fun _ _ _ h => h) (Or.inl ⟨by rfl, ?_⟩) hHeld ?_ ?_
  rotate_left
  · rintro w' ⟨s0, s1, s2, s3, s4, s5, s6, s7, s8, s9, s10, s11, s12, s13, s14⟩
    go_simp
    with_reducible rfl
  rotate_left
  · simp only [Act.put, List.setIfInBounds_toArray, List.set_cons_zero, List.set_cons_succ, i64_w, i32_w]
    rfl
  refine pure_ (i := 21) (N := some 114) (v := ?_) (a' := ?_) #[true, true, true, true, true, true, true, true, true, true, true, true, true, true, true, true, true, true, true, true, true, true, false, false, false, false, false, false, false, false, false, false, false, false, false, false, false, false, false, false, false, false, false, false, false, false, false, false, false, false, false, false, false, false] rfl rfl (any_of HT_.out (by kernel_rfl)) (fun _ _ _ h => h) (Or.inl ⟨by rfl, ?_⟩) ?_ ?_
  rotate_left
  · intro w'
    go_simp
    with_reducible rfl
  rotate_left
  · simp only [Act.put, List.setIfInBounds_toArray, List.set_cons_zero, List.set_cons_succ, i64_w, i32_w]
    rfl
  refine pure_ (i := 22) (N := some 115) (v := ?_) (a' := ?_) #[true, true, true, true, true, true, true, true, true, true, true, true, true, true, true, true, true, true, true, true, true, true, true, false, false, false, false, false, false, false, false, false, false, false, false, false, false, false, false, false, false, false, false, false, false, false, false, false, false, false, false, false, false, false] rfl rfl (any_of HT_.out (by kernel_rfl)) (fun _ _ _ h => h) (Or.inl ⟨by rfl, ?_⟩) ?_ ?_
  rotate_left
  · intro w'
    go_simp
    with_reducible rfl
  rotate_left
  · simp only [Act.put, List.setIfInBounds_toArray, List.set_cons_zero, List.set_cons_succ, i64_w, i32_w]
    rfl
  refine pure_ (i := 23) (N := some 116) (v := ?_) (a' := ?_) #[true, true, true, true, true, true, true, true, true, true, true, true, true, true, true, true, true, true, true, true, true, true, true, true, false, false, false, false, false, false, false, false, false, false, false, false, false, false, false, false, false, false, false, false, false, false, false, false, false, false, false, false, false, false] rfl rfl (any_of HT_.out (by kernel_rfl)) (fun _ _ _ h => h) (Or.inl ⟨by rfl, ?_⟩) ?_ ?_
  rotate_left
  · intro w'
    go_simp
    with_reducible rfl
  rotate_left
  · simp only [Act.put, List.setIfInBounds_toArray, List.set_cons_zero, List.set_cons_succ, i64_w, i32_w]
    rfl
  refine pure_ (i := 24) (N := some 117) (v := ?_) (a' := ?_) #[true, true, true, true, true, true, true, true, true, true, true, true, true, true, true, true, true, true, true, true, true, true, true, true, true, false, false, false, false, false, false, false, false, false, false, false, false, false, false, false, false, false, false, false, false, false, false, false, false, false, false, false, false, false] rfl rfl (any_of HT_.out (by kernel_rfl)) (fun _ _ _ h => h) (Or.inl ⟨by rfl, ?_⟩) ?_ ?_
  rotate_left
  · intro w'
    go_simp
    with_reducible rfl
  rotate_left
  · simp only [Act.put, List.setIfInBounds_toArray, List.set_cons_zero, List.set_cons_succ, i64_w, i32_w]
    rfl
  refine pure_ (i := 25) (N := some 118) (v := ?_) (a' := ?_) #[true, true, true, true, true, true, true, true, true, true, true, true, true, true, true, true, true, true, true, true, true, true, true, true, true, true, false, false, false, false, false, false, false, false, false, false, false, false, false, false, false, false, false, false, false, false, false, false, false, false, false, false, false, false] rfl rfl (any_of HT_.out (by kernel_rfl)) (fun _ _ _ h => h) (Or.inl ⟨by rfl, ?_⟩) ?_ ?_
  rotate_left
  · intro w'
    go_simp
    with_reducible rfl
  rotate_left
  · simp only [Act.put, List.setIfInBounds_toArray, List.set_cons_zero, List.set_cons_succ, i64_w, i32_w]
    rfl
  refine pure_ (i := 26) (N := some 119) (v := ?_) (a' := ?_) #[true, true, true, true, true, true, true, true, true, true, true, true, true, true, true, true, true, true, true, true, true, true, true, true, true, true, true, false, false, false, false, false, false, false, false, false, false, false, false, false, false, false, false, false, false, false, false, false, false, false, false, false, false, false] rfl rfl (any_of HT_.out (by kernel_rfl)) (fun _ _ _ h => h) (Or.inl ⟨by rfl, ?_⟩) ?_ ?_
  rotate_left
  · intro w'
    go_simp
    with_reducible rfl
  rotate_left
  · simp only [Act.put, List.setIfInBounds_toArray, List.set_cons_zero, List.set_cons_succ, i64_w, i32_w]
    rfl
  refine pure_ (i := 27) (N := some 120) (v := ?_) (a' := ?_) #[true, true, true, true, true, true, true, true, true, true, true, true, true, true, true, true, true, true, true, true, true, true, true, true, true, true, true, true, false, false, false, false, false, false, false, false, false, false, false, false, false, false, false, false, false, false, false, false, false, false, false, false, false, false] rfl rfl (any_of HT_.out (by kernel_rfl)) (fun _ _ _ h => h) (Or.inl ⟨by rfl, ?_⟩) ?_ ?_
  rotate_left
  · intro w'
    go_simp
    with_reducible rfl
  rotate_left
  · simp only [Act.put, List.setIfInBounds_toArray, List.set_cons_zero, List.set_cons_succ, i64_w, i32_w]
    rfl
  refine pure_ (i := 28) (N := some 121) (v := ?_) (a' := ?_) #[true, true, true, true, true, true, true, true, true, true, true, true, true, true, true, true, true, true, true, true, true, true, true, true, true, true, true, true, true, false, false, false, false, false, false, false, false, false, false, false, false, false, false, false, false, false, false, false, false, false, false, false, false, false] rfl rfl (any_of HT_.out (by kernel_rfl)) (fun _ _ _ h => h) (Or.inl ⟨by rfl, ?_⟩) ?_ ?_
  rotate_left
  · intro w'
    go_simp
    with_reducible rfl
  rotate_left
  · simp only [Act.put, List.setIfInBounds_toArray, List.set_cons_zero, List.set_cons_succ, i64_w, i32_w]
    rfl
  refine pure_ (i := 29) (N := some 122) (v := ?_) (a' := ?_) #[true, true, true, true, true, true, true, true, true, true, true, true, true, true, true, true, true, true, true, true, true, true, true, true, true, true, true, true, true, true, false, false, false, false, false, false, false, false, false, false, false, false, false, false, false, false, false, false, false, false, false, false, false, false] rfl rfl (any_of HT_.out (by kernel_rfl)) (fun _ _ _ h => h) (Or.inl ⟨by rfl, ?_⟩) ?_ ?_
  rotate_left
  · intro w'
    go_simp
    with_reducible rfl
  rotate_left
  · simp only [Act.put, List.setIfInBounds_toArray, List.set_cons_zero, List.set_cons_succ, i64_w, i32_w]
    rfl
  refine pure_ (i := 30) (N := some 123) (v := ?_) (a' := ?_) #[true, true, true, true, true, true, true, true, true, true, true, true, true, true, true, true, true, true, true, true, true, true, true, true, true, true, true, true, true, true, true, false, false, false, false, false, false, false, false, false, false, false, false, false, false, false, false, false, false, false, false, false, false, false] rfl rfl (any_of HT_.out (by kernel_rfl)) (fun _ _ _ h => h) (Or.inl ⟨by rfl, ?_⟩) ?_ ?_
  rotate_left
  · intro w'
    go_simp
    with_reducible rfl
  rotate_left
  · simp only [Act.put, List.setIfInBounds_toArray, List.set_cons_zero, List.set_cons_succ, i64_w, i32_w]
    rfl
  refine pure_ (i := 31) (N := some 124) (v := ?_) (a' := ?_) #[true, true, true, true, true, true, true, true, true, true, true, true, true, true, true, true, true, true, true, true, true, true, true, true, true, true, true, true, true, true, true, true, false, false, false, false, false, false, false, false, false, false, false, false, false, false, false, false, false, false, false, false, false, false] rfl rfl (any_of HT_.out (by kernel_rfl)) (fun _ _ _ h => h) (Or.inl ⟨by rfl, ?_⟩) ?_ ?_
  rotate_left
  · intro w'
    go_simp
    with_reducible rfl
  rotate_left
  · simp only [Act.put, List.setIfInBounds_toArray, List.set_cons_zero, List.set_cons_succ, i64_w, i32_w]
    rfl
  refine pure_ (i := 32) (N := some 125) (v := ?_) (a' := ?_) #[true, true, true, true, true, true, true, true, true, true, true, true, true, true, true, true, true, true, true, true, true, true, true, true, true, true, true, true, true, true, true, true, true, false, false, false, false, false, false, false, false, false, false, false, false, false, false, false, false, false, false, false, false, false] rfl rfl (any_of HT_.out (by kernel_rfl)) (fun _ _ _ h => h) (Or.inl ⟨by rfl, ?_⟩) ?_ ?_
  rotate_left
  · intro w'
    go_simp
    with_reducible rfl
  rotate_left
  · simp only [Act.put, List.setIfInBounds_toArray, List.set_cons_zero, List.set_cons_succ, i64_w, i32_w]
    rfl
  refine pure_ (i := 33) (N := some 126) (v := ?_) (a' := ?_) #[true, true, true, true, true, true, true, true, true, true, true, true, true, true, true, true, true, true, true, true, true, true, true, true, true, true, true, true, true, true, true, true, true, true, false, false, false, false, false, false, false, false, false, false, false, false, false, false, false, false, false, false, false, false] rfl rfl (any_of HT_.out (by kernel_rfl)) (fun _ _ _ h => h) (Or.inl ⟨by rfl, ?_⟩) ?_ ?_
  rotate_left
  · intro w'
    go_simp
    with_reducible rfl
  rotate_left
  · simp only [Act.put, List.setIfInBounds_toArray, List.set_cons_zero, List.set_cons_succ, i64_w, i32_w]
    rfl
  refine take_ (i := 34) (N := some 127) (v := ?_) (a' := ?_) #[true, true, true, true, true, true, true, true, true, true, true, true, true, true, true, true, true, true, true, true, true, true, true, true, true, true, true, true, true, true, true, true, true, true, true, false, false, false, false, false, false, false, false, false, false, false, false, false, false, false, false, false, false, false] rfl rfl (take_ofW HT_.out HW_.out (by kernel_rfl)) (fun _ _ _ h => h) (Or.inl ⟨by rfl, ?_⟩) hHeld ?_ ?_
  rotate_left
  · rintro w' ⟨s0, s1, s2, s3, s4, s5, s6, s7, s8, s9, s10, s11, s12, s13, s14⟩
    go_simp
    with_reducible rfl
  rotate_left
  · simp only [Act.put, List.setIfInBounds_toArray, List.set_cons_zero, List.set_cons_succ, i64_w, i32_w]
    rfl
  refine take_ (i := 35) (N := some 128) (v := ?_) (a' := ?_) #[true, true, true, true, true, true, true, true, true, true, true, true, true, true, true, true, true, true, true, true, true, true, true, true, true, true, true, true, true, true, true, true, true, true, true, true, false, false, false, false, false, false, false, false, false, false, false, false, false, false, false, false, false, false] rfl rfl (take_ofW HT_.out HW_.out (by kernel_rfl)) (fun _ _ _ h => h) (Or.inl ⟨by rfl, ?_⟩) hHeld ?_ ?_
  rotate_left
  · rintro w' ⟨s0, s1, s2, s3, s4, s5, s6, s7, s8, s9, s10, s11, s12, s13, s14⟩
    go_simp
    with_reducible rfl
  rotate_left
  · simp only [Act.put, List.setIfInBounds_toArray, List.set_cons_zero, List.set_cons_succ, i64_w, i32_w]
    rfl
  refine pure_ (i := 36) (N := some 129) (v := ?_) (a' := ?_) #[true, true, true, true, true, true, true, true, true, true, true, true, true, true, true, true, true, true, true, true, true, true, true, true, true, true, true, true, true, true, true, true, true, true, true, true, true, false, false, false, false, false, false, false, false, false, false, false, false, false, false, false, false, false] rfl rfl (any_of HT_.out (by kernel_rfl)) (fun _ _ _ h => h) (Or.inl ⟨by rfl, ?_⟩) ?_ ?_
  rotate_left
  · intro w'
    go_simp
    with_reducible rfl
  rotate_left
  · simp only [Act.put, List.setIfInBounds_toArray, List.set_cons_zero, List.set_cons_succ, i64_w, i32_w]
    rfl
  refine pure_ (i := 37) (N := some 130) (v := ?_) (a' := ?_) #[true, true, true, true, true, true, true, true, true, true, true, true, true, true, true, true, true, true, true, true, true, true, true, true, true, true, true, true, true, true, true, true, true, true, true, true, true, true, false, false, false, false, false, false, false, false, false, false, false, false, false, false, false, false] rfl rfl (any_of HT_.out (by kernel_rfl)) (fun _ _ _ h => h) (Or.inl ⟨by rfl, ?_⟩) ?_ ?_
  rotate_left
  · intro w'
    go_simp
    with_reducible rfl
  rotate_left
  · simp only [Act.put, List.setIfInBounds_toArray, List.set_cons_zero, List.set_cons_succ, i64_w, i32_w]
    rfl
  refine pure_ (i := 38) (N := some 131) (v := ?_) (a' := ?_) #[true, true, true, true, true, true, true, true, true, true, true, true, true, true, true, true, true, true, true, true, true, true, true, true, true, true, true, true, true, true, true, true, true, true, true, true, true, true, true, false, false, false, false, false, false, false, false, false, false, false, false, false, false, false] rfl rfl (any_of HT_.out (by kernel_rfl)) (fun _ _ _ h => h) (Or.inl ⟨by rfl, ?_⟩) ?_ ?_
  rotate_left
  · intro w'
    go_simp
    with_reducible rfl
  rotate_left
  · simp only [Act.put, List.setIfInBounds_toArray, List.set_cons_zero, List.set_cons_succ, i64_w, i32_w]
    rfl
  refine pure_ (i := 39) (N := some 132) (v := ?_) (a' := ?_) #[true, true, true, true, true, true, true, true, true, true, true, true, true, true, true, true, true, true, true, true, true, true, true, true, true, true, true, true, true, true, true, true, true, true, true, true, true, true, true, true, false, false, false, false, false, false, false, false, false, false, false, false, false, false] rfl rfl (any_of HT_.out (by kernel_rfl)) (fun _ _ _ h => h) (Or.inl ⟨by rfl, ?_⟩) ?_ ?_
  rotate_left
  · intro w'
    go_simp
    with_reducible rfl
  rotate_left
  · simp only [Act.put, List.setIfInBounds_toArray, List.set_cons_zero, List.set_cons_succ, i64_w, i32_w]
    rfl
  refine pure_ (i := 40) (N := some 133) (v := ?_) (a' := ?_) #[true, true, true, true, true, true, true, true, true, true, true, true, true, true, true, true, true, true, true, true, true, true, true, true, true, true, true, true, true, true, true, true, true, true, true, true, true, true, true, true, true, false, false, false, false, false, false, false, false, false, false, false, false, false] rfl rfl (any_of HT_.out (by kernel_rfl)) (fun _ _ _ h => h) (Or.inl ⟨by rfl, ?_⟩) ?_ ?_
  rotate_left
  · intro w'
    go_simp
    with_reducible rfl
  rotate_left
  · simp only [Act.put, List.setIfInBounds_toArray, List.set_cons_zero, List.set_cons_succ, i64_w, i32_w]
    rfl
  refine pure_ (i := 41) (N := some 134) (v := ?_) (a' := ?_) #[true, true, true, true, true, true, true, true, true, true, true, true, true, true, true, true, true, true, true, true, true, true, true, true, true, true, true, true, true, true, true, true, true, true, true, true, true, true, true, true, true, true, false, false, false, false, false, false, false, false, false, false, false, false] rfl rfl (any_of HT_.out (by kernel_rfl)) (fun _ _ _ h => h) (Or.inl ⟨by rfl, ?_⟩) ?_ ?_
  rotate_left
  · intro w'
    go_simp
    with_reducible rfl
  rotate_left
  · simp only [Act.put, List.setIfInBounds_toArray, List.set_cons_zero, List.set_cons_succ, i64_w, i32_w]
    rfl
  refine pure_ (i := 42) (N := some 135) (v := ?_) (a' := ?_) #[true, true, true, true, true, true, true, true, true, true, true, true, true, true, true, true, true, true, true, true, true, true, true, true, true, true, true, true, true, true, true, true, true, true, true, true, true, true, true, true, true, true, true, false, false, false, false, false, false, false, false, false, false, false] rfl rfl (any_of HT_.out (by kernel_rfl)) (fun _ _ _ h => h) (Or.inl ⟨by rfl, ?_⟩) ?_ ?_
  rotate_left
  · intro w'
    go_simp
    with_reducible rfl
  rotate_left
  · simp only [Act.put, List.setIfInBounds_toArray, List.set_cons_zero, List.set_cons_succ, i64_w, i32_w]
    rfl
  refine pure_ (i := 43) (N := some 136) (v := ?_) (a' := ?_) #[true, true, true, true, true, true, true, true, true, true, true, true, true, true, true, true, true, true, true, true, true, true, true, true, true, true, true, true, true, true, true, true, true, true, true, true, true, true, true, true, true, true, true, true, false, false, false, false, false, false, false, false, false, false] rfl rfl (any_of HT_.out (by kernel_rfl)) (fun _ _ _ h => h) (Or.inl ⟨by rfl, ?_⟩) ?_ ?_
  rotate_left
  · intro w'
    go_simp
    with_reducible rfl
  rotate_left
  · simp only [Act.put, List.setIfInBounds_toArray, List.set_cons_zero, List.set_cons_succ, i64_w, i32_w]
    rfl
  refine pure_ (i := 44) (N := some 137) (v := ?_) (a' := ?_) #[true, true, true, true, true, true, true, true, true, true, true, true, true, true, true, true, true, true, true, true, true, true, true, true, true, true, true, true, true, true, true, true, true, true, true, true, true, true, true, true, true, true, true, true, true, false, false, false, false, false, false, false, false, false] rfl rfl (any_of HT_.out (by kernel_rfl)) (fun _ _ _ h => h) (Or.inl ⟨by rfl, ?_⟩) ?_ ?_
  rotate_left
  · intro w'
    go_simp
    with_reducible rfl
  rotate_left
  · simp only [Act.put, List.setIfInBounds_toArray, List.set_cons_zero, List.set_cons_succ, i64_w, i32_w]
    rfl
  refine pure_ (i := 45) (N := some 138) (v := ?_) (a' := ?_) #[true, true, true, true, true, true, true, true, true, true, true, true, true, true, true, true, true, true, true, true, true, true, true, true, true, true, true, true, true, true, true, true, true, true, true, true, true, true, true, true, true, true, true, true, true, true, false, false, false, false, false, false, false, false] rfl rfl (any_of HT_.out (by kernel_rfl)) (fun _ _ _ h => h) (Or.inl ⟨by rfl, ?_⟩) ?_ ?_
  rotate_left
  · intro w'
    go_simp
    with_reducible rfl
  rotate_left
  · simp only [Act.put, List.setIfInBounds_toArray, List.set_cons_zero, List.set_cons_succ, i64_w, i32_w]
    rfl
  refine pure_ (i := 46) (N := some 139) (v := ?_) (a' := ?_) #[true, true, true, true, true, true, true, true, true, true, true, true, true, true, true, true, true, true, true, true, true, true, true, true, true, true, true, true, true, true, true, true, true, true, true, true, true, true, true, true, true, true, true, true, true, true, true, false, false, false, false, false, false, false] rfl rfl (any_of HT_.out (by kernel_rfl)) (fun _ _ _ h => h) (Or.inl ⟨by rfl, ?_⟩) ?_ ?_
  rotate_left
  · intro w'
    go_simp
    with_reducible rfl
  rotate_left
  · simp only [Act.put, List.setIfInBounds_toArray, List.set_cons_zero, List.set_cons_succ, i64_w, i32_w]
    rfl
  refine pure_ (i := 47) (N := some 140) (v := ?_) (a' := ?_) #[true, true, true, true, true, true, true, true, true, true, true, true, true, true, true, true, true, true, true, true, true, true, true, true, true, true, true, true, true, true, true, true, true, true, true, true, true, true, true, true, true, true, true, true, true, true, true, true, false, false, false, false, false, false] rfl rfl (any_of HT_.out (by kernel_rfl)) (fun _ _ _ h => h) (Or.inl ⟨by rfl, ?_⟩) ?_ ?_
  rotate_left
  · intro w'
    go_simp
    with_reducible rfl
  rotate_left
  · simp only [Act.put, List.setIfInBounds_toArray, List.set_cons_zero, List.set_cons_succ, i64_w, i32_w]
    rfl
  refine pure_ (i := 48) (N := some 141) (v := ?_) (a' := ?_) #[true, true, true, true, true, true, true, true, true, true, true, true, true, true, true, true, true, true, true, true, true, true, true, true, true, true, true, true, true, true, true, true, true, true, true, true, true, true, true, true, true, true, true, true, true, true, true, true, true, false, false, false, false, false] rfl rfl (any_of HT_.out (by kernel_rfl)) (fun _ _ _ h => h) (Or.inl ⟨by rfl, ?_⟩) ?_ ?_
  rotate_left
  · intro w'
    go_simp
    with_reducible rfl
  rotate_left
  · simp only [Act.put, List.setIfInBounds_toArray, List.set_cons_zero, List.set_cons_succ, i64_w, i32_w]
    rfl
  refine pure_ (i := 49) (N := some 142) (v := ?_) (a' := ?_) #[true, true, true, true, true, true, true, true, true, true, true, true, true, true, true, true, true, true, true, true, true, true, true, true, true, true, true, true, true, true, true, true, true, true, true, true, true, true, true, true, true, true, true, true, true, true, true, true, true, true, false, false, false, false] rfl rfl (any_of HT_.out (by kernel_rfl)) (fun _ _ _ h => h) (Or.inl ⟨by rfl, ?_⟩) ?_ ?_
  rotate_left
  · intro w'
    go_simp
    with_reducible rfl
  rotate_left
  · simp only [Act.put, List.setIfInBounds_toArray, List.set_cons_zero, List.set_cons_succ, i64_w, i32_w]
    rfl
  refine pure_ (i := 50) (N := some 143) (v := ?_) (a' := ?_) #[true, true, true, true, true, true, true, true, true, true, true, true, true, true, true, true, true, true, true, true, true, true, true, true, true, true, true, true, true, true, true, true, true, true, true, true, true, true, true, true, true, true, true, true, true, true, true, true, true, true, true, false, false, false] rfl rfl (any_of HT_.out (by kernel_rfl)) (fun _ _ _ h => h) (Or.inl ⟨by rfl, ?_⟩) ?_ ?_
  rotate_left
  · intro w'
    go_simp
    with_reducible rfl
  rotate_left
  · simp only [Act.put, List.setIfInBounds_toArray, List.set_cons_zero, List.set_cons_succ, i64_w, i32_w]
    rfl
  refine pure_ (i := 51) (N := some 144) (v := ?_) (a' := ?_) #[true, true, true, true, true, true, true, true, true, true, true, true, true, true, true, true, true, true, true, true, true, true, true, true, true, true, true, true, true, true, true, true, true, true, true, true, true, true, true, true, true, true, true, true, true, true, true, true, true, true, true, true, false, false] rfl rfl (any_of HT_.out (by kernel_rfl)) (fun _ _ _ h => h) (Or.inl ⟨by rfl, ?_⟩) ?_ ?_
  rotate_left
  · intro w'
    go_simp
    with_reducible rfl
  rotate_left
  · simp only [Act.put, List.setIfInBounds_toArray, List.set_cons_zero, List.set_cons_succ, i64_w, i32_w]
    rfl
  refine pure_ (i := 52) (N := some 145) (v := ?_) (a' := ?_) #[true, true, true, true, true, true, true, true, true, true, true, true, true, true, true, true, true, true, true, true, true, true, true, true, true, true, true, true, true, true, true, true, true, true, true, true, true, true, true, true, true, true, true, true, true, true, true, true, true, true, true, true, true, false] rfl rfl (any_of HT_.out (by kernel_rfl)) (fun _ _ _ h => h) (Or.inl ⟨by rfl, ?_⟩) ?_ ?_
  rotate_left
  · intro w'
    go_simp
    with_reducible rfl
  rotate_left
  · simp only [Act.put, List.setIfInBounds_toArray, List.set_cons_zero, List.set_cons_succ, i64_w, i32_w]
    rfl
  refine pure_ (i := 53) (N := some 2) (v := ?_) (a' := ?_) #[true, true, true, true, true, true, true, true, true, true, true, true, true, true, true, true, true, true, true, true, true, true, true, true, true, true, true, true, true, true, true, true, true, true, true, true, true, true, true, true, true, true, true, true, true, true, true, true, true, true, true, true, true, true] rfl rfl (any_of HT_.out (by kernel_rfl)) (fun _ _ _ h => h) (Or.inl ⟨by rfl, ?_⟩) ?_ ?_
  rotate_left
  · intro w'
    go_simp
    with_reducible rfl
  rotate_left
  · simp only [Act.put, List.setIfInBounds_toArray, List.set_cons_zero, List.set_cons_succ, i64_w, i32_w]
    rfl
  refine done_ (done_of HT_.out (by kernel_rfl)) ?_
  clear hHeld HT_ HW_
  try go_wp2
  go_ret
  exact ⟨rfl, HB16.out⟩
def assartlaw03_SlotTells.f (a0_0 : Int) (a0_1 : Int) (a0_2 : Int) (a0_3 : ByteArray) (a0_4 : ByteArray) (l0_5 : List Int) : Option Bool := if l0_5.all (fun x => decide (0 ≤ x ∧ x < 256)) = true then some true else none
theorem assartlaw03_SlotTells.calls (a0_0 : Int) (a0_1 : Int) (a0_2 : Int) (a0_3 : ByteArray) (a0_4 : ByteArray) (A0_5 : Option Addr) (c0_5 : Nat) (l0_5 : List Int) (r : Bool) (w : World) (hr0_5 : Kd.C (Kd.int .u8) w A0_5 l0_5.length l0_5) (hc0_5 : l0_5.length ≤ c0_5) (h : assartlaw03_SlotTells.f a0_0 a0_1 a0_2 a0_3 a0_4 l0_5 = some r) :
    Calls Try.prog 3 #[.agg #[.int .i64 a0_0, .int .i64 a0_1, .int .i64 a0_2, .string a0_3, .string a0_4, .slice A0_5 l0_5.length c0_5]] w fun e w' => e = .returned (.bool r) ∧ Below w.heap.size w w' := by
  unfold assartlaw03_SlotTells.f at h
  by_cases hall : l0_5.all (fun x => decide (0 ≤ x ∧ x < 256)) = true
  · rw [if_pos hall] at h
    obtain rfl := Option.some.inj h
    have hl : ∀ x ∈ l0_5, 0 ≤ x ∧ x < 256 := fun x hx => of_decide_eq_true (List.all_eq_true.mp hall x hx)
    by_cases h1 : 200 < a0_3.size
    · exact SlotTells_a _ _ _ _ _ _ _ _ _ hr0_5 hc0_5 h1
    by_cases h2 : 200 < a0_4.size
    · exact SlotTells_b _ _ _ _ _ _ _ _ _ hr0_5 hc0_5 h1 h2
    by_cases h3 : 1000 < l0_5.length
    · exact SlotTells_l _ _ _ _ _ _ _ _ _ hr0_5 hc0_5 h1 h2 h3
    have hsm : num_Sum.f l0_5 = some (crc l0_5) := by unfold num_Sum.f; rw [if_pos (by omega)]; rfl
    have hrs := refSum_val l0_5 (by omega) hl 20000 (by omega)
    obtain ⟨⟨x, xe⟩, hp⟩ : ∃ r, slot_Print.f a0_0 a0_1 a0_2 = some r := by
      by_cases hr : Rt a0_0 a0_1 a0_2
      · exact ⟨_, print_ok hr⟩
      · exact ⟨_, print_bad hr⟩
    obtain ⟨⟨p1, p2, p3, pe⟩, hq⟩ : ∃ r, slot_Parse.f a0_3 = some r := by
      rcases parse_cases a0_3 with h | ⟨_, _, _, _, _, h⟩ <;> exact ⟨_, h⟩
    obtain ⟨⟨k1, k2, k3, k4, k5⟩, hk⟩ := pick_some 19999 a0_3 a0_4
    have hR : slot_Right.f a0_0 a0_1 a0_2 = some (decide (Rt a0_0 a0_1 a0_2)) := by
      by_cases hr : Rt a0_0 a0_1 a0_2
      · rw [decide_eq_true hr]
        exact (right_iff _ _ _).2 hr
      · rw [decide_eq_false hr]
        have := mt (right_iff a0_0 a0_1 a0_2).1 hr
        unfold slot_Right.f at this ⊢
        simp only [Option.some.injEq] at this ⊢
        exact Bool.eq_false_iff.2 this
    exact SlotTells_all _ _ _ _ _ _ _ _ _ hr0_5 hc0_5 h1 h2 h3 x xe p1 p2 p3 pe k1 k2 k3 k4 k5 _ _ _ hp hq hk (by unfold slot_Book.f; rw [hsm]; rfl) (by unfold assartref03_Book.f; rw [hrs]; rfl) hR (refRight_val _ _ _)
  · rw [if_neg hall] at h
    cases h
end Go.Proofs.Ythjnkapkhphpeaa.P
end
section
/- Arguments that read as data, opened kind by kind: what the printed functions ask of their parameters. -/
namespace Go.Proofs.Ythjnkapkhphpeaa.P
open Go.RowKit Go.Proofs.YthjnkapkhphpeaaW.PrintWords Go.Proofs.YthjnkapkhphpeaaW.PrintLast Go.Proofs.YthjnkapkhphpeaaW.PrintMore
set_option linter.unusedVariables false
set_option linter.unusedSimpArgs false
/-- Whatever reads at type t is a value of kind d, and such as ok says. -/
structure Opens {α : Type} (P : Program) (t : TypeId) (d : Kd α) (ok : α → Prop) : Prop where
  sz : P.cellsOf t = d.sz
  op : ∀ {H : Type} {enc : TypeId × Value → H} {W : World} {base : Nat} {spare : Nat → Bool} {held : Bool} {fuel : Nat} {cs : List Value} {y : DataW H × List MemPlace}, DataW.trod enc P W base spare held fuel t cs = some y → (DataW.weights P t y.1).all (· ≤ reachBytes) = true → ∃ x, d.K W x cs ∧ ok x
theorem Opens.int {P : Program} {t : TypeId} {k : IntKind} (h : P.underlying t = some (.int k)) (hs : P.cellsOf t = 1) : Opens P t (Kd.int k) (fun n => (Lit.int k n).wf = true) :=
  ⟨hs, fun hy _ => by
    obtain ⟨n, rfl, _, hw⟩ := DataW.trod_int h hy
    exact ⟨n, rfl, hw⟩⟩
theorem Opens.bool {P : Program} {t : TypeId} (h : P.underlying t = some .bool) (hs : P.cellsOf t = 1) : Opens P t Kd.bool (fun _ => True) :=
  ⟨hs, fun hy _ => by
    obtain ⟨b, rfl, _⟩ := DataW.trod_bool h hy
    exact ⟨b, rfl, trivial⟩⟩
theorem Opens.string {P : Program} {t : TypeId} (h : P.underlying t = some .string) (hs : P.cellsOf t = 1) : Opens P t Kd.string (fun s => s.size ≤ 140737488351232) :=
  ⟨hs, fun hy hw => by
    obtain ⟨s, rfl, rfl, _⟩ := DataW.trod_string h hy
    refine ⟨s, rfl, ?_⟩
    have := hw
    simp [DataW.weights, reachBytes] at this
    exact of_decide_eq_true this⟩
theorem choose_row {α : Type} {R : Nat → α → Prop} : ∀ n, (∀ i, i < n → ∃ x, R i x) → ∃ xs : List α, xs.length = n ∧ ∀ i x, xs[i]? = some x → R i x
  | 0, _ => ⟨[], rfl, fun i x h => by simp at h⟩
  | n + 1, h => by
    obtain ⟨xs, hl, hx⟩ := choose_row n (fun i hi => h i (by omega))
    obtain ⟨x, hr⟩ := h n (by omega)
    refine ⟨xs ++ [x], by simp [hl], fun i z hz => ?_⟩
    by_cases hi : i < n
    · rw [List.getElem?_append_left (by omega)] at hz
      exact hx i z hz
    · rw [List.getElem?_append_right (by omega)] at hz
      have : i - xs.length = 0 := by
        rcases Nat.eq_zero_or_pos (i - xs.length) with h0 | h0
        · exact h0
        · rw [List.getElem?_eq_none (by simp; omega)] at hz; cases hz
      rw [this] at hz
      simp at hz
      subst hz
      have : i = n := by omega
      rw [this]; exact hr
theorem weightsAll_mem {H : Type} {P : Program} {e : TypeId} : ∀ {ds : List (DataW H)}, (DataW.weightsAll P e ds).all (· ≤ reachBytes) = true → ∀ d ∈ ds, (DataW.weights P e d).all (· ≤ reachBytes) = true
  | [], _, d, hd => by cases hd
  | a :: ds, h, d, hd => by
    simp only [DataW.weightsAll, List.all_append, Bool.and_eq_true] at h
    rcases List.mem_cons.1 hd with rfl | hd
    · exact h.1
    · exact weightsAll_mem h.2 d hd
theorem Opens.slice {α : Type} {P : Program} {t e : TypeId} {d : Kd α} {ok : α → Prop} {B : Nat} (h : P.underlying t = some (.slice e)) (hs : P.cellsOf t = 1) (hB : P.bytesOf e = B) (he : Opens P e d ok) : Opens P t (Kd.slice e d) (fun xs => xs.length * B ≤ 140737488351232 ∧ ∀ x ∈ xs, ok x) :=
  ⟨hs, fun {H enc W base spare held fuel cs y} hy hw => by
    rcases DataW.trod_slice h hy with ⟨rfl, rfl⟩ | ⟨a, len, cap, elems, rest, n, rfl, rfl, rfl, hb, hl, hc, hel, hi, _, _⟩
    · exact ⟨[], ⟨none, 0, rfl, Nat.le_refl _, Kd.C_nil _ _⟩, by simp⟩
    · unfold DataW.weights at hw
      rw [h] at hw
      simp only [List.all_cons, List.all_append, Bool.and_eq_true, decide_eq_true_eq, hB, List.length_map] at hw
      obtain ⟨hw0, hw1, _⟩ := hw
      have hx : ∀ i, i < len → ∃ x, ok x ∧ ∃ c, c.length = d.sz ∧ d.K W x c ∧ W.cells? base (a.add (i * d.sz)) d.sz = some c := by
        intro i hlt
        have h1 := hi i hlt
        rw [List.getElem?_eq_getElem (by omega)] at h1
        obtain ⟨c, hc1, hc2⟩ := Option.bind_eq_some_iff.1 h1
        obtain ⟨x, hK, hok⟩ := he.op hc2 (weightsAll_mem hw1 _ (List.mem_map_of_mem (List.getElem_mem _)))
        rw [he.sz] at hc1
        exact ⟨x, hok, c, d.K_len hK, hK, hc1⟩
      obtain ⟨xs, hxl, hxs⟩ := choose_row len hx
      refine ⟨xs, ⟨some a, cap, by rw [hxl], by omega, rfl, ?_, fun hpos => ⟨a, rfl, fun j p hj => ?_⟩⟩, ?_, ?_⟩
      · simp only [maxLen] at hc; omega
      · obtain ⟨_, c, hcl, hK, hcc⟩ := hxs j p hj
        refine ⟨c, hcl, hK, fun i u hu => ?_⟩
        obtain ⟨_, _, hcell⟩ := World.cells?_some hcc
        have hi : i < d.sz := by rw [← hcl]; exact (List.getElem?_eq_some_iff.1 hu).1
        have := hcell i hi
        rw [Addr.add_add] at this
        rw [this, hu]
      · rw [hxl, ← hel]
        refine Nat.le_trans (Nat.mul_le_mul_right _ (Nat.le_add_right _ _)) hw0
      · intro x hx
        obtain ⟨i, hlt, rfl⟩ := List.getElem_of_mem hx
        exact (hxs i _ (List.getElem?_eq_getElem hlt)).1⟩
theorem weights_at {H : Type} {P : Program} : ∀ {ts : List TypeId} {ds : List (DataW H)} {j : Nat} {t : TypeId} {d : DataW H}, (DataW.weightsEach P ts ds).all (· ≤ reachBytes) = true → ts[j]? = some t → ds[j]? = some d → (DataW.weights P t d).all (· ≤ reachBytes) = true
  | [], _, _, _, _, _, ht, _ => by simp at ht
  | _ :: _, [], _, _, _, _, _, hd => by simp at hd
  | t0 :: ts, d0 :: ds, 0, _, _, h, ht, hd => by
    simp only [List.getElem?_cons_zero, Option.some.injEq] at ht hd
    subst ht; subst hd
    simp only [DataW.weightsEach, List.all_append, Bool.and_eq_true] at h
    exact h.1
  | t0 :: ts, d0 :: ds, j + 1, _, _, h, ht, hd => by
    simp only [List.getElem?_cons_succ] at ht hd
    simp only [DataW.weightsEach, List.all_append, Bool.and_eq_true] at h
    exact weights_at h.2 ht hd
/-- A struct's fields from a place on. -/
structure OpensFs {α : Type} (P : Program) (fs : List Field) (off : Nat) (d : Kd α) (ok : α → Prop) : Prop where
  op : ∀ {H : Type} {enc : TypeId × Value → H} {W : World} {base : Nat} {spare : Nat → Bool} {held : Bool} {fuel : Nat} {cs : List Value} {ys : List (DataW H × List MemPlace)},
    (∀ (i : Nat) (f : Field), fs[i]? = some f → DataW.trod enc P W base spare held fuel f.type ((cs.drop f.offset).take (P.cellsOf f.type)) = ys[i]?) → ys.length = fs.length →
    (DataW.weightsEach P (fs.map (·.type)) (ys.map (·.1))).all (· ≤ reachBytes) = true → cs.length = off + d.sz → ∃ x, d.K W x (cs.drop off) ∧ ok x
theorem OpensFs.one {α : Type} {P : Program} {f : Field} {t : TypeId} {off : Nat} {d : Kd α} {ok : α → Prop} (ht : f.type = t) (hoff : f.offset = off) (h : Opens P t d ok) : OpensFs P [f] off d ok :=
  ⟨fun {H enc W base spare held fuel cs ys} hy hl hw hcs => by
    obtain ⟨y, rfl⟩ : ∃ y, ys = [y] := by
      cases ys with
      | nil => simp at hl
      | cons y ys => cases ys with
        | nil => exact ⟨y, rfl⟩
        | cons => simp at hl
    have h0 := hy 0 f rfl
    simp only [List.getElem?_cons_zero] at h0
    simp only [List.map_cons, List.map_nil, DataW.weightsEach, List.append_nil] at hw
    rw [ht] at h0 hw
    obtain ⟨x, hK, hok⟩ := h.op h0 hw
    rw [hoff, List.take_of_length_le (by rw [List.length_drop, h.sz]; omega)] at hK
    exact ⟨x, hK, hok⟩⟩
theorem OpensFs.cons {α β : Type} {P : Program} {f : Field} {fs : List Field} {t : TypeId} {off n : Nat} {d : Kd α} {d' : Kd β} {ok : α → Prop} {ok' : β → Prop} (ht : f.type = t) (hoff : f.offset = off) (h : Opens P t d ok) (hn : off + d.sz = n) (hr : OpensFs P fs n d' ok') :
    OpensFs P (f :: fs) off (Kd.pair d d') (fun x => ok x.1 ∧ ok' x.2) :=
  ⟨fun {H enc W base spare held fuel cs ys} hy hl hw hcs => by
    cases ys with
    | nil => simp at hl
    | cons y ys =>
      have h0 := hy 0 f rfl
      simp only [List.getElem?_cons_zero] at h0
      simp only [List.map_cons, DataW.weightsEach, List.all_append, Bool.and_eq_true] at hw
      have hw0 := hw.1
      rw [ht] at h0 hw0
      obtain ⟨x, hK, hok⟩ := h.op h0 hw0
      have hsz : (Kd.pair d d').sz = d.sz + d'.sz := rfl
      rw [hsz] at hcs
      obtain ⟨x', hK', hok'⟩ := hr.op (fun i g hg => hy (i + 1) g (by simpa using hg)) (by simpa using hl) hw.2 (by omega)
      refine ⟨(x, x'), ⟨_, _, ?_, hK, hK'⟩, hok, hok'⟩
      rw [hoff, h.sz, ← hn, ← List.drop_drop]
      exact (List.take_append_drop _ _).symm⟩
theorem Opens.struct {α β : Type} {P : Program} {t : TypeId} {fs : Array Field} {fl : List Field} {d : Kd α} {ok : α → Prop} (f : β → α) (g : α → β) (hfg : ∀ x, f (g x) = x) (h : P.underlying t = some (.struct fs)) (hfl : fs.toList = fl) (hs : P.cellsOf t = d.sz) (ho : OpensFs P fl 0 d ok) :
    Opens P t (Kd.iso d f) (fun x => ok (f x)) :=
  ⟨hs, fun {H enc W base spare held fuel cs y} hy hw => by
    obtain ⟨xs, n, rfl, rfl, hcl, hxl, hx⟩ := DataW.trod_struct h hy
    unfold DataW.weights at hw
    rw [h] at hw
    simp only [hfl] at hw
    subst hfl
    obtain ⟨x, hK, hok⟩ := ho.op (ys := xs) (fun i f hf => hx i f (by simpa using hf)) (by simpa using hxl) hw (by omega)
    rw [List.drop_zero] at hK
    refine ⟨g x, ?_, ?_⟩
    · show d.K W (f (g x)) cs
      rw [hfg]; exact hK
    · rw [hfg]; exact hok⟩
end Go.Proofs.Ythjnkapkhphpeaa.P
end
section
-- Written by a program of this session (xprint.py, over the kit's print). Not trusted: Lean checks it.
namespace Go.Proofs.Ythjnkapkhphpeaa.P
open Go.RowKit Go.Proofs.YthjnkapkhphpeaaW.PrintWords Go.Proofs.YthjnkapkhphpeaaW.PrintLast Go.Proofs.YthjnkapkhphpeaaW.PrintMore
attribute [local go_sem] max2_int min2_int max_two min_two max_three min_three max_four min_four   -- for this text's walks alone
set_option linter.unusedVariables false
set_option linter.unusedSimpArgs false

def assartlaw03_SlotTells.QPure : Prop := ∀ (a0_0 : Int) (a0_1 : Int) (a0_2 : Int) (a0_3 : ByteArray) (a0_4 : ByteArray) (l0_5 : List Int), ((Lit.int .i64 a0_0).wf = true) → ((Lit.int .i64 a0_1).wf = true) → ((Lit.int .i64 a0_2).wf = true) → (a0_3.size ≤ 140737488351232) → (a0_4.size ≤ 140737488351232) → (l0_5.length * 1 ≤ 140737488351232 ∧ ∀ x ∈ l0_5, (fun x => (Lit.int .u8 x).wf = true) x) → assartlaw03_SlotTells.f a0_0 a0_1 a0_2 a0_3 a0_4 l0_5 = some true
end Go.Proofs.Ythjnkapkhphpeaa.P
end
section
/- SlotTells: which are right, their blocks, what any block tells, which of two counts, and what is told of a book, are as the document says. -/
namespace Go.Proofs.Ythjnkapkhphpeaa.Pure
open Go.RowKit Go.Proofs.Ythjnkapkhphpeaa.P Go.Proofs.YthjnkapkhphpeaaW.PrintWords Go.Proofs.YthjnkapkhphpeaaW.PrintLast

theorem SlotTells : assartlaw03_SlotTells.QPure := by
  intro g s m a b l _ _ _ _ _ ⟨_, hl⟩
  unfold assartlaw03_SlotTells.f
  rw [if_pos]
  rw [List.all_eq_true]
  intro x hx
  have := hl x hx
  simp [Lit.wf, IntKind.min, IntKind.max, IntKind.signed, IntKind.bits] at this
  simp
  omega
end Go.Proofs.Ythjnkapkhphpeaa.Pure
end
section
-- Written by a program of this session (xprint.py, over the kit's print). Not trusted: Lean checks it.
namespace Go.Proofs.Ythjnkapkhphpeaa.slotTells
open Go.ChangeShapes Go.WideShapes Go.ChangeAt Go.RowKit Go.Proofs.Ythjnkapkhphpeaa.P Go.Proofs.YthjnkapkhphpeaaW.PrintWords Go.Proofs.YthjnkapkhphpeaaW.PrintLast Go.Proofs.YthjnkapkhphpeaaW.PrintMore
open Go.ChangeMaps (open_string shut_string)
set_option linter.unusedVariables false
set_option linter.unusedSimpArgs false
theorem own : ownKnob Try.prog.godebug = none := by kernel_rfl
theorem laidOut : laidOutB Try.prog = true := by kernel_rfl
set_option maxHeartbeats 1000000 in
set_option maxRecDepth 100000 in
theorem lifted (os : Os) (started : os.Started) (H : Type) (enc : TypeId × Value → H) :
    ReturnsInHanded {} Try.checked os 3 .any (Rows.slotTellsSpec.pre6 enc Try.prog Try.f3 Rows.slotTellsRow.domain false) (Rows.slotTellsSpec.post enc Try.prog Try.f3 false true false false) := by
  refine returnsInHanded_of_change_sized (C := Try.checked) own started (by kernel_rfl) Try.func3
    (ChangeSpec.witness6 (enc := enc) (C := Try.checked) false ⟨#[], #[.agg #[.int .i64 0, .int .i64 0, .int .i64 0, .string ByteArray.empty, .string ByteArray.empty, .slice none 0 0]], []⟩ 8 (by kernel_rfl) (by kernel_rfl) (by kernel_rfl) (by kernel_rfl)) ?_
  intro W base args ds gs before hval0 hW hcnd hsz0 _
  have hsz : (DataW.weightsEach Try.prog (Try.f3.params.toList ++ Rows.slotTellsSpec.plain.varTypes Try.prog) (ds ++ gs)).all (· ≤ reachBytes) = true := hsz0
  have hval : ∀ (j : Nat) t v, Try.f3.params[j]? = some t → args[j]? = some v → Value.okWide Try.prog W .any base t v := hval0
  have hW' := hW
  obtain ⟨p, q, hA0, hV, rfl, hfz, hnd⟩ := hW
  have hA : DataW.TrodAll enc Try.prog W 0 (fun _ => true) true Try.f3.params.toList args.toList ds p := hA0
  rw [Try.params3] at hA hval hsz
  obtain ⟨v0, vs0, d0, ds0, p0, q0, hargs, rfl, rfl, h0, r0⟩ := trodAll_cons hA
  obtain ⟨rfl, rfl, rfl⟩ := trodAll_nil r0
  obtain rfl : args = #[v0] := by cases args; simp_all
  obtain ⟨rfl, rfl⟩ := trodVars_none hV
  have k0 := h0
  have lt0 : ∀ x ∈ p0, x.block < W.heap.size := by obtain ⟨m, hm⟩ := k0; exact DataW.trod_lt m _ _ _ hm
  have wt0 := weights_at hsz (j := 0) (t := 26) (d := d0) rfl rfl
  obtain ⟨fuel0, hf0⟩ := h0
  obtain ⟨x0, hK0, hok0⟩ := (Opens.struct (f := id) (g := id) (fun _ => rfl) Try.underlying26 rfl (by kernel_rfl) (OpensFs.cons rfl rfl (Opens.struct (f := id) (g := id) (fun _ => rfl) Try.underlying23 rfl (by kernel_rfl) (OpensFs.cons rfl rfl (Opens.int Try.underlying3 (by kernel_rfl)) rfl (OpensFs.cons rfl rfl (Opens.int Try.underlying3 (by kernel_rfl)) rfl (OpensFs.one rfl rfl (Opens.int Try.underlying3 (by kernel_rfl)))))) rfl (OpensFs.cons rfl rfl (Opens.string Try.underlying9 (by kernel_rfl)) rfl (OpensFs.cons rfl rfl (Opens.string Try.underlying9 (by kernel_rfl)) rfl (OpensFs.one rfl rfl (Opens.slice (B := 1) Try.underlying24 (by kernel_rfl) (by kernel_rfl) (Opens.int Try.underlying5 (by kernel_rfl)))))))).op hf0 wt0
  obtain ⟨cs0, rfl, hsz0⟩ := okWide_struct Try.underlying26 (hval 0 26 v0 rfl rfl)
  obtain ⟨⟨a0_0, a0_1, a0_2⟩, a0_3, a0_4, l0_5⟩ := x0
  obtain ⟨L0, hL0⟩ : ∃ L, (Value.agg cs0).cells.toList = L := ⟨_, rfl⟩
  rw [hL0] at hK0
  obtain ⟨_, _, rfl, ⟨_, _, rfl, rfl, ⟨_, _, rfl, rfl, rfl⟩⟩, ⟨_, _, rfl, rfl, ⟨_, _, rfl, rfl, ⟨A0_5, c0_5, rfl, hc0_5, hr0_5⟩⟩⟩⟩ := hK0
  obtain rfl : cs0 = #[.int .i64 a0_0, .int .i64 a0_1, .int .i64 a0_2, .string a0_3, .string a0_4, .slice A0_5 l0_5.length c0_5] := by have h := hL0; simp [Value.cells] at h; cases cs0; simp_all
  obtain ⟨⟨o0_0, o0_1, o0_2⟩, o0_3, o0_4, o0_5⟩ := hok0
  clear hA0 hval0 hsz0 hsz
  have h := Pure.SlotTells a0_0 a0_1 a0_2 a0_3 a0_4 l0_5 o0_0 o0_1 o0_2 o0_3 o0_4 o0_5
  refine (assartlaw03_SlotTells.calls a0_0 a0_1 a0_2 a0_3 a0_4 _ _ l0_5 true W hr0_5 hc0_5 h).mono fun e W' ⟨he, bel0⟩ => ?_
  have bel := bel0
  subst he
  exact ⟨_, rfl, _, _, _, [], _, [], hW', trodAll_mk1 (shut_bool Try.underlying4 _), (trodAll_cons_mk (Below.trod laidOut (by kernel_rfl) (of_decide_eq_true (by kernel_rfl)) k0 bel lt0) trodAll_mk0), rfl, bel.frame _, fun h => by cases h⟩
theorem over : Rows.slotTellsRow.holds Try.pinned (OpenSpec.ofChange Rows.slotTellsSpec) :=
  OpenClaim.holds_of_wide 3 Try.f3 rfl rfl rfl rfl rfl rfl rfl ⟨rfl, rfl, rfl, rfl, rfl⟩ rfl rfl rfl rfl rfl (by kernel_rfl) Try.func3 (by kernel_rfl)
    (of_decide_eq_true (by kernel_rfl)) (by unfold Func.isWrapper; first | (rw [if_pos (by decide +kernel)]; kernel_rfl) | (rw [if_neg (by decide +kernel)]; exact ⟨rfl, rfl⟩))
    (fun os started H enc _ => lifted os started H enc)
theorem proved : Rows.SlotTellsSaid := over
#print axioms proved
end Go.Proofs.Ythjnkapkhphpeaa.slotTells
namespace Go.Proofs.Ythjnkapkhphpeaa
/-- The row, under a short name, for the claim. -/
theorem slotTells_holds : Rows.SlotTellsSaid := slotTells.proved
end Go.Proofs.Ythjnkapkhphpeaa
end
