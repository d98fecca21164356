/- SlotPicks: of two the later one counts, in whichever block; a spoilt one never: the walk. -/
import Derived.Test.YthjnkapkhphpeaaHShown3
namespace Go.Proofs.Ythjnkapkhphpeaa.P
open Go.RowKit Go.Proofs.YthjnkapkhphpeaaW.PrintWords Go.Proofs.YthjnkapkhphpeaaW.PrintLast Go.Proofs.YthjnkapkhphpeaaW.PrintMore
attribute [local go_sem] max2_int min2_int max_two min_two max_three min_three max_four min_four
set_option linter.unusedVariables false
set_option linter.unusedSimpArgs false
set_option maxHeartbeats 8000000 in
set_option maxRecDepth 100000 in
theorem SlotPicks_s (g s m g' s' m' : Int) (odd : ByteArray) (w : World) (hs : ¬ Rt g s m) :
    Calls Try.prog 5 #[.agg #[.int .i64 g, .int .i64 s, .int .i64 m], .agg #[.int .i64 g', .int .i64 s', .int .i64 m'], .string odd] w fun e w' => e = .returned (.bool true) ∧ Below w.heap.size w w' := by
  have hu23 := Try.underlying23
  have HRS := Aside0.mk (show assartref03_Right.f g s m = some false by rw [refRight_val, decide_eq_false hs])
  clear hs
  go_enter Try.func5, Try.ntmps5
  go_wp2_with (first | ((with_reducible refine gate_dst (N := 3) rfl ?_); refine box_event ?hg (N := 3) ?hd (cs := #[.int .i64 g, .int .i64 s, .int .i64 m]) (t := 23) ?hr ?_; (case hd => rfl); (case hg => rfl); (case hr => first | (go_simp; done) | (go_simp; rfl)); intro g3 hg wb1 hbox hb; have HB1 := Aside0.mk hb; have HGg3 : Aside0 (w.heap.size ≤ g3) := ⟨by rw [hg]; exact Nat.le_refl _⟩; have HKg3_1 := Aside0.mk hbox; clear hb hbox hg) | ((with_reducible refine gate_dst (N := 4) rfl ?_); refine box_event ?hg (N := 4) ?hd (cs := #[.int .i64 g', .int .i64 s', .int .i64 m']) (t := 23) ?hr ?_; (case hd => rfl); (case hg => rfl); (case hr => first | (go_simp; done) | (go_simp; rfl)); intro g4 hg wb2 hbox hb; have HB2 := Aside0.mk (HB1.out.trans (hb.mono HB1.out.size)); have HGg4 : Aside0 (w.heap.size ≤ g4) := ⟨by rw [hg]; exact HB1.out.size⟩; have HKg4_2 := Aside0.mk hbox; have HKg3_2 := Aside0.mk (blk_below HKg3_1.out hb); clear hb hbox hg) | fail)
  refine (assartlaw03_shown.calls true _ rfl).mono ?_
  rintro e wc3 ⟨rfl, hb⟩
  have HB3 : Aside0 (Below w.heap.size w wc3) := ⟨HB2.out.trans (hb.mono HB2.out.size)⟩
  have HKg3_3 := Aside0.mk (blk_below HKg3_2.out hb)
  have HKg4_3 := Aside0.mk (blk_below HKg4_2.out hb)
  clear hb HB2 HKg3_2 HKg4_2
  have cg3_0_3 : wc3.cell? ⟨g3, 0, none⟩ = some (.int .i64 g) := (blk_cell HKg3_3.out 0).trans rfl
  have cg3_1_3 : wc3.cell? ⟨g3, 1, none⟩ = some (.int .i64 s) := (blk_cell HKg3_3.out 1).trans rfl
  have cg3_2_3 : wc3.cell? ⟨g3, 2, none⟩ = some (.int .i64 m) := (blk_cell HKg3_3.out 2).trans rfl
  go_wp2_with fail
  refine (assartref03_Right.calls _ _ _ _ _ HRS.out).mono ?_
  rintro e wc4 ⟨rfl, hb⟩
  have HB4 : Aside0 (Below w.heap.size w wc4) := ⟨HB3.out.trans (hb.mono HB3.out.size)⟩
  have HKg3_4 := Aside0.mk (blk_below HKg3_3.out hb)
  have HKg4_4 := Aside0.mk (blk_below HKg4_3.out hb)
  clear cg3_0_3 cg3_1_3 cg3_2_3
  clear hb HB3 HKg3_3 HKg4_3
  have cg4_0_4 : wc4.cell? ⟨g4, 0, none⟩ = some (.int .i64 g') := (blk_cell HKg4_4.out 0).trans rfl
  have cg4_1_4 : wc4.cell? ⟨g4, 1, none⟩ = some (.int .i64 s') := (blk_cell HKg4_4.out 1).trans rfl
  have cg4_2_4 : wc4.cell? ⟨g4, 2, none⟩ = some (.int .i64 m') := (blk_cell HKg4_4.out 2).trans rfl
  go_wp2
  go_ret
  exact ⟨rfl, HB4.out⟩
set_option maxHeartbeats 8000000 in
set_option maxRecDepth 100000 in
theorem SlotPicks_t (g s m g' s' m' : Int) (odd : ByteArray) (w : World) (hs : Rt g s m) (ht : ¬ Rt g' s' m') :
    Calls Try.prog 5 #[.agg #[.int .i64 g, .int .i64 s, .int .i64 m], .agg #[.int .i64 g', .int .i64 s', .int .i64 m'], .string odd] w fun e w' => e = .returned (.bool true) ∧ Below w.heap.size w w' := by
  have hu23 := Try.underlying23
  have HRS := Aside0.mk (show assartref03_Right.f g s m = some true by rw [refRight_val, decide_eq_true hs])
  have HRT := Aside0.mk (show assartref03_Right.f g' s' m' = some false by rw [refRight_val, decide_eq_false ht])
  clear hs ht
  go_enter Try.func5, Try.ntmps5
  go_wp2_with (first | ((with_reducible refine gate_dst (N := 3) rfl ?_); refine box_event ?hg (N := 3) ?hd (cs := #[.int .i64 g, .int .i64 s, .int .i64 m]) (t := 23) ?hr ?_; (case hd => rfl); (case hg => rfl); (case hr => first | (go_simp; done) | (go_simp; rfl)); intro g3 hg wb1 hbox hb; have HB1 := Aside0.mk hb; have HGg3 : Aside0 (w.heap.size ≤ g3) := ⟨by rw [hg]; exact Nat.le_refl _⟩; have HKg3_1 := Aside0.mk hbox; clear hb hbox hg) | ((with_reducible refine gate_dst (N := 4) rfl ?_); refine box_event ?hg (N := 4) ?hd (cs := #[.int .i64 g', .int .i64 s', .int .i64 m']) (t := 23) ?hr ?_; (case hd => rfl); (case hg => rfl); (case hr => first | (go_simp; done) | (go_simp; rfl)); intro g4 hg wb2 hbox hb; have HB2 := Aside0.mk (HB1.out.trans (hb.mono HB1.out.size)); have HGg4 : Aside0 (w.heap.size ≤ g4) := ⟨by rw [hg]; exact HB1.out.size⟩; have HKg4_2 := Aside0.mk hbox; have HKg3_2 := Aside0.mk (blk_below HKg3_1.out hb); clear hb hbox hg) | fail)
  refine (assartlaw03_shown.calls true _ rfl).mono ?_
  rintro e wc3 ⟨rfl, hb⟩
  have HB3 : Aside0 (Below w.heap.size w wc3) := ⟨HB2.out.trans (hb.mono HB2.out.size)⟩
  have HKg3_3 := Aside0.mk (blk_below HKg3_2.out hb)
  have HKg4_3 := Aside0.mk (blk_below HKg4_2.out hb)
  clear hb HB2 HKg3_2 HKg4_2
  have cg3_0_3 : wc3.cell? ⟨g3, 0, none⟩ = some (.int .i64 g) := (blk_cell HKg3_3.out 0).trans rfl
  have cg3_1_3 : wc3.cell? ⟨g3, 1, none⟩ = some (.int .i64 s) := (blk_cell HKg3_3.out 1).trans rfl
  have cg3_2_3 : wc3.cell? ⟨g3, 2, none⟩ = some (.int .i64 m) := (blk_cell HKg3_3.out 2).trans rfl
  go_wp2_with fail
  refine (assartref03_Right.calls _ _ _ _ _ HRS.out).mono ?_
  rintro e wc4 ⟨rfl, hb⟩
  have HB4 : Aside0 (Below w.heap.size w wc4) := ⟨HB3.out.trans (hb.mono HB3.out.size)⟩
  have HKg3_4 := Aside0.mk (blk_below HKg3_3.out hb)
  have HKg4_4 := Aside0.mk (blk_below HKg4_3.out hb)
  clear cg3_0_3 cg3_1_3 cg3_2_3
  clear hb HB3 HKg3_3 HKg4_3
  have cg4_0_4 : wc4.cell? ⟨g4, 0, none⟩ = some (.int .i64 g') := (blk_cell HKg4_4.out 0).trans rfl
  have cg4_1_4 : wc4.cell? ⟨g4, 1, none⟩ = some (.int .i64 s') := (blk_cell HKg4_4.out 1).trans rfl
  have cg4_2_4 : wc4.cell? ⟨g4, 2, none⟩ = some (.int .i64 m') := (blk_cell HKg4_4.out 2).trans rfl
  go_wp2_with fail
  refine (assartref03_Right.calls _ _ _ _ _ HRT.out).mono ?_
  rintro e wc5 ⟨rfl, hb⟩
  have HB5 : Aside0 (Below w.heap.size w wc5) := ⟨HB4.out.trans (hb.mono HB4.out.size)⟩
  have HKg3_5 := Aside0.mk (blk_below HKg3_4.out hb)
  have HKg4_5 := Aside0.mk (blk_below HKg4_4.out hb)
  clear cg4_0_4 cg4_1_4 cg4_2_4
  clear hb HB4 HKg3_4 HKg4_4
  have cg3_0_5 : wc5.cell? ⟨g3, 0, none⟩ = some (.int .i64 g) := (blk_cell HKg3_5.out 0).trans rfl
  have cg3_1_5 : wc5.cell? ⟨g3, 1, none⟩ = some (.int .i64 s) := (blk_cell HKg3_5.out 1).trans rfl
  have cg3_2_5 : wc5.cell? ⟨g3, 2, none⟩ = some (.int .i64 m) := (blk_cell HKg3_5.out 2).trans rfl
  go_wp2
  go_ret
  exact ⟨rfl, HB5.out⟩
set_option maxHeartbeats 8000000 in
set_option maxRecDepth 100000 in
theorem SlotPicks_o (g s m g' s' m' : Int) (odd : ByteArray) (w : World) (hs : Rt g s m) (ht : Rt g' s' m') (ho : 200 < odd.size) :
    Calls Try.prog 5 #[.agg #[.int .i64 g, .int .i64 s, .int .i64 m], .agg #[.int .i64 g', .int .i64 s', .int .i64 m'], .string odd] w fun e w' => e = .returned (.bool true) ∧ Below w.heap.size w w' := by
  have hu23 := Try.underlying23
  have HRS := Aside0.mk (show assartref03_Right.f g s m = some true by rw [refRight_val, decide_eq_true hs])
  have HRT := Aside0.mk (show assartref03_Right.f g' s' m' = some true by rw [refRight_val, decide_eq_true ht])
  have do' : decide ((200 : Int) < odd.size) = true := by simp; omega
  clear hs ht ho
  go_enter Try.func5, Try.ntmps5
  go_wp2_with (first | ((with_reducible refine gate_dst (N := 3) rfl ?_); refine box_event ?hg (N := 3) ?hd (cs := #[.int .i64 g, .int .i64 s, .int .i64 m]) (t := 23) ?hr ?_; (case hd => rfl); (case hg => rfl); (case hr => first | (go_simp; done) | (go_simp; rfl)); intro g3 hg wb1 hbox hb; have HB1 := Aside0.mk hb; have HGg3 : Aside0 (w.heap.size ≤ g3) := ⟨by rw [hg]; exact Nat.le_refl _⟩; have HKg3_1 := Aside0.mk hbox; clear hb hbox hg) | ((with_reducible refine gate_dst (N := 4) rfl ?_); refine box_event ?hg (N := 4) ?hd (cs := #[.int .i64 g', .int .i64 s', .int .i64 m']) (t := 23) ?hr ?_; (case hd => rfl); (case hg => rfl); (case hr => first | (go_simp; done) | (go_simp; rfl)); intro g4 hg wb2 hbox hb; have HB2 := Aside0.mk (HB1.out.trans (hb.mono HB1.out.size)); have HGg4 : Aside0 (w.heap.size ≤ g4) := ⟨by rw [hg]; exact HB1.out.size⟩; have HKg4_2 := Aside0.mk hbox; have HKg3_2 := Aside0.mk (blk_below HKg3_1.out hb); clear hb hbox hg) | fail)
  refine (assartlaw03_shown.calls true _ rfl).mono ?_
  rintro e wc3 ⟨rfl, hb⟩
  have HB3 : Aside0 (Below w.heap.size w wc3) := ⟨HB2.out.trans (hb.mono HB2.out.size)⟩
  have HKg3_3 := Aside0.mk (blk_below HKg3_2.out hb)
  have HKg4_3 := Aside0.mk (blk_below HKg4_2.out hb)
  clear hb HB2 HKg3_2 HKg4_2
  have cg3_0_3 : wc3.cell? ⟨g3, 0, none⟩ = some (.int .i64 g) := (blk_cell HKg3_3.out 0).trans rfl
  have cg3_1_3 : wc3.cell? ⟨g3, 1, none⟩ = some (.int .i64 s) := (blk_cell HKg3_3.out 1).trans rfl
  have cg3_2_3 : wc3.cell? ⟨g3, 2, none⟩ = some (.int .i64 m) := (blk_cell HKg3_3.out 2).trans rfl
  go_wp2_with fail
  refine (assartref03_Right.calls _ _ _ _ _ HRS.out).mono ?_
  rintro e wc4 ⟨rfl, hb⟩
  have HB4 : Aside0 (Below w.heap.size w wc4) := ⟨HB3.out.trans (hb.mono HB3.out.size)⟩
  have HKg3_4 := Aside0.mk (blk_below HKg3_3.out hb)
  have HKg4_4 := Aside0.mk (blk_below HKg4_3.out hb)
  clear cg3_0_3 cg3_1_3 cg3_2_3
  clear hb HB3 HKg3_3 HKg4_3
  have cg4_0_4 : wc4.cell? ⟨g4, 0, none⟩ = some (.int .i64 g') := (blk_cell HKg4_4.out 0).trans rfl
  have cg4_1_4 : wc4.cell? ⟨g4, 1, none⟩ = some (.int .i64 s') := (blk_cell HKg4_4.out 1).trans rfl
  have cg4_2_4 : wc4.cell? ⟨g4, 2, none⟩ = some (.int .i64 m') := (blk_cell HKg4_4.out 2).trans rfl
  go_wp2_with fail
  refine (assartref03_Right.calls _ _ _ _ _ HRT.out).mono ?_
  rintro e wc5 ⟨rfl, hb⟩
  have HB5 : Aside0 (Below w.heap.size w wc5) := ⟨HB4.out.trans (hb.mono HB4.out.size)⟩
  have HKg3_5 := Aside0.mk (blk_below HKg3_4.out hb)
  have HKg4_5 := Aside0.mk (blk_below HKg4_4.out hb)
  clear cg4_0_4 cg4_1_4 cg4_2_4
  clear hb HB4 HKg3_4 HKg4_4
  have cg3_0_5 : wc5.cell? ⟨g3, 0, none⟩ = some (.int .i64 g) := (blk_cell HKg3_5.out 0).trans rfl
  have cg3_1_5 : wc5.cell? ⟨g3, 1, none⟩ = some (.int .i64 s) := (blk_cell HKg3_5.out 1).trans rfl
  have cg3_2_5 : wc5.cell? ⟨g3, 2, none⟩ = some (.int .i64 m) := (blk_cell HKg3_5.out 2).trans rfl
  go_wp2
  go_ret
  exact ⟨rfl, HB5.out⟩
set_option maxHeartbeats 8000000 in
set_option maxRecDepth 100000 in
theorem SlotPicks_lt0 (g s m g' s' m' : Int) (odd : ByteArray) (w : World) (hs : Rt g s m) (ht : Rt g' s' m') (ho : odd.size ≤ 200) (hlt : g < g') (hodd : slot_Parse.f odd = some (0, 0, 0, 2)) :
    Calls Try.prog 5 #[.agg #[.int .i64 g, .int .i64 s, .int .i64 m], .agg #[.int .i64 g', .int .i64 s', .int .i64 m'], .string odd] w fun e w' => e = .returned (.bool true) ∧ Below w.heap.size w w' := by
  have hu23 := Try.underlying23
  have HRS := Aside0.mk (show assartref03_Right.f g s m = some true by rw [refRight_val, decide_eq_true hs])
  have HRT := Aside0.mk (show assartref03_Right.f g' s' m' = some true by rw [refRight_val, decide_eq_true ht])
  have do' : decide ((200 : Int) < odd.size) = false := by simp; omega
  have d1 : (if g < g' then g' else g) = g' := if_pos hlt
  have hlt2 : g < g' := hlt
  have d2 : (g != g') = true := by rw [bne_iff_ne]; omega
  have d3 : (g == g') = false := by rw [beq_eq_false_iff_ne]; omega
  have hA := pick_val 0 (parse_blk hs) (parse_blk ht)
  have hC := pick_val 0 (parse_blk ht) (parse_blk hs)
  have hp1 := print_ok hs
  have hp2 := print_ok ht
  have hX := pick_val 0 (parse_blk hs) hodd
  have hY := pick_val 0 hodd (parse_blk hs)
  have hZ := pick_val 0 hodd hodd
  generalize blk g s m = S1 at hA hC hp1 hX hY
  generalize blk g' s' m' = S2 at hA hC hp2
  have HA : Aside0 (slot_Pick.f 1 S1 S2 = some (1, g', s', m', 0)) := ⟨by rw [hA]; first | (simp [hlt]; done) | (simp [hlt]; omega)⟩
  have HC : Aside0 (slot_Pick.f 1 S2 S1 = some (0, g', s', m', 0)) := ⟨by rw [hC]; first | (simp [hlt]; done) | (simp [hlt]; omega)⟩
  have HX : Aside0 (slot_Pick.f 1 S1 odd = some (0, g, s, m, 0)) := ⟨by rw [hX]; simp⟩
  have HY : Aside0 (slot_Pick.f 1 odd S1 = some (1, g, s, m, 0)) := ⟨by rw [hY]; simp⟩
  have HZ : Aside0 (slot_Pick.f 1 odd odd = some (0, 0, 0, 0, 4)) := ⟨by rw [hZ]; simp⟩
  have HP1 := Aside0.mk hp1
  have HP2 := Aside0.mk hp2
  have HO := Aside0.mk hodd
  clear hA hC hp1 hp2 hodd hs ht ho hlt hX hY hZ
  go_enter Try.func5, Try.ntmps5
  go_wp2_with (first | ((with_reducible refine gate_dst (N := 3) rfl ?_); refine box_event ?hg (N := 3) ?hd (cs := #[.int .i64 g, .int .i64 s, .int .i64 m]) (t := 23) ?hr ?_; (case hd => rfl); (case hg => rfl); (case hr => first | (go_simp; done) | (go_simp; rfl)); intro g3 hg wb1 hbox hb; have HB1 := Aside0.mk hb; have HGg3 : Aside0 (w.heap.size ≤ g3) := ⟨by rw [hg]; exact Nat.le_refl _⟩; have HKg3_1 := Aside0.mk hbox; clear hb hbox hg) | ((with_reducible refine gate_dst (N := 4) rfl ?_); refine box_event ?hg (N := 4) ?hd (cs := #[.int .i64 g', .int .i64 s', .int .i64 m']) (t := 23) ?hr ?_; (case hd => rfl); (case hg => rfl); (case hr => first | (go_simp; done) | (go_simp; rfl)); intro g4 hg wb2 hbox hb; have HB2 := Aside0.mk (HB1.out.trans (hb.mono HB1.out.size)); have HGg4 : Aside0 (w.heap.size ≤ g4) := ⟨by rw [hg]; exact HB1.out.size⟩; have HKg4_2 := Aside0.mk hbox; have HKg3_2 := Aside0.mk (blk_below HKg3_1.out hb); clear hb hbox hg) | fail)
  refine (assartlaw03_shown.calls true _ rfl).mono ?_
  rintro e wc3 ⟨rfl, hb⟩
  have HB3 : Aside0 (Below w.heap.size w wc3) := ⟨HB2.out.trans (hb.mono HB2.out.size)⟩
  have HKg3_3 := Aside0.mk (blk_below HKg3_2.out hb)
  have HKg4_3 := Aside0.mk (blk_below HKg4_2.out hb)
  clear hb HB2 HKg3_2 HKg4_2
  have cg3_0_3 : wc3.cell? ⟨g3, 0, none⟩ = some (.int .i64 g) := (blk_cell HKg3_3.out 0).trans rfl
  have cg3_1_3 : wc3.cell? ⟨g3, 1, none⟩ = some (.int .i64 s) := (blk_cell HKg3_3.out 1).trans rfl
  have cg3_2_3 : wc3.cell? ⟨g3, 2, none⟩ = some (.int .i64 m) := (blk_cell HKg3_3.out 2).trans rfl
  go_wp2_with fail
  refine (assartref03_Right.calls _ _ _ _ _ HRS.out).mono ?_
  rintro e wc4 ⟨rfl, hb⟩
  have HB4 : Aside0 (Below w.heap.size w wc4) := ⟨HB3.out.trans (hb.mono HB3.out.size)⟩
  have HKg3_4 := Aside0.mk (blk_below HKg3_3.out hb)
  have HKg4_4 := Aside0.mk (blk_below HKg4_3.out hb)
  clear cg3_0_3 cg3_1_3 cg3_2_3
  clear hb HB3 HKg3_3 HKg4_3
  have cg4_0_4 : wc4.cell? ⟨g4, 0, none⟩ = some (.int .i64 g') := (blk_cell HKg4_4.out 0).trans rfl
  have cg4_1_4 : wc4.cell? ⟨g4, 1, none⟩ = some (.int .i64 s') := (blk_cell HKg4_4.out 1).trans rfl
  have cg4_2_4 : wc4.cell? ⟨g4, 2, none⟩ = some (.int .i64 m') := (blk_cell HKg4_4.out 2).trans rfl
  go_wp2_with fail
  refine (assartref03_Right.calls _ _ _ _ _ HRT.out).mono ?_
  rintro e wc5 ⟨rfl, hb⟩
  have HB5 : Aside0 (Below w.heap.size w wc5) := ⟨HB4.out.trans (hb.mono HB4.out.size)⟩
  have HKg3_5 := Aside0.mk (blk_below HKg3_4.out hb)
  have HKg4_5 := Aside0.mk (blk_below HKg4_4.out hb)
  clear cg4_0_4 cg4_1_4 cg4_2_4
  clear hb HB4 HKg3_4 HKg4_4
  have cg3_0_5 : wc5.cell? ⟨g3, 0, none⟩ = some (.int .i64 g) := (blk_cell HKg3_5.out 0).trans rfl
  have cg3_1_5 : wc5.cell? ⟨g3, 1, none⟩ = some (.int .i64 s) := (blk_cell HKg3_5.out 1).trans rfl
  have cg3_2_5 : wc5.cell? ⟨g3, 2, none⟩ = some (.int .i64 m) := (blk_cell HKg3_5.out 2).trans rfl
  go_wp2_with fail
  refine (slot_Print.calls _ _ _ _ _ _ HP1.out).mono ?_
  rintro e wc6 ⟨rfl, hb⟩
  have HB6 : Aside0 (Below w.heap.size w wc6) := ⟨HB5.out.trans (hb.mono HB5.out.size)⟩
  have HKg3_6 := Aside0.mk (blk_below HKg3_5.out hb)
  have HKg4_6 := Aside0.mk (blk_below HKg4_5.out hb)
  clear cg3_0_5 cg3_1_5 cg3_2_5
  clear hb HB5 HKg3_5 HKg4_5
  have cg4_0_6 : wc6.cell? ⟨g4, 0, none⟩ = some (.int .i64 g') := (blk_cell HKg4_6.out 0).trans rfl
  have cg4_1_6 : wc6.cell? ⟨g4, 1, none⟩ = some (.int .i64 s') := (blk_cell HKg4_6.out 1).trans rfl
  have cg4_2_6 : wc6.cell? ⟨g4, 2, none⟩ = some (.int .i64 m') := (blk_cell HKg4_6.out 2).trans rfl
  go_wp2_with fail
  refine (slot_Print.calls _ _ _ _ _ _ HP2.out).mono ?_
  rintro e wc7 ⟨rfl, hb⟩
  have HB7 : Aside0 (Below w.heap.size w wc7) := ⟨HB6.out.trans (hb.mono HB6.out.size)⟩
  have HKg3_7 := Aside0.mk (blk_below HKg3_6.out hb)
  have HKg4_7 := Aside0.mk (blk_below HKg4_6.out hb)
  clear cg4_0_6 cg4_1_6 cg4_2_6
  clear hb HB6 HKg3_6 HKg4_6
  go_wp2_with fail
  refine (slot_Pick.calls 1 _ _ _ _ _ _ _ _ HA.out).mono ?_
  rintro e wc8 ⟨rfl, hb⟩
  have HB8 : Aside0 (Below w.heap.size w wc8) := ⟨HB7.out.trans (hb.mono HB7.out.size)⟩
  have HKg3_8 := Aside0.mk (blk_below HKg3_7.out hb)
  have HKg4_8 := Aside0.mk (blk_below HKg4_7.out hb)
  clear hb HB7 HKg3_7 HKg4_7
  go_wp2_with (first | ((with_reducible refine gate_dst (N := 13) rfl ?_); refine box_event ?hg (N := 13) ?hd (cs := #[.int .i64 0, .int .i64 0, .int .i64 0]) (t := 23) ?hr ?_; (case hd => rfl); (case hg => rfl); (case hr => first | (go_simp; done) | (go_simp; rfl)); intro g13 hg wb9 hbox hb; have f0_9 := blk_frozen hbox 0; have x0_9 : wb9.cell? ⟨g13, 0, none⟩ = some (.int .i64 0) := (blk_cell hbox 0).trans rfl; have f1_9 := blk_frozen hbox 1; have x1_9 : wb9.cell? ⟨g13, 1, none⟩ = some (.int .i64 0) := (blk_cell hbox 1).trans rfl; have f2_9 := blk_frozen hbox 2; have x2_9 : wb9.cell? ⟨g13, 2, none⟩ = some (.int .i64 0) := (blk_cell hbox 2).trans rfl; have HGg13 : Aside0 (w.heap.size ≤ g13) := ⟨by rw [hg]; exact HB8.out.size⟩; have HB9 := Aside0.mk (below_set (j := 2) (v := .int .i64 m') (below_set (j := 1) (v := .int .i64 s') (below_set (j := 0) (v := .int .i64 g') (HB8.out.trans (hb.mono HB8.out.size)) HGg13.out) HGg13.out) HGg13.out); have HNg3_9 : Aside0 (g3 ≠ g13) := ⟨by have := blk_lt HKg3_8.out; rw [hg]; omega⟩; have HKg3_9 := Aside0.mk (blk_far (blk_far (blk_far (blk_below HKg3_8.out hb) (p := ⟨g13, 0, none⟩) HNg3_9.out (.int .i64 g')) (p := ⟨g13, 1, none⟩) HNg3_9.out (.int .i64 s')) (p := ⟨g13, 2, none⟩) HNg3_9.out (.int .i64 m')); have HNg4_9 : Aside0 (g4 ≠ g13) := ⟨by have := blk_lt HKg4_8.out; rw [hg]; omega⟩; have HKg4_9 := Aside0.mk (blk_far (blk_far (blk_far (blk_below HKg4_8.out hb) (p := ⟨g13, 0, none⟩) HNg4_9.out (.int .i64 g')) (p := ⟨g13, 1, none⟩) HNg4_9.out (.int .i64 s')) (p := ⟨g13, 2, none⟩) HNg4_9.out (.int .i64 m')); have HKg13_9 := Aside0.mk (blk_put (cs' := #[.int .i64 g', .int .i64 s', .int .i64 m']) (blk_put (cs' := #[.int .i64 g', .int .i64 s', .int .i64 0]) (blk_put (cs' := #[.int .i64 g', .int .i64 0, .int .i64 0]) hbox 0 (.int .i64 g') rfl) 1 (.int .i64 s') rfl) 2 (.int .i64 m') rfl); clear hb hbox hg) | fail)
  refine (slot_Pick.calls 1 _ _ _ _ _ _ _ _ HC.out).mono ?_
  rintro e wc10 ⟨rfl, hb⟩
  have HB10 : Aside0 (Below w.heap.size w wc10) := ⟨HB9.out.trans (hb.mono HB9.out.size)⟩
  have HKg3_10 := Aside0.mk (blk_below HKg3_9.out hb)
  have HKg4_10 := Aside0.mk (blk_below HKg4_9.out hb)
  have HKg13_10 := Aside0.mk (blk_below HKg13_9.out hb)
  clear f0_9 x0_9 f1_9 x1_9 f2_9 x2_9
  clear hb HB9 HKg3_9 HKg4_9 HKg13_9
  go_wp2_with (first | ((with_reducible refine gate_dst (N := 16) rfl ?_); refine box_event ?hg (N := 16) ?hd (cs := #[.int .i64 0, .int .i64 0, .int .i64 0]) (t := 23) ?hr ?_; (case hd => rfl); (case hg => rfl); (case hr => first | (go_simp; done) | (go_simp; rfl)); intro g16 hg wb11 hbox hb; have f0_11 := blk_frozen hbox 0; have x0_11 : wb11.cell? ⟨g16, 0, none⟩ = some (.int .i64 0) := (blk_cell hbox 0).trans rfl; have f1_11 := blk_frozen hbox 1; have x1_11 : wb11.cell? ⟨g16, 1, none⟩ = some (.int .i64 0) := (blk_cell hbox 1).trans rfl; have f2_11 := blk_frozen hbox 2; have x2_11 : wb11.cell? ⟨g16, 2, none⟩ = some (.int .i64 0) := (blk_cell hbox 2).trans rfl; have HGg16 : Aside0 (w.heap.size ≤ g16) := ⟨by rw [hg]; exact HB10.out.size⟩; have HB11 := Aside0.mk (below_set (j := 2) (v := .int .i64 m') (below_set (j := 1) (v := .int .i64 s') (below_set (j := 0) (v := .int .i64 g') (HB10.out.trans (hb.mono HB10.out.size)) HGg16.out) HGg16.out) HGg16.out); have HNg3_11 : Aside0 (g3 ≠ g16) := ⟨by have := blk_lt HKg3_10.out; rw [hg]; omega⟩; have HKg3_11 := Aside0.mk (blk_far (blk_far (blk_far (blk_below HKg3_10.out hb) (p := ⟨g16, 0, none⟩) HNg3_11.out (.int .i64 g')) (p := ⟨g16, 1, none⟩) HNg3_11.out (.int .i64 s')) (p := ⟨g16, 2, none⟩) HNg3_11.out (.int .i64 m')); have HNg4_11 : Aside0 (g4 ≠ g16) := ⟨by have := blk_lt HKg4_10.out; rw [hg]; omega⟩; have HKg4_11 := Aside0.mk (blk_far (blk_far (blk_far (blk_below HKg4_10.out hb) (p := ⟨g16, 0, none⟩) HNg4_11.out (.int .i64 g')) (p := ⟨g16, 1, none⟩) HNg4_11.out (.int .i64 s')) (p := ⟨g16, 2, none⟩) HNg4_11.out (.int .i64 m')); have HNg13_11 : Aside0 (g13 ≠ g16) := ⟨by have := blk_lt HKg13_10.out; rw [hg]; omega⟩; have HKg13_11 := Aside0.mk (blk_far (blk_far (blk_far (blk_below HKg13_10.out hb) (p := ⟨g16, 0, none⟩) HNg13_11.out (.int .i64 g')) (p := ⟨g16, 1, none⟩) HNg13_11.out (.int .i64 s')) (p := ⟨g16, 2, none⟩) HNg13_11.out (.int .i64 m')); have HKg16_11 := Aside0.mk (blk_put (cs' := #[.int .i64 g', .int .i64 s', .int .i64 m']) (blk_put (cs' := #[.int .i64 g', .int .i64 s', .int .i64 0]) (blk_put (cs' := #[.int .i64 g', .int .i64 0, .int .i64 0]) hbox 0 (.int .i64 g') rfl) 1 (.int .i64 s') rfl) 2 (.int .i64 m') rfl); have cg3_0_11 : (((wb11.setCell ⟨g16, 0, none⟩ (.int .i64 g')).setCell ⟨g16, 1, none⟩ (.int .i64 s')).setCell ⟨g16, 2, none⟩ (.int .i64 m')).cell? ⟨g3, 0, none⟩ = some (.int .i64 g) := (blk_cell HKg3_11.out 0).trans rfl; have cg3_1_11 : (((wb11.setCell ⟨g16, 0, none⟩ (.int .i64 g')).setCell ⟨g16, 1, none⟩ (.int .i64 s')).setCell ⟨g16, 2, none⟩ (.int .i64 m')).cell? ⟨g3, 1, none⟩ = some (.int .i64 s) := (blk_cell HKg3_11.out 1).trans rfl; have cg3_2_11 : (((wb11.setCell ⟨g16, 0, none⟩ (.int .i64 g')).setCell ⟨g16, 1, none⟩ (.int .i64 s')).setCell ⟨g16, 2, none⟩ (.int .i64 m')).cell? ⟨g3, 2, none⟩ = some (.int .i64 m) := (blk_cell HKg3_11.out 2).trans rfl; have cg4_0_11 : (((wb11.setCell ⟨g16, 0, none⟩ (.int .i64 g')).setCell ⟨g16, 1, none⟩ (.int .i64 s')).setCell ⟨g16, 2, none⟩ (.int .i64 m')).cell? ⟨g4, 0, none⟩ = some (.int .i64 g') := (blk_cell HKg4_11.out 0).trans rfl; have cg4_1_11 : (((wb11.setCell ⟨g16, 0, none⟩ (.int .i64 g')).setCell ⟨g16, 1, none⟩ (.int .i64 s')).setCell ⟨g16, 2, none⟩ (.int .i64 m')).cell? ⟨g4, 1, none⟩ = some (.int .i64 s') := (blk_cell HKg4_11.out 1).trans rfl; have cg4_2_11 : (((wb11.setCell ⟨g16, 0, none⟩ (.int .i64 g')).setCell ⟨g16, 1, none⟩ (.int .i64 s')).setCell ⟨g16, 2, none⟩ (.int .i64 m')).cell? ⟨g4, 2, none⟩ = some (.int .i64 m') := (blk_cell HKg4_11.out 2).trans rfl; have cg13_0_11 : (((wb11.setCell ⟨g16, 0, none⟩ (.int .i64 g')).setCell ⟨g16, 1, none⟩ (.int .i64 s')).setCell ⟨g16, 2, none⟩ (.int .i64 m')).cell? ⟨g13, 0, none⟩ = some (.int .i64 g') := (blk_cell HKg13_11.out 0).trans rfl; have cg13_1_11 : (((wb11.setCell ⟨g16, 0, none⟩ (.int .i64 g')).setCell ⟨g16, 1, none⟩ (.int .i64 s')).setCell ⟨g16, 2, none⟩ (.int .i64 m')).cell? ⟨g13, 1, none⟩ = some (.int .i64 s') := (blk_cell HKg13_11.out 1).trans rfl; have cg13_2_11 : (((wb11.setCell ⟨g16, 0, none⟩ (.int .i64 g')).setCell ⟨g16, 1, none⟩ (.int .i64 s')).setCell ⟨g16, 2, none⟩ (.int .i64 m')).cell? ⟨g13, 2, none⟩ = some (.int .i64 m') := (blk_cell HKg13_11.out 2).trans rfl; have cg16_0_11 : (((wb11.setCell ⟨g16, 0, none⟩ (.int .i64 g')).setCell ⟨g16, 1, none⟩ (.int .i64 s')).setCell ⟨g16, 2, none⟩ (.int .i64 m')).cell? ⟨g16, 0, none⟩ = some (.int .i64 g') := (blk_cell HKg16_11.out 0).trans rfl; have cg16_1_11 : (((wb11.setCell ⟨g16, 0, none⟩ (.int .i64 g')).setCell ⟨g16, 1, none⟩ (.int .i64 s')).setCell ⟨g16, 2, none⟩ (.int .i64 m')).cell? ⟨g16, 1, none⟩ = some (.int .i64 s') := (blk_cell HKg16_11.out 1).trans rfl; have cg16_2_11 : (((wb11.setCell ⟨g16, 0, none⟩ (.int .i64 g')).setCell ⟨g16, 1, none⟩ (.int .i64 s')).setCell ⟨g16, 2, none⟩ (.int .i64 m')).cell? ⟨g16, 2, none⟩ = some (.int .i64 m') := (blk_cell HKg16_11.out 2).trans rfl; clear hb hbox hg) | fail)
  refine (slot_Parse.calls _ _ _ _ _ _ HO.out).mono ?_
  rintro e wc12 ⟨rfl, hb⟩
  have HB12 : Aside0 (Below w.heap.size w wc12) := ⟨HB11.out.trans (hb.mono HB11.out.size)⟩
  have HKg3_12 := Aside0.mk (blk_below HKg3_11.out hb)
  have HKg4_12 := Aside0.mk (blk_below HKg4_11.out hb)
  have HKg13_12 := Aside0.mk (blk_below HKg13_11.out hb)
  have HKg16_12 := Aside0.mk (blk_below HKg16_11.out hb)
  clear f0_11 x0_11 f1_11 x1_11 f2_11 x2_11 cg3_0_11 cg3_1_11 cg3_2_11 cg4_0_11 cg4_1_11 cg4_2_11 cg13_0_11 cg13_1_11 cg13_2_11 cg16_0_11 cg16_1_11 cg16_2_11
  clear hb HB11 HKg3_11 HKg4_11 HKg13_11 HKg16_11
  go_wp2_with (first | ((with_reducible refine gate_dst (N := 18) rfl ?_); refine box_event ?hg (N := 18) ?hd (cs := #[.int .i64 0, .int .i64 0, .int .i64 0]) (t := 23) ?hr ?_; (case hd => rfl); (case hg => rfl); (case hr => first | (go_simp; done) | (go_simp; rfl)); intro g18 hg wb13 hbox hb; have f0_13 := blk_frozen hbox 0; have x0_13 : wb13.cell? ⟨g18, 0, none⟩ = some (.int .i64 0) := (blk_cell hbox 0).trans rfl; have f1_13 := blk_frozen hbox 1; have x1_13 : wb13.cell? ⟨g18, 1, none⟩ = some (.int .i64 0) := (blk_cell hbox 1).trans rfl; have f2_13 := blk_frozen hbox 2; have x2_13 : wb13.cell? ⟨g18, 2, none⟩ = some (.int .i64 0) := (blk_cell hbox 2).trans rfl; have HGg18 : Aside0 (w.heap.size ≤ g18) := ⟨by rw [hg]; exact HB12.out.size⟩; have HB13 := Aside0.mk (below_set (j := 2) (v := .int .i64 0) (below_set (j := 1) (v := .int .i64 0) (below_set (j := 0) (v := .int .i64 0) (HB12.out.trans (hb.mono HB12.out.size)) HGg18.out) HGg18.out) HGg18.out); have HNg3_13 : Aside0 (g3 ≠ g18) := ⟨by have := blk_lt HKg3_12.out; rw [hg]; omega⟩; have HKg3_13 := Aside0.mk (blk_far (blk_far (blk_far (blk_below HKg3_12.out hb) (p := ⟨g18, 0, none⟩) HNg3_13.out (.int .i64 0)) (p := ⟨g18, 1, none⟩) HNg3_13.out (.int .i64 0)) (p := ⟨g18, 2, none⟩) HNg3_13.out (.int .i64 0)); have HNg4_13 : Aside0 (g4 ≠ g18) := ⟨by have := blk_lt HKg4_12.out; rw [hg]; omega⟩; have HKg4_13 := Aside0.mk (blk_far (blk_far (blk_far (blk_below HKg4_12.out hb) (p := ⟨g18, 0, none⟩) HNg4_13.out (.int .i64 0)) (p := ⟨g18, 1, none⟩) HNg4_13.out (.int .i64 0)) (p := ⟨g18, 2, none⟩) HNg4_13.out (.int .i64 0)); have HNg13_13 : Aside0 (g13 ≠ g18) := ⟨by have := blk_lt HKg13_12.out; rw [hg]; omega⟩; have HKg13_13 := Aside0.mk (blk_far (blk_far (blk_far (blk_below HKg13_12.out hb) (p := ⟨g18, 0, none⟩) HNg13_13.out (.int .i64 0)) (p := ⟨g18, 1, none⟩) HNg13_13.out (.int .i64 0)) (p := ⟨g18, 2, none⟩) HNg13_13.out (.int .i64 0)); have HNg16_13 : Aside0 (g16 ≠ g18) := ⟨by have := blk_lt HKg16_12.out; rw [hg]; omega⟩; have HKg16_13 := Aside0.mk (blk_far (blk_far (blk_far (blk_below HKg16_12.out hb) (p := ⟨g18, 0, none⟩) HNg16_13.out (.int .i64 0)) (p := ⟨g18, 1, none⟩) HNg16_13.out (.int .i64 0)) (p := ⟨g18, 2, none⟩) HNg16_13.out (.int .i64 0)); have HKg18_13 := Aside0.mk (blk_put (cs' := #[.int .i64 0, .int .i64 0, .int .i64 0]) (blk_put (cs' := #[.int .i64 0, .int .i64 0, .int .i64 0]) (blk_put (cs' := #[.int .i64 0, .int .i64 0, .int .i64 0]) hbox 0 (.int .i64 0) rfl) 1 (.int .i64 0) rfl) 2 (.int .i64 0) rfl); clear hb hbox hg) | fail)
  refine (slot_Pick.calls 1 _ _ _ _ _ _ _ _ HX.out).mono ?_
  rintro e wc14 ⟨rfl, hb⟩
  have HB14 : Aside0 (Below w.heap.size w wc14) := ⟨HB13.out.trans (hb.mono HB13.out.size)⟩
  have HKg3_14 := Aside0.mk (blk_below HKg3_13.out hb)
  have HKg4_14 := Aside0.mk (blk_below HKg4_13.out hb)
  have HKg13_14 := Aside0.mk (blk_below HKg13_13.out hb)
  have HKg16_14 := Aside0.mk (blk_below HKg16_13.out hb)
  have HKg18_14 := Aside0.mk (blk_below HKg18_13.out hb)
  clear f0_13 x0_13 f1_13 x1_13 f2_13 x2_13
  clear hb HB13 HKg3_13 HKg4_13 HKg13_13 HKg16_13 HKg18_13
  go_wp2_with (first | ((with_reducible refine gate_dst (N := 21) rfl ?_); refine box_event ?hg (N := 21) ?hd (cs := #[.int .i64 0, .int .i64 0, .int .i64 0]) (t := 23) ?hr ?_; (case hd => rfl); (case hg => rfl); (case hr => first | (go_simp; done) | (go_simp; rfl)); intro g21 hg wb15 hbox hb; have f0_15 := blk_frozen hbox 0; have x0_15 : wb15.cell? ⟨g21, 0, none⟩ = some (.int .i64 0) := (blk_cell hbox 0).trans rfl; have f1_15 := blk_frozen hbox 1; have x1_15 : wb15.cell? ⟨g21, 1, none⟩ = some (.int .i64 0) := (blk_cell hbox 1).trans rfl; have f2_15 := blk_frozen hbox 2; have x2_15 : wb15.cell? ⟨g21, 2, none⟩ = some (.int .i64 0) := (blk_cell hbox 2).trans rfl; have HGg21 : Aside0 (w.heap.size ≤ g21) := ⟨by rw [hg]; exact HB14.out.size⟩; have HB15 := Aside0.mk (below_set (j := 2) (v := .int .i64 m) (below_set (j := 1) (v := .int .i64 s) (below_set (j := 0) (v := .int .i64 g) (HB14.out.trans (hb.mono HB14.out.size)) HGg21.out) HGg21.out) HGg21.out); have HNg3_15 : Aside0 (g3 ≠ g21) := ⟨by have := blk_lt HKg3_14.out; rw [hg]; omega⟩; have HKg3_15 := Aside0.mk (blk_far (blk_far (blk_far (blk_below HKg3_14.out hb) (p := ⟨g21, 0, none⟩) HNg3_15.out (.int .i64 g)) (p := ⟨g21, 1, none⟩) HNg3_15.out (.int .i64 s)) (p := ⟨g21, 2, none⟩) HNg3_15.out (.int .i64 m)); have HNg4_15 : Aside0 (g4 ≠ g21) := ⟨by have := blk_lt HKg4_14.out; rw [hg]; omega⟩; have HKg4_15 := Aside0.mk (blk_far (blk_far (blk_far (blk_below HKg4_14.out hb) (p := ⟨g21, 0, none⟩) HNg4_15.out (.int .i64 g)) (p := ⟨g21, 1, none⟩) HNg4_15.out (.int .i64 s)) (p := ⟨g21, 2, none⟩) HNg4_15.out (.int .i64 m)); have HNg13_15 : Aside0 (g13 ≠ g21) := ⟨by have := blk_lt HKg13_14.out; rw [hg]; omega⟩; have HKg13_15 := Aside0.mk (blk_far (blk_far (blk_far (blk_below HKg13_14.out hb) (p := ⟨g21, 0, none⟩) HNg13_15.out (.int .i64 g)) (p := ⟨g21, 1, none⟩) HNg13_15.out (.int .i64 s)) (p := ⟨g21, 2, none⟩) HNg13_15.out (.int .i64 m)); have HNg16_15 : Aside0 (g16 ≠ g21) := ⟨by have := blk_lt HKg16_14.out; rw [hg]; omega⟩; have HKg16_15 := Aside0.mk (blk_far (blk_far (blk_far (blk_below HKg16_14.out hb) (p := ⟨g21, 0, none⟩) HNg16_15.out (.int .i64 g)) (p := ⟨g21, 1, none⟩) HNg16_15.out (.int .i64 s)) (p := ⟨g21, 2, none⟩) HNg16_15.out (.int .i64 m)); have HNg18_15 : Aside0 (g18 ≠ g21) := ⟨by have := blk_lt HKg18_14.out; rw [hg]; omega⟩; have HKg18_15 := Aside0.mk (blk_far (blk_far (blk_far (blk_below HKg18_14.out hb) (p := ⟨g21, 0, none⟩) HNg18_15.out (.int .i64 g)) (p := ⟨g21, 1, none⟩) HNg18_15.out (.int .i64 s)) (p := ⟨g21, 2, none⟩) HNg18_15.out (.int .i64 m)); have HKg21_15 := Aside0.mk (blk_put (cs' := #[.int .i64 g, .int .i64 s, .int .i64 m]) (blk_put (cs' := #[.int .i64 g, .int .i64 s, .int .i64 0]) (blk_put (cs' := #[.int .i64 g, .int .i64 0, .int .i64 0]) hbox 0 (.int .i64 g) rfl) 1 (.int .i64 s) rfl) 2 (.int .i64 m) rfl); clear hb hbox hg) | fail)
  refine (slot_Pick.calls 1 _ _ _ _ _ _ _ _ HY.out).mono ?_
  rintro e wc16 ⟨rfl, hb⟩
  have HB16 : Aside0 (Below w.heap.size w wc16) := ⟨HB15.out.trans (hb.mono HB15.out.size)⟩
  have HKg3_16 := Aside0.mk (blk_below HKg3_15.out hb)
  have HKg4_16 := Aside0.mk (blk_below HKg4_15.out hb)
  have HKg13_16 := Aside0.mk (blk_below HKg13_15.out hb)
  have HKg16_16 := Aside0.mk (blk_below HKg16_15.out hb)
  have HKg18_16 := Aside0.mk (blk_below HKg18_15.out hb)
  have HKg21_16 := Aside0.mk (blk_below HKg21_15.out hb)
  clear f0_15 x0_15 f1_15 x1_15 f2_15 x2_15
  clear hb HB15 HKg3_15 HKg4_15 HKg13_15 HKg16_15 HKg18_15 HKg21_15
  go_wp2_with (first | ((with_reducible refine gate_dst (N := 24) rfl ?_); refine box_event ?hg (N := 24) ?hd (cs := #[.int .i64 0, .int .i64 0, .int .i64 0]) (t := 23) ?hr ?_; (case hd => rfl); (case hg => rfl); (case hr => first | (go_simp; done) | (go_simp; rfl)); intro g24 hg wb17 hbox hb; have f0_17 := blk_frozen hbox 0; have x0_17 : wb17.cell? ⟨g24, 0, none⟩ = some (.int .i64 0) := (blk_cell hbox 0).trans rfl; have f1_17 := blk_frozen hbox 1; have x1_17 : wb17.cell? ⟨g24, 1, none⟩ = some (.int .i64 0) := (blk_cell hbox 1).trans rfl; have f2_17 := blk_frozen hbox 2; have x2_17 : wb17.cell? ⟨g24, 2, none⟩ = some (.int .i64 0) := (blk_cell hbox 2).trans rfl; have HGg24 : Aside0 (w.heap.size ≤ g24) := ⟨by rw [hg]; exact HB16.out.size⟩; have HB17 := Aside0.mk (below_set (j := 2) (v := .int .i64 m) (below_set (j := 1) (v := .int .i64 s) (below_set (j := 0) (v := .int .i64 g) (HB16.out.trans (hb.mono HB16.out.size)) HGg24.out) HGg24.out) HGg24.out); have HNg3_17 : Aside0 (g3 ≠ g24) := ⟨by have := blk_lt HKg3_16.out; rw [hg]; omega⟩; have HKg3_17 := Aside0.mk (blk_far (blk_far (blk_far (blk_below HKg3_16.out hb) (p := ⟨g24, 0, none⟩) HNg3_17.out (.int .i64 g)) (p := ⟨g24, 1, none⟩) HNg3_17.out (.int .i64 s)) (p := ⟨g24, 2, none⟩) HNg3_17.out (.int .i64 m)); have HNg4_17 : Aside0 (g4 ≠ g24) := ⟨by have := blk_lt HKg4_16.out; rw [hg]; omega⟩; have HKg4_17 := Aside0.mk (blk_far (blk_far (blk_far (blk_below HKg4_16.out hb) (p := ⟨g24, 0, none⟩) HNg4_17.out (.int .i64 g)) (p := ⟨g24, 1, none⟩) HNg4_17.out (.int .i64 s)) (p := ⟨g24, 2, none⟩) HNg4_17.out (.int .i64 m)); have HNg13_17 : Aside0 (g13 ≠ g24) := ⟨by have := blk_lt HKg13_16.out; rw [hg]; omega⟩; have HKg13_17 := Aside0.mk (blk_far (blk_far (blk_far (blk_below HKg13_16.out hb) (p := ⟨g24, 0, none⟩) HNg13_17.out (.int .i64 g)) (p := ⟨g24, 1, none⟩) HNg13_17.out (.int .i64 s)) (p := ⟨g24, 2, none⟩) HNg13_17.out (.int .i64 m)); have HNg16_17 : Aside0 (g16 ≠ g24) := ⟨by have := blk_lt HKg16_16.out; rw [hg]; omega⟩; have HKg16_17 := Aside0.mk (blk_far (blk_far (blk_far (blk_below HKg16_16.out hb) (p := ⟨g24, 0, none⟩) HNg16_17.out (.int .i64 g)) (p := ⟨g24, 1, none⟩) HNg16_17.out (.int .i64 s)) (p := ⟨g24, 2, none⟩) HNg16_17.out (.int .i64 m)); have HNg18_17 : Aside0 (g18 ≠ g24) := ⟨by have := blk_lt HKg18_16.out; rw [hg]; omega⟩; have HKg18_17 := Aside0.mk (blk_far (blk_far (blk_far (blk_below HKg18_16.out hb) (p := ⟨g24, 0, none⟩) HNg18_17.out (.int .i64 g)) (p := ⟨g24, 1, none⟩) HNg18_17.out (.int .i64 s)) (p := ⟨g24, 2, none⟩) HNg18_17.out (.int .i64 m)); have HNg21_17 : Aside0 (g21 ≠ g24) := ⟨by have := blk_lt HKg21_16.out; rw [hg]; omega⟩; have HKg21_17 := Aside0.mk (blk_far (blk_far (blk_far (blk_below HKg21_16.out hb) (p := ⟨g24, 0, none⟩) HNg21_17.out (.int .i64 g)) (p := ⟨g24, 1, none⟩) HNg21_17.out (.int .i64 s)) (p := ⟨g24, 2, none⟩) HNg21_17.out (.int .i64 m)); have HKg24_17 := Aside0.mk (blk_put (cs' := #[.int .i64 g, .int .i64 s, .int .i64 m]) (blk_put (cs' := #[.int .i64 g, .int .i64 s, .int .i64 0]) (blk_put (cs' := #[.int .i64 g, .int .i64 0, .int .i64 0]) hbox 0 (.int .i64 g) rfl) 1 (.int .i64 s) rfl) 2 (.int .i64 m) rfl); clear hb hbox hg) | fail)
  refine (slot_Pick.calls 1 _ _ _ _ _ _ _ _ HZ.out).mono ?_
  rintro e wc18 ⟨rfl, hb⟩
  have HB18 : Aside0 (Below w.heap.size w wc18) := ⟨HB17.out.trans (hb.mono HB17.out.size)⟩
  have HKg3_18 := Aside0.mk (blk_below HKg3_17.out hb)
  have HKg4_18 := Aside0.mk (blk_below HKg4_17.out hb)
  have HKg13_18 := Aside0.mk (blk_below HKg13_17.out hb)
  have HKg16_18 := Aside0.mk (blk_below HKg16_17.out hb)
  have HKg18_18 := Aside0.mk (blk_below HKg18_17.out hb)
  have HKg21_18 := Aside0.mk (blk_below HKg21_17.out hb)
  have HKg24_18 := Aside0.mk (blk_below HKg24_17.out hb)
  clear f0_17 x0_17 f1_17 x1_17 f2_17 x2_17
  clear hb HB17 HKg3_17 HKg4_17 HKg13_17 HKg16_17 HKg18_17 HKg21_17 HKg24_17
  go_wp2_with (first | ((with_reducible refine gate_dst (N := 27) rfl ?_); refine box_event ?hg (N := 27) ?hd (cs := #[.int .i64 0, .int .i64 0, .int .i64 0]) (t := 23) ?hr ?_; (case hd => rfl); (case hg => rfl); (case hr => first | (go_simp; done) | (go_simp; rfl)); intro g27 hg wb19 hbox hb; have f0_19 := blk_frozen hbox 0; have x0_19 : wb19.cell? ⟨g27, 0, none⟩ = some (.int .i64 0) := (blk_cell hbox 0).trans rfl; have f1_19 := blk_frozen hbox 1; have x1_19 : wb19.cell? ⟨g27, 1, none⟩ = some (.int .i64 0) := (blk_cell hbox 1).trans rfl; have f2_19 := blk_frozen hbox 2; have x2_19 : wb19.cell? ⟨g27, 2, none⟩ = some (.int .i64 0) := (blk_cell hbox 2).trans rfl; have HGg27 : Aside0 (w.heap.size ≤ g27) := ⟨by rw [hg]; exact HB18.out.size⟩; have HB19 := Aside0.mk (below_set (j := 2) (v := .int .i64 0) (below_set (j := 1) (v := .int .i64 0) (below_set (j := 0) (v := .int .i64 0) (HB18.out.trans (hb.mono HB18.out.size)) HGg27.out) HGg27.out) HGg27.out); have HNg3_19 : Aside0 (g3 ≠ g27) := ⟨by have := blk_lt HKg3_18.out; rw [hg]; omega⟩; have HKg3_19 := Aside0.mk (blk_far (blk_far (blk_far (blk_below HKg3_18.out hb) (p := ⟨g27, 0, none⟩) HNg3_19.out (.int .i64 0)) (p := ⟨g27, 1, none⟩) HNg3_19.out (.int .i64 0)) (p := ⟨g27, 2, none⟩) HNg3_19.out (.int .i64 0)); have HNg4_19 : Aside0 (g4 ≠ g27) := ⟨by have := blk_lt HKg4_18.out; rw [hg]; omega⟩; have HKg4_19 := Aside0.mk (blk_far (blk_far (blk_far (blk_below HKg4_18.out hb) (p := ⟨g27, 0, none⟩) HNg4_19.out (.int .i64 0)) (p := ⟨g27, 1, none⟩) HNg4_19.out (.int .i64 0)) (p := ⟨g27, 2, none⟩) HNg4_19.out (.int .i64 0)); have HNg13_19 : Aside0 (g13 ≠ g27) := ⟨by have := blk_lt HKg13_18.out; rw [hg]; omega⟩; have HKg13_19 := Aside0.mk (blk_far (blk_far (blk_far (blk_below HKg13_18.out hb) (p := ⟨g27, 0, none⟩) HNg13_19.out (.int .i64 0)) (p := ⟨g27, 1, none⟩) HNg13_19.out (.int .i64 0)) (p := ⟨g27, 2, none⟩) HNg13_19.out (.int .i64 0)); have HNg16_19 : Aside0 (g16 ≠ g27) := ⟨by have := blk_lt HKg16_18.out; rw [hg]; omega⟩; have HKg16_19 := Aside0.mk (blk_far (blk_far (blk_far (blk_below HKg16_18.out hb) (p := ⟨g27, 0, none⟩) HNg16_19.out (.int .i64 0)) (p := ⟨g27, 1, none⟩) HNg16_19.out (.int .i64 0)) (p := ⟨g27, 2, none⟩) HNg16_19.out (.int .i64 0)); have HNg18_19 : Aside0 (g18 ≠ g27) := ⟨by have := blk_lt HKg18_18.out; rw [hg]; omega⟩; have HKg18_19 := Aside0.mk (blk_far (blk_far (blk_far (blk_below HKg18_18.out hb) (p := ⟨g27, 0, none⟩) HNg18_19.out (.int .i64 0)) (p := ⟨g27, 1, none⟩) HNg18_19.out (.int .i64 0)) (p := ⟨g27, 2, none⟩) HNg18_19.out (.int .i64 0)); have HNg21_19 : Aside0 (g21 ≠ g27) := ⟨by have := blk_lt HKg21_18.out; rw [hg]; omega⟩; have HKg21_19 := Aside0.mk (blk_far (blk_far (blk_far (blk_below HKg21_18.out hb) (p := ⟨g27, 0, none⟩) HNg21_19.out (.int .i64 0)) (p := ⟨g27, 1, none⟩) HNg21_19.out (.int .i64 0)) (p := ⟨g27, 2, none⟩) HNg21_19.out (.int .i64 0)); have HNg24_19 : Aside0 (g24 ≠ g27) := ⟨by have := blk_lt HKg24_18.out; rw [hg]; omega⟩; have HKg24_19 := Aside0.mk (blk_far (blk_far (blk_far (blk_below HKg24_18.out hb) (p := ⟨g27, 0, none⟩) HNg24_19.out (.int .i64 0)) (p := ⟨g27, 1, none⟩) HNg24_19.out (.int .i64 0)) (p := ⟨g27, 2, none⟩) HNg24_19.out (.int .i64 0)); have HKg27_19 := Aside0.mk (blk_put (cs' := #[.int .i64 0, .int .i64 0, .int .i64 0]) (blk_put (cs' := #[.int .i64 0, .int .i64 0, .int .i64 0]) (blk_put (cs' := #[.int .i64 0, .int .i64 0, .int .i64 0]) hbox 0 (.int .i64 0) rfl) 1 (.int .i64 0) rfl) 2 (.int .i64 0) rfl); have cg3_0_19 : (((wb19.setCell ⟨g27, 0, none⟩ (.int .i64 0)).setCell ⟨g27, 1, none⟩ (.int .i64 0)).setCell ⟨g27, 2, none⟩ (.int .i64 0)).cell? ⟨g3, 0, none⟩ = some (.int .i64 g) := (blk_cell HKg3_19.out 0).trans rfl; have cg3_1_19 : (((wb19.setCell ⟨g27, 0, none⟩ (.int .i64 0)).setCell ⟨g27, 1, none⟩ (.int .i64 0)).setCell ⟨g27, 2, none⟩ (.int .i64 0)).cell? ⟨g3, 1, none⟩ = some (.int .i64 s) := (blk_cell HKg3_19.out 1).trans rfl; have cg3_2_19 : (((wb19.setCell ⟨g27, 0, none⟩ (.int .i64 0)).setCell ⟨g27, 1, none⟩ (.int .i64 0)).setCell ⟨g27, 2, none⟩ (.int .i64 0)).cell? ⟨g3, 2, none⟩ = some (.int .i64 m) := (blk_cell HKg3_19.out 2).trans rfl; have cg21_0_19 : (((wb19.setCell ⟨g27, 0, none⟩ (.int .i64 0)).setCell ⟨g27, 1, none⟩ (.int .i64 0)).setCell ⟨g27, 2, none⟩ (.int .i64 0)).cell? ⟨g21, 0, none⟩ = some (.int .i64 g) := (blk_cell HKg21_19.out 0).trans rfl; have cg21_1_19 : (((wb19.setCell ⟨g27, 0, none⟩ (.int .i64 0)).setCell ⟨g27, 1, none⟩ (.int .i64 0)).setCell ⟨g27, 2, none⟩ (.int .i64 0)).cell? ⟨g21, 1, none⟩ = some (.int .i64 s) := (blk_cell HKg21_19.out 1).trans rfl; have cg21_2_19 : (((wb19.setCell ⟨g27, 0, none⟩ (.int .i64 0)).setCell ⟨g27, 1, none⟩ (.int .i64 0)).setCell ⟨g27, 2, none⟩ (.int .i64 0)).cell? ⟨g21, 2, none⟩ = some (.int .i64 m) := (blk_cell HKg21_19.out 2).trans rfl; have cg24_0_19 : (((wb19.setCell ⟨g27, 0, none⟩ (.int .i64 0)).setCell ⟨g27, 1, none⟩ (.int .i64 0)).setCell ⟨g27, 2, none⟩ (.int .i64 0)).cell? ⟨g24, 0, none⟩ = some (.int .i64 g) := (blk_cell HKg24_19.out 0).trans rfl; have cg24_1_19 : (((wb19.setCell ⟨g27, 0, none⟩ (.int .i64 0)).setCell ⟨g27, 1, none⟩ (.int .i64 0)).setCell ⟨g27, 2, none⟩ (.int .i64 0)).cell? ⟨g24, 1, none⟩ = some (.int .i64 s) := (blk_cell HKg24_19.out 1).trans rfl; have cg24_2_19 : (((wb19.setCell ⟨g27, 0, none⟩ (.int .i64 0)).setCell ⟨g27, 1, none⟩ (.int .i64 0)).setCell ⟨g27, 2, none⟩ (.int .i64 0)).cell? ⟨g24, 2, none⟩ = some (.int .i64 m) := (blk_cell HKg24_19.out 2).trans rfl; clear hb hbox hg) | fail)
  go_ret
  exact ⟨rfl, HB19.out⟩
set_option maxHeartbeats 8000000 in
set_option maxRecDepth 100000 in
theorem SlotPicks_lt (g s m g' s' m' : Int) (o1 o2 o3 : Int) (odd : ByteArray) (w : World) (hs : Rt g s m) (ht : Rt g' s' m') (ho : odd.size ≤ 200) (hlt : g < g') (hodd : slot_Parse.f odd = some (o1, o2, o3, 0)) :
    Calls Try.prog 5 #[.agg #[.int .i64 g, .int .i64 s, .int .i64 m], .agg #[.int .i64 g', .int .i64 s', .int .i64 m'], .string odd] w fun e w' => e = .returned (.bool true) ∧ Below w.heap.size w w' := by
  have hu23 := Try.underlying23
  have HRS := Aside0.mk (show assartref03_Right.f g s m = some true by rw [refRight_val, decide_eq_true hs])
  have HRT := Aside0.mk (show assartref03_Right.f g' s' m' = some true by rw [refRight_val, decide_eq_true ht])
  have do' : decide ((200 : Int) < odd.size) = false := by simp; omega
  have d1 : (if g < g' then g' else g) = g' := if_pos hlt
  have hlt2 : g < g' := hlt
  have d2 : (g != g') = true := by rw [bne_iff_ne]; omega
  have d3 : (g == g') = false := by rw [beq_eq_false_iff_ne]; omega
  have hA := pick_val 0 (parse_blk hs) (parse_blk ht)
  have hC := pick_val 0 (parse_blk ht) (parse_blk hs)
  have hp1 := print_ok hs
  have hp2 := print_ok ht
  generalize blk g s m = S1 at hA hC hp1
  generalize blk g' s' m' = S2 at hA hC hp2
  have HA : Aside0 (slot_Pick.f 1 S1 S2 = some (1, g', s', m', 0)) := ⟨by rw [hA]; first | (simp [hlt]; done) | (simp [hlt]; omega)⟩
  have HC : Aside0 (slot_Pick.f 1 S2 S1 = some (0, g', s', m', 0)) := ⟨by rw [hC]; first | (simp [hlt]; done) | (simp [hlt]; omega)⟩
  have HP1 := Aside0.mk hp1
  have HP2 := Aside0.mk hp2
  have HO := Aside0.mk hodd
  clear hA hC hp1 hp2 hodd hs ht ho hlt
  go_enter Try.func5, Try.ntmps5
  go_wp2_with (first | ((with_reducible refine gate_dst (N := 3) rfl ?_); refine box_event ?hg (N := 3) ?hd (cs := #[.int .i64 g, .int .i64 s, .int .i64 m]) (t := 23) ?hr ?_; (case hd => rfl); (case hg => rfl); (case hr => first | (go_simp; done) | (go_simp; rfl)); intro g3 hg wb1 hbox hb; have HB1 := Aside0.mk hb; have HGg3 : Aside0 (w.heap.size ≤ g3) := ⟨by rw [hg]; exact Nat.le_refl _⟩; have HKg3_1 := Aside0.mk hbox; clear hb hbox hg) | ((with_reducible refine gate_dst (N := 4) rfl ?_); refine box_event ?hg (N := 4) ?hd (cs := #[.int .i64 g', .int .i64 s', .int .i64 m']) (t := 23) ?hr ?_; (case hd => rfl); (case hg => rfl); (case hr => first | (go_simp; done) | (go_simp; rfl)); intro g4 hg wb2 hbox hb; have HB2 := Aside0.mk (HB1.out.trans (hb.mono HB1.out.size)); have HGg4 : Aside0 (w.heap.size ≤ g4) := ⟨by rw [hg]; exact HB1.out.size⟩; have HKg4_2 := Aside0.mk hbox; have HKg3_2 := Aside0.mk (blk_below HKg3_1.out hb); clear hb hbox hg) | fail)
  refine (assartlaw03_shown.calls true _ rfl).mono ?_
  rintro e wc3 ⟨rfl, hb⟩
  have HB3 : Aside0 (Below w.heap.size w wc3) := ⟨HB2.out.trans (hb.mono HB2.out.size)⟩
  have HKg3_3 := Aside0.mk (blk_below HKg3_2.out hb)
  have HKg4_3 := Aside0.mk (blk_below HKg4_2.out hb)
  clear hb HB2 HKg3_2 HKg4_2
  have cg3_0_3 : wc3.cell? ⟨g3, 0, none⟩ = some (.int .i64 g) := (blk_cell HKg3_3.out 0).trans rfl
  have cg3_1_3 : wc3.cell? ⟨g3, 1, none⟩ = some (.int .i64 s) := (blk_cell HKg3_3.out 1).trans rfl
  have cg3_2_3 : wc3.cell? ⟨g3, 2, none⟩ = some (.int .i64 m) := (blk_cell HKg3_3.out 2).trans rfl
  go_wp2_with fail
  refine (assartref03_Right.calls _ _ _ _ _ HRS.out).mono ?_
  rintro e wc4 ⟨rfl, hb⟩
  have HB4 : Aside0 (Below w.heap.size w wc4) := ⟨HB3.out.trans (hb.mono HB3.out.size)⟩
  have HKg3_4 := Aside0.mk (blk_below HKg3_3.out hb)
  have HKg4_4 := Aside0.mk (blk_below HKg4_3.out hb)
  clear cg3_0_3 cg3_1_3 cg3_2_3
  clear hb HB3 HKg3_3 HKg4_3
  have cg4_0_4 : wc4.cell? ⟨g4, 0, none⟩ = some (.int .i64 g') := (blk_cell HKg4_4.out 0).trans rfl
  have cg4_1_4 : wc4.cell? ⟨g4, 1, none⟩ = some (.int .i64 s') := (blk_cell HKg4_4.out 1).trans rfl
  have cg4_2_4 : wc4.cell? ⟨g4, 2, none⟩ = some (.int .i64 m') := (blk_cell HKg4_4.out 2).trans rfl
  go_wp2_with fail
  refine (assartref03_Right.calls _ _ _ _ _ HRT.out).mono ?_
  rintro e wc5 ⟨rfl, hb⟩
  have HB5 : Aside0 (Below w.heap.size w wc5) := ⟨HB4.out.trans (hb.mono HB4.out.size)⟩
  have HKg3_5 := Aside0.mk (blk_below HKg3_4.out hb)
  have HKg4_5 := Aside0.mk (blk_below HKg4_4.out hb)
  clear cg4_0_4 cg4_1_4 cg4_2_4
  clear hb HB4 HKg3_4 HKg4_4
  have cg3_0_5 : wc5.cell? ⟨g3, 0, none⟩ = some (.int .i64 g) := (blk_cell HKg3_5.out 0).trans rfl
  have cg3_1_5 : wc5.cell? ⟨g3, 1, none⟩ = some (.int .i64 s) := (blk_cell HKg3_5.out 1).trans rfl
  have cg3_2_5 : wc5.cell? ⟨g3, 2, none⟩ = some (.int .i64 m) := (blk_cell HKg3_5.out 2).trans rfl
  go_wp2_with fail
  refine (slot_Print.calls _ _ _ _ _ _ HP1.out).mono ?_
  rintro e wc6 ⟨rfl, hb⟩
  have HB6 : Aside0 (Below w.heap.size w wc6) := ⟨HB5.out.trans (hb.mono HB5.out.size)⟩
  have HKg3_6 := Aside0.mk (blk_below HKg3_5.out hb)
  have HKg4_6 := Aside0.mk (blk_below HKg4_5.out hb)
  clear cg3_0_5 cg3_1_5 cg3_2_5
  clear hb HB5 HKg3_5 HKg4_5
  have cg4_0_6 : wc6.cell? ⟨g4, 0, none⟩ = some (.int .i64 g') := (blk_cell HKg4_6.out 0).trans rfl
  have cg4_1_6 : wc6.cell? ⟨g4, 1, none⟩ = some (.int .i64 s') := (blk_cell HKg4_6.out 1).trans rfl
  have cg4_2_6 : wc6.cell? ⟨g4, 2, none⟩ = some (.int .i64 m') := (blk_cell HKg4_6.out 2).trans rfl
  go_wp2_with fail
  refine (slot_Print.calls _ _ _ _ _ _ HP2.out).mono ?_
  rintro e wc7 ⟨rfl, hb⟩
  have HB7 : Aside0 (Below w.heap.size w wc7) := ⟨HB6.out.trans (hb.mono HB6.out.size)⟩
  have HKg3_7 := Aside0.mk (blk_below HKg3_6.out hb)
  have HKg4_7 := Aside0.mk (blk_below HKg4_6.out hb)
  clear cg4_0_6 cg4_1_6 cg4_2_6
  clear hb HB6 HKg3_6 HKg4_6
  go_wp2_with fail
  refine (slot_Pick.calls 1 _ _ _ _ _ _ _ _ HA.out).mono ?_
  rintro e wc8 ⟨rfl, hb⟩
  have HB8 : Aside0 (Below w.heap.size w wc8) := ⟨HB7.out.trans (hb.mono HB7.out.size)⟩
  have HKg3_8 := Aside0.mk (blk_below HKg3_7.out hb)
  have HKg4_8 := Aside0.mk (blk_below HKg4_7.out hb)
  clear hb HB7 HKg3_7 HKg4_7
  go_wp2_with (first | ((with_reducible refine gate_dst (N := 13) rfl ?_); refine box_event ?hg (N := 13) ?hd (cs := #[.int .i64 0, .int .i64 0, .int .i64 0]) (t := 23) ?hr ?_; (case hd => rfl); (case hg => rfl); (case hr => first | (go_simp; done) | (go_simp; rfl)); intro g13 hg wb9 hbox hb; have f0_9 := blk_frozen hbox 0; have x0_9 : wb9.cell? ⟨g13, 0, none⟩ = some (.int .i64 0) := (blk_cell hbox 0).trans rfl; have f1_9 := blk_frozen hbox 1; have x1_9 : wb9.cell? ⟨g13, 1, none⟩ = some (.int .i64 0) := (blk_cell hbox 1).trans rfl; have f2_9 := blk_frozen hbox 2; have x2_9 : wb9.cell? ⟨g13, 2, none⟩ = some (.int .i64 0) := (blk_cell hbox 2).trans rfl; have HGg13 : Aside0 (w.heap.size ≤ g13) := ⟨by rw [hg]; exact HB8.out.size⟩; have HB9 := Aside0.mk (below_set (j := 2) (v := .int .i64 m') (below_set (j := 1) (v := .int .i64 s') (below_set (j := 0) (v := .int .i64 g') (HB8.out.trans (hb.mono HB8.out.size)) HGg13.out) HGg13.out) HGg13.out); have HNg3_9 : Aside0 (g3 ≠ g13) := ⟨by have := blk_lt HKg3_8.out; rw [hg]; omega⟩; have HKg3_9 := Aside0.mk (blk_far (blk_far (blk_far (blk_below HKg3_8.out hb) (p := ⟨g13, 0, none⟩) HNg3_9.out (.int .i64 g')) (p := ⟨g13, 1, none⟩) HNg3_9.out (.int .i64 s')) (p := ⟨g13, 2, none⟩) HNg3_9.out (.int .i64 m')); have HNg4_9 : Aside0 (g4 ≠ g13) := ⟨by have := blk_lt HKg4_8.out; rw [hg]; omega⟩; have HKg4_9 := Aside0.mk (blk_far (blk_far (blk_far (blk_below HKg4_8.out hb) (p := ⟨g13, 0, none⟩) HNg4_9.out (.int .i64 g')) (p := ⟨g13, 1, none⟩) HNg4_9.out (.int .i64 s')) (p := ⟨g13, 2, none⟩) HNg4_9.out (.int .i64 m')); have HKg13_9 := Aside0.mk (blk_put (cs' := #[.int .i64 g', .int .i64 s', .int .i64 m']) (blk_put (cs' := #[.int .i64 g', .int .i64 s', .int .i64 0]) (blk_put (cs' := #[.int .i64 g', .int .i64 0, .int .i64 0]) hbox 0 (.int .i64 g') rfl) 1 (.int .i64 s') rfl) 2 (.int .i64 m') rfl); clear hb hbox hg) | fail)
  refine (slot_Pick.calls 1 _ _ _ _ _ _ _ _ HC.out).mono ?_
  rintro e wc10 ⟨rfl, hb⟩
  have HB10 : Aside0 (Below w.heap.size w wc10) := ⟨HB9.out.trans (hb.mono HB9.out.size)⟩
  have HKg3_10 := Aside0.mk (blk_below HKg3_9.out hb)
  have HKg4_10 := Aside0.mk (blk_below HKg4_9.out hb)
  have HKg13_10 := Aside0.mk (blk_below HKg13_9.out hb)
  clear f0_9 x0_9 f1_9 x1_9 f2_9 x2_9
  clear hb HB9 HKg3_9 HKg4_9 HKg13_9
  go_wp2_with (first | ((with_reducible refine gate_dst (N := 16) rfl ?_); refine box_event ?hg (N := 16) ?hd (cs := #[.int .i64 0, .int .i64 0, .int .i64 0]) (t := 23) ?hr ?_; (case hd => rfl); (case hg => rfl); (case hr => first | (go_simp; done) | (go_simp; rfl)); intro g16 hg wb11 hbox hb; have f0_11 := blk_frozen hbox 0; have x0_11 : wb11.cell? ⟨g16, 0, none⟩ = some (.int .i64 0) := (blk_cell hbox 0).trans rfl; have f1_11 := blk_frozen hbox 1; have x1_11 : wb11.cell? ⟨g16, 1, none⟩ = some (.int .i64 0) := (blk_cell hbox 1).trans rfl; have f2_11 := blk_frozen hbox 2; have x2_11 : wb11.cell? ⟨g16, 2, none⟩ = some (.int .i64 0) := (blk_cell hbox 2).trans rfl; have HGg16 : Aside0 (w.heap.size ≤ g16) := ⟨by rw [hg]; exact HB10.out.size⟩; have HB11 := Aside0.mk (below_set (j := 2) (v := .int .i64 m') (below_set (j := 1) (v := .int .i64 s') (below_set (j := 0) (v := .int .i64 g') (HB10.out.trans (hb.mono HB10.out.size)) HGg16.out) HGg16.out) HGg16.out); have HNg3_11 : Aside0 (g3 ≠ g16) := ⟨by have := blk_lt HKg3_10.out; rw [hg]; omega⟩; have HKg3_11 := Aside0.mk (blk_far (blk_far (blk_far (blk_below HKg3_10.out hb) (p := ⟨g16, 0, none⟩) HNg3_11.out (.int .i64 g')) (p := ⟨g16, 1, none⟩) HNg3_11.out (.int .i64 s')) (p := ⟨g16, 2, none⟩) HNg3_11.out (.int .i64 m')); have HNg4_11 : Aside0 (g4 ≠ g16) := ⟨by have := blk_lt HKg4_10.out; rw [hg]; omega⟩; have HKg4_11 := Aside0.mk (blk_far (blk_far (blk_far (blk_below HKg4_10.out hb) (p := ⟨g16, 0, none⟩) HNg4_11.out (.int .i64 g')) (p := ⟨g16, 1, none⟩) HNg4_11.out (.int .i64 s')) (p := ⟨g16, 2, none⟩) HNg4_11.out (.int .i64 m')); have HNg13_11 : Aside0 (g13 ≠ g16) := ⟨by have := blk_lt HKg13_10.out; rw [hg]; omega⟩; have HKg13_11 := Aside0.mk (blk_far (blk_far (blk_far (blk_below HKg13_10.out hb) (p := ⟨g16, 0, none⟩) HNg13_11.out (.int .i64 g')) (p := ⟨g16, 1, none⟩) HNg13_11.out (.int .i64 s')) (p := ⟨g16, 2, none⟩) HNg13_11.out (.int .i64 m')); have HKg16_11 := Aside0.mk (blk_put (cs' := #[.int .i64 g', .int .i64 s', .int .i64 m']) (blk_put (cs' := #[.int .i64 g', .int .i64 s', .int .i64 0]) (blk_put (cs' := #[.int .i64 g', .int .i64 0, .int .i64 0]) hbox 0 (.int .i64 g') rfl) 1 (.int .i64 s') rfl) 2 (.int .i64 m') rfl); have cg3_0_11 : (((wb11.setCell ⟨g16, 0, none⟩ (.int .i64 g')).setCell ⟨g16, 1, none⟩ (.int .i64 s')).setCell ⟨g16, 2, none⟩ (.int .i64 m')).cell? ⟨g3, 0, none⟩ = some (.int .i64 g) := (blk_cell HKg3_11.out 0).trans rfl; have cg3_1_11 : (((wb11.setCell ⟨g16, 0, none⟩ (.int .i64 g')).setCell ⟨g16, 1, none⟩ (.int .i64 s')).setCell ⟨g16, 2, none⟩ (.int .i64 m')).cell? ⟨g3, 1, none⟩ = some (.int .i64 s) := (blk_cell HKg3_11.out 1).trans rfl; have cg3_2_11 : (((wb11.setCell ⟨g16, 0, none⟩ (.int .i64 g')).setCell ⟨g16, 1, none⟩ (.int .i64 s')).setCell ⟨g16, 2, none⟩ (.int .i64 m')).cell? ⟨g3, 2, none⟩ = some (.int .i64 m) := (blk_cell HKg3_11.out 2).trans rfl; have cg4_0_11 : (((wb11.setCell ⟨g16, 0, none⟩ (.int .i64 g')).setCell ⟨g16, 1, none⟩ (.int .i64 s')).setCell ⟨g16, 2, none⟩ (.int .i64 m')).cell? ⟨g4, 0, none⟩ = some (.int .i64 g') := (blk_cell HKg4_11.out 0).trans rfl; have cg4_1_11 : (((wb11.setCell ⟨g16, 0, none⟩ (.int .i64 g')).setCell ⟨g16, 1, none⟩ (.int .i64 s')).setCell ⟨g16, 2, none⟩ (.int .i64 m')).cell? ⟨g4, 1, none⟩ = some (.int .i64 s') := (blk_cell HKg4_11.out 1).trans rfl; have cg4_2_11 : (((wb11.setCell ⟨g16, 0, none⟩ (.int .i64 g')).setCell ⟨g16, 1, none⟩ (.int .i64 s')).setCell ⟨g16, 2, none⟩ (.int .i64 m')).cell? ⟨g4, 2, none⟩ = some (.int .i64 m') := (blk_cell HKg4_11.out 2).trans rfl; have cg13_0_11 : (((wb11.setCell ⟨g16, 0, none⟩ (.int .i64 g')).setCell ⟨g16, 1, none⟩ (.int .i64 s')).setCell ⟨g16, 2, none⟩ (.int .i64 m')).cell? ⟨g13, 0, none⟩ = some (.int .i64 g') := (blk_cell HKg13_11.out 0).trans rfl; have cg13_1_11 : (((wb11.setCell ⟨g16, 0, none⟩ (.int .i64 g')).setCell ⟨g16, 1, none⟩ (.int .i64 s')).setCell ⟨g16, 2, none⟩ (.int .i64 m')).cell? ⟨g13, 1, none⟩ = some (.int .i64 s') := (blk_cell HKg13_11.out 1).trans rfl; have cg13_2_11 : (((wb11.setCell ⟨g16, 0, none⟩ (.int .i64 g')).setCell ⟨g16, 1, none⟩ (.int .i64 s')).setCell ⟨g16, 2, none⟩ (.int .i64 m')).cell? ⟨g13, 2, none⟩ = some (.int .i64 m') := (blk_cell HKg13_11.out 2).trans rfl; have cg16_0_11 : (((wb11.setCell ⟨g16, 0, none⟩ (.int .i64 g')).setCell ⟨g16, 1, none⟩ (.int .i64 s')).setCell ⟨g16, 2, none⟩ (.int .i64 m')).cell? ⟨g16, 0, none⟩ = some (.int .i64 g') := (blk_cell HKg16_11.out 0).trans rfl; have cg16_1_11 : (((wb11.setCell ⟨g16, 0, none⟩ (.int .i64 g')).setCell ⟨g16, 1, none⟩ (.int .i64 s')).setCell ⟨g16, 2, none⟩ (.int .i64 m')).cell? ⟨g16, 1, none⟩ = some (.int .i64 s') := (blk_cell HKg16_11.out 1).trans rfl; have cg16_2_11 : (((wb11.setCell ⟨g16, 0, none⟩ (.int .i64 g')).setCell ⟨g16, 1, none⟩ (.int .i64 s')).setCell ⟨g16, 2, none⟩ (.int .i64 m')).cell? ⟨g16, 2, none⟩ = some (.int .i64 m') := (blk_cell HKg16_11.out 2).trans rfl; clear hb hbox hg) | fail)
  refine (slot_Parse.calls _ _ _ _ _ _ HO.out).mono ?_
  rintro e wc12 ⟨rfl, hb⟩
  have HB12 : Aside0 (Below w.heap.size w wc12) := ⟨HB11.out.trans (hb.mono HB11.out.size)⟩
  have HKg3_12 := Aside0.mk (blk_below HKg3_11.out hb)
  have HKg4_12 := Aside0.mk (blk_below HKg4_11.out hb)
  have HKg13_12 := Aside0.mk (blk_below HKg13_11.out hb)
  have HKg16_12 := Aside0.mk (blk_below HKg16_11.out hb)
  clear f0_11 x0_11 f1_11 x1_11 f2_11 x2_11 cg3_0_11 cg3_1_11 cg3_2_11 cg4_0_11 cg4_1_11 cg4_2_11 cg13_0_11 cg13_1_11 cg13_2_11 cg16_0_11 cg16_1_11 cg16_2_11
  clear hb HB11 HKg3_11 HKg4_11 HKg13_11 HKg16_11
  go_wp2_with (first | ((with_reducible refine gate_dst (N := 18) rfl ?_); refine box_event ?hg (N := 18) ?hd (cs := #[.int .i64 0, .int .i64 0, .int .i64 0]) (t := 23) ?hr ?_; (case hd => rfl); (case hg => rfl); (case hr => first | (go_simp; done) | (go_simp; rfl)); intro g18 hg wb13 hbox hb; have f0_13 := blk_frozen hbox 0; have x0_13 : wb13.cell? ⟨g18, 0, none⟩ = some (.int .i64 0) := (blk_cell hbox 0).trans rfl; have f1_13 := blk_frozen hbox 1; have x1_13 : wb13.cell? ⟨g18, 1, none⟩ = some (.int .i64 0) := (blk_cell hbox 1).trans rfl; have f2_13 := blk_frozen hbox 2; have x2_13 : wb13.cell? ⟨g18, 2, none⟩ = some (.int .i64 0) := (blk_cell hbox 2).trans rfl; have HGg18 : Aside0 (w.heap.size ≤ g18) := ⟨by rw [hg]; exact HB12.out.size⟩; have HB13 := Aside0.mk (below_set (j := 2) (v := .int .i64 o3) (below_set (j := 1) (v := .int .i64 o2) (below_set (j := 0) (v := .int .i64 o1) (HB12.out.trans (hb.mono HB12.out.size)) HGg18.out) HGg18.out) HGg18.out); have HNg3_13 : Aside0 (g3 ≠ g18) := ⟨by have := blk_lt HKg3_12.out; rw [hg]; omega⟩; have HKg3_13 := Aside0.mk (blk_far (blk_far (blk_far (blk_below HKg3_12.out hb) (p := ⟨g18, 0, none⟩) HNg3_13.out (.int .i64 o1)) (p := ⟨g18, 1, none⟩) HNg3_13.out (.int .i64 o2)) (p := ⟨g18, 2, none⟩) HNg3_13.out (.int .i64 o3)); have HNg4_13 : Aside0 (g4 ≠ g18) := ⟨by have := blk_lt HKg4_12.out; rw [hg]; omega⟩; have HKg4_13 := Aside0.mk (blk_far (blk_far (blk_far (blk_below HKg4_12.out hb) (p := ⟨g18, 0, none⟩) HNg4_13.out (.int .i64 o1)) (p := ⟨g18, 1, none⟩) HNg4_13.out (.int .i64 o2)) (p := ⟨g18, 2, none⟩) HNg4_13.out (.int .i64 o3)); have HNg13_13 : Aside0 (g13 ≠ g18) := ⟨by have := blk_lt HKg13_12.out; rw [hg]; omega⟩; have HKg13_13 := Aside0.mk (blk_far (blk_far (blk_far (blk_below HKg13_12.out hb) (p := ⟨g18, 0, none⟩) HNg13_13.out (.int .i64 o1)) (p := ⟨g18, 1, none⟩) HNg13_13.out (.int .i64 o2)) (p := ⟨g18, 2, none⟩) HNg13_13.out (.int .i64 o3)); have HNg16_13 : Aside0 (g16 ≠ g18) := ⟨by have := blk_lt HKg16_12.out; rw [hg]; omega⟩; have HKg16_13 := Aside0.mk (blk_far (blk_far (blk_far (blk_below HKg16_12.out hb) (p := ⟨g18, 0, none⟩) HNg16_13.out (.int .i64 o1)) (p := ⟨g18, 1, none⟩) HNg16_13.out (.int .i64 o2)) (p := ⟨g18, 2, none⟩) HNg16_13.out (.int .i64 o3)); have HKg18_13 := Aside0.mk (blk_put (cs' := #[.int .i64 o1, .int .i64 o2, .int .i64 o3]) (blk_put (cs' := #[.int .i64 o1, .int .i64 o2, .int .i64 0]) (blk_put (cs' := #[.int .i64 o1, .int .i64 0, .int .i64 0]) hbox 0 (.int .i64 o1) rfl) 1 (.int .i64 o2) rfl) 2 (.int .i64 o3) rfl); clear hb hbox hg) | fail)
  go_ret
  exact ⟨rfl, HB13.out⟩
set_option maxHeartbeats 8000000 in
set_option maxRecDepth 100000 in
theorem SlotPicks_gt0 (g s m g' s' m' : Int) (odd : ByteArray) (w : World) (hs : Rt g s m) (ht : Rt g' s' m') (ho : odd.size ≤ 200) (hlt : g' < g) (hodd : slot_Parse.f odd = some (0, 0, 0, 2)) :
    Calls Try.prog 5 #[.agg #[.int .i64 g, .int .i64 s, .int .i64 m], .agg #[.int .i64 g', .int .i64 s', .int .i64 m'], .string odd] w fun e w' => e = .returned (.bool true) ∧ Below w.heap.size w w' := by
  have hu23 := Try.underlying23
  have HRS := Aside0.mk (show assartref03_Right.f g s m = some true by rw [refRight_val, decide_eq_true hs])
  have HRT := Aside0.mk (show assartref03_Right.f g' s' m' = some true by rw [refRight_val, decide_eq_true ht])
  have do' : decide ((200 : Int) < odd.size) = false := by simp; omega
  have d1 : (if g < g' then g' else g) = g := if_neg (by omega)
  have hlt2 : ¬ g < g' := by omega
  have d2 : (g != g') = true := by rw [bne_iff_ne]; omega
  have d3 : (g == g') = false := by rw [beq_eq_false_iff_ne]; omega
  have hA := pick_val 0 (parse_blk hs) (parse_blk ht)
  have hC := pick_val 0 (parse_blk ht) (parse_blk hs)
  have hp1 := print_ok hs
  have hp2 := print_ok ht
  have hX := pick_val 0 (parse_blk hs) hodd
  have hY := pick_val 0 hodd (parse_blk hs)
  have hZ := pick_val 0 hodd hodd
  generalize blk g s m = S1 at hA hC hp1 hX hY
  generalize blk g' s' m' = S2 at hA hC hp2
  have HA : Aside0 (slot_Pick.f 1 S1 S2 = some (0, g, s, m, 0)) := ⟨by rw [hA]; first | (simp [hlt]; done) | (simp [hlt]; omega)⟩
  have HC : Aside0 (slot_Pick.f 1 S2 S1 = some (1, g, s, m, 0)) := ⟨by rw [hC]; first | (simp [hlt]; done) | (simp [hlt]; omega)⟩
  have HX : Aside0 (slot_Pick.f 1 S1 odd = some (0, g, s, m, 0)) := ⟨by rw [hX]; simp⟩
  have HY : Aside0 (slot_Pick.f 1 odd S1 = some (1, g, s, m, 0)) := ⟨by rw [hY]; simp⟩
  have HZ : Aside0 (slot_Pick.f 1 odd odd = some (0, 0, 0, 0, 4)) := ⟨by rw [hZ]; simp⟩
  have HP1 := Aside0.mk hp1
  have HP2 := Aside0.mk hp2
  have HO := Aside0.mk hodd
  clear hA hC hp1 hp2 hodd hs ht ho hlt hX hY hZ
  go_enter Try.func5, Try.ntmps5
  go_wp2_with (first | ((with_reducible refine gate_dst (N := 3) rfl ?_); refine box_event ?hg (N := 3) ?hd (cs := #[.int .i64 g, .int .i64 s, .int .i64 m]) (t := 23) ?hr ?_; (case hd => rfl); (case hg => rfl); (case hr => first | (go_simp; done) | (go_simp; rfl)); intro g3 hg wb1 hbox hb; have HB1 := Aside0.mk hb; have HGg3 : Aside0 (w.heap.size ≤ g3) := ⟨by rw [hg]; exact Nat.le_refl _⟩; have HKg3_1 := Aside0.mk hbox; clear hb hbox hg) | ((with_reducible refine gate_dst (N := 4) rfl ?_); refine box_event ?hg (N := 4) ?hd (cs := #[.int .i64 g', .int .i64 s', .int .i64 m']) (t := 23) ?hr ?_; (case hd => rfl); (case hg => rfl); (case hr => first | (go_simp; done) | (go_simp; rfl)); intro g4 hg wb2 hbox hb; have HB2 := Aside0.mk (HB1.out.trans (hb.mono HB1.out.size)); have HGg4 : Aside0 (w.heap.size ≤ g4) := ⟨by rw [hg]; exact HB1.out.size⟩; have HKg4_2 := Aside0.mk hbox; have HKg3_2 := Aside0.mk (blk_below HKg3_1.out hb); clear hb hbox hg) | fail)
  refine (assartlaw03_shown.calls true _ rfl).mono ?_
  rintro e wc3 ⟨rfl, hb⟩
  have HB3 : Aside0 (Below w.heap.size w wc3) := ⟨HB2.out.trans (hb.mono HB2.out.size)⟩
  have HKg3_3 := Aside0.mk (blk_below HKg3_2.out hb)
  have HKg4_3 := Aside0.mk (blk_below HKg4_2.out hb)
  clear hb HB2 HKg3_2 HKg4_2
  have cg3_0_3 : wc3.cell? ⟨g3, 0, none⟩ = some (.int .i64 g) := (blk_cell HKg3_3.out 0).trans rfl
  have cg3_1_3 : wc3.cell? ⟨g3, 1, none⟩ = some (.int .i64 s) := (blk_cell HKg3_3.out 1).trans rfl
  have cg3_2_3 : wc3.cell? ⟨g3, 2, none⟩ = some (.int .i64 m) := (blk_cell HKg3_3.out 2).trans rfl
  go_wp2_with fail
  refine (assartref03_Right.calls _ _ _ _ _ HRS.out).mono ?_
  rintro e wc4 ⟨rfl, hb⟩
  have HB4 : Aside0 (Below w.heap.size w wc4) := ⟨HB3.out.trans (hb.mono HB3.out.size)⟩
  have HKg3_4 := Aside0.mk (blk_below HKg3_3.out hb)
  have HKg4_4 := Aside0.mk (blk_below HKg4_3.out hb)
  clear cg3_0_3 cg3_1_3 cg3_2_3
  clear hb HB3 HKg3_3 HKg4_3
  have cg4_0_4 : wc4.cell? ⟨g4, 0, none⟩ = some (.int .i64 g') := (blk_cell HKg4_4.out 0).trans rfl
  have cg4_1_4 : wc4.cell? ⟨g4, 1, none⟩ = some (.int .i64 s') := (blk_cell HKg4_4.out 1).trans rfl
  have cg4_2_4 : wc4.cell? ⟨g4, 2, none⟩ = some (.int .i64 m') := (blk_cell HKg4_4.out 2).trans rfl
  go_wp2_with fail
  refine (assartref03_Right.calls _ _ _ _ _ HRT.out).mono ?_
  rintro e wc5 ⟨rfl, hb⟩
  have HB5 : Aside0 (Below w.heap.size w wc5) := ⟨HB4.out.trans (hb.mono HB4.out.size)⟩
  have HKg3_5 := Aside0.mk (blk_below HKg3_4.out hb)
  have HKg4_5 := Aside0.mk (blk_below HKg4_4.out hb)
  clear cg4_0_4 cg4_1_4 cg4_2_4
  clear hb HB4 HKg3_4 HKg4_4
  have cg3_0_5 : wc5.cell? ⟨g3, 0, none⟩ = some (.int .i64 g) := (blk_cell HKg3_5.out 0).trans rfl
  have cg3_1_5 : wc5.cell? ⟨g3, 1, none⟩ = some (.int .i64 s) := (blk_cell HKg3_5.out 1).trans rfl
  have cg3_2_5 : wc5.cell? ⟨g3, 2, none⟩ = some (.int .i64 m) := (blk_cell HKg3_5.out 2).trans rfl
  go_wp2_with fail
  refine (slot_Print.calls _ _ _ _ _ _ HP1.out).mono ?_
  rintro e wc6 ⟨rfl, hb⟩
  have HB6 : Aside0 (Below w.heap.size w wc6) := ⟨HB5.out.trans (hb.mono HB5.out.size)⟩
  have HKg3_6 := Aside0.mk (blk_below HKg3_5.out hb)
  have HKg4_6 := Aside0.mk (blk_below HKg4_5.out hb)
  clear cg3_0_5 cg3_1_5 cg3_2_5
  clear hb HB5 HKg3_5 HKg4_5
  have cg4_0_6 : wc6.cell? ⟨g4, 0, none⟩ = some (.int .i64 g') := (blk_cell HKg4_6.out 0).trans rfl
  have cg4_1_6 : wc6.cell? ⟨g4, 1, none⟩ = some (.int .i64 s') := (blk_cell HKg4_6.out 1).trans rfl
  have cg4_2_6 : wc6.cell? ⟨g4, 2, none⟩ = some (.int .i64 m') := (blk_cell HKg4_6.out 2).trans rfl
  go_wp2_with fail
  refine (slot_Print.calls _ _ _ _ _ _ HP2.out).mono ?_
  rintro e wc7 ⟨rfl, hb⟩
  have HB7 : Aside0 (Below w.heap.size w wc7) := ⟨HB6.out.trans (hb.mono HB6.out.size)⟩
  have HKg3_7 := Aside0.mk (blk_below HKg3_6.out hb)
  have HKg4_7 := Aside0.mk (blk_below HKg4_6.out hb)
  clear cg4_0_6 cg4_1_6 cg4_2_6
  clear hb HB6 HKg3_6 HKg4_6
  go_wp2_with fail
  refine (slot_Pick.calls 1 _ _ _ _ _ _ _ _ HA.out).mono ?_
  rintro e wc8 ⟨rfl, hb⟩
  have HB8 : Aside0 (Below w.heap.size w wc8) := ⟨HB7.out.trans (hb.mono HB7.out.size)⟩
  have HKg3_8 := Aside0.mk (blk_below HKg3_7.out hb)
  have HKg4_8 := Aside0.mk (blk_below HKg4_7.out hb)
  clear hb HB7 HKg3_7 HKg4_7
  go_wp2_with (first | ((with_reducible refine gate_dst (N := 13) rfl ?_); refine box_event ?hg (N := 13) ?hd (cs := #[.int .i64 0, .int .i64 0, .int .i64 0]) (t := 23) ?hr ?_; (case hd => rfl); (case hg => rfl); (case hr => first | (go_simp; done) | (go_simp; rfl)); intro g13 hg wb9 hbox hb; have f0_9 := blk_frozen hbox 0; have x0_9 : wb9.cell? ⟨g13, 0, none⟩ = some (.int .i64 0) := (blk_cell hbox 0).trans rfl; have f1_9 := blk_frozen hbox 1; have x1_9 : wb9.cell? ⟨g13, 1, none⟩ = some (.int .i64 0) := (blk_cell hbox 1).trans rfl; have f2_9 := blk_frozen hbox 2; have x2_9 : wb9.cell? ⟨g13, 2, none⟩ = some (.int .i64 0) := (blk_cell hbox 2).trans rfl; have HGg13 : Aside0 (w.heap.size ≤ g13) := ⟨by rw [hg]; exact HB8.out.size⟩; have HB9 := Aside0.mk (below_set (j := 2) (v := .int .i64 m) (below_set (j := 1) (v := .int .i64 s) (below_set (j := 0) (v := .int .i64 g) (HB8.out.trans (hb.mono HB8.out.size)) HGg13.out) HGg13.out) HGg13.out); have HNg3_9 : Aside0 (g3 ≠ g13) := ⟨by have := blk_lt HKg3_8.out; rw [hg]; omega⟩; have HKg3_9 := Aside0.mk (blk_far (blk_far (blk_far (blk_below HKg3_8.out hb) (p := ⟨g13, 0, none⟩) HNg3_9.out (.int .i64 g)) (p := ⟨g13, 1, none⟩) HNg3_9.out (.int .i64 s)) (p := ⟨g13, 2, none⟩) HNg3_9.out (.int .i64 m)); have HNg4_9 : Aside0 (g4 ≠ g13) := ⟨by have := blk_lt HKg4_8.out; rw [hg]; omega⟩; have HKg4_9 := Aside0.mk (blk_far (blk_far (blk_far (blk_below HKg4_8.out hb) (p := ⟨g13, 0, none⟩) HNg4_9.out (.int .i64 g)) (p := ⟨g13, 1, none⟩) HNg4_9.out (.int .i64 s)) (p := ⟨g13, 2, none⟩) HNg4_9.out (.int .i64 m)); have HKg13_9 := Aside0.mk (blk_put (cs' := #[.int .i64 g, .int .i64 s, .int .i64 m]) (blk_put (cs' := #[.int .i64 g, .int .i64 s, .int .i64 0]) (blk_put (cs' := #[.int .i64 g, .int .i64 0, .int .i64 0]) hbox 0 (.int .i64 g) rfl) 1 (.int .i64 s) rfl) 2 (.int .i64 m) rfl); clear hb hbox hg) | fail)
  refine (slot_Pick.calls 1 _ _ _ _ _ _ _ _ HC.out).mono ?_
  rintro e wc10 ⟨rfl, hb⟩
  have HB10 : Aside0 (Below w.heap.size w wc10) := ⟨HB9.out.trans (hb.mono HB9.out.size)⟩
  have HKg3_10 := Aside0.mk (blk_below HKg3_9.out hb)
  have HKg4_10 := Aside0.mk (blk_below HKg4_9.out hb)
  have HKg13_10 := Aside0.mk (blk_below HKg13_9.out hb)
  clear f0_9 x0_9 f1_9 x1_9 f2_9 x2_9
  clear hb HB9 HKg3_9 HKg4_9 HKg13_9
  go_wp2_with (first | ((with_reducible refine gate_dst (N := 16) rfl ?_); refine box_event ?hg (N := 16) ?hd (cs := #[.int .i64 0, .int .i64 0, .int .i64 0]) (t := 23) ?hr ?_; (case hd => rfl); (case hg => rfl); (case hr => first | (go_simp; done) | (go_simp; rfl)); intro g16 hg wb11 hbox hb; have f0_11 := blk_frozen hbox 0; have x0_11 : wb11.cell? ⟨g16, 0, none⟩ = some (.int .i64 0) := (blk_cell hbox 0).trans rfl; have f1_11 := blk_frozen hbox 1; have x1_11 : wb11.cell? ⟨g16, 1, none⟩ = some (.int .i64 0) := (blk_cell hbox 1).trans rfl; have f2_11 := blk_frozen hbox 2; have x2_11 : wb11.cell? ⟨g16, 2, none⟩ = some (.int .i64 0) := (blk_cell hbox 2).trans rfl; have HGg16 : Aside0 (w.heap.size ≤ g16) := ⟨by rw [hg]; exact HB10.out.size⟩; have HB11 := Aside0.mk (below_set (j := 2) (v := .int .i64 m) (below_set (j := 1) (v := .int .i64 s) (below_set (j := 0) (v := .int .i64 g) (HB10.out.trans (hb.mono HB10.out.size)) HGg16.out) HGg16.out) HGg16.out); have HNg3_11 : Aside0 (g3 ≠ g16) := ⟨by have := blk_lt HKg3_10.out; rw [hg]; omega⟩; have HKg3_11 := Aside0.mk (blk_far (blk_far (blk_far (blk_below HKg3_10.out hb) (p := ⟨g16, 0, none⟩) HNg3_11.out (.int .i64 g)) (p := ⟨g16, 1, none⟩) HNg3_11.out (.int .i64 s)) (p := ⟨g16, 2, none⟩) HNg3_11.out (.int .i64 m)); have HNg4_11 : Aside0 (g4 ≠ g16) := ⟨by have := blk_lt HKg4_10.out; rw [hg]; omega⟩; have HKg4_11 := Aside0.mk (blk_far (blk_far (blk_far (blk_below HKg4_10.out hb) (p := ⟨g16, 0, none⟩) HNg4_11.out (.int .i64 g)) (p := ⟨g16, 1, none⟩) HNg4_11.out (.int .i64 s)) (p := ⟨g16, 2, none⟩) HNg4_11.out (.int .i64 m)); have HNg13_11 : Aside0 (g13 ≠ g16) := ⟨by have := blk_lt HKg13_10.out; rw [hg]; omega⟩; have HKg13_11 := Aside0.mk (blk_far (blk_far (blk_far (blk_below HKg13_10.out hb) (p := ⟨g16, 0, none⟩) HNg13_11.out (.int .i64 g)) (p := ⟨g16, 1, none⟩) HNg13_11.out (.int .i64 s)) (p := ⟨g16, 2, none⟩) HNg13_11.out (.int .i64 m)); have HKg16_11 := Aside0.mk (blk_put (cs' := #[.int .i64 g, .int .i64 s, .int .i64 m]) (blk_put (cs' := #[.int .i64 g, .int .i64 s, .int .i64 0]) (blk_put (cs' := #[.int .i64 g, .int .i64 0, .int .i64 0]) hbox 0 (.int .i64 g) rfl) 1 (.int .i64 s) rfl) 2 (.int .i64 m) rfl); have cg3_0_11 : (((wb11.setCell ⟨g16, 0, none⟩ (.int .i64 g)).setCell ⟨g16, 1, none⟩ (.int .i64 s)).setCell ⟨g16, 2, none⟩ (.int .i64 m)).cell? ⟨g3, 0, none⟩ = some (.int .i64 g) := (blk_cell HKg3_11.out 0).trans rfl; have cg3_1_11 : (((wb11.setCell ⟨g16, 0, none⟩ (.int .i64 g)).setCell ⟨g16, 1, none⟩ (.int .i64 s)).setCell ⟨g16, 2, none⟩ (.int .i64 m)).cell? ⟨g3, 1, none⟩ = some (.int .i64 s) := (blk_cell HKg3_11.out 1).trans rfl; have cg3_2_11 : (((wb11.setCell ⟨g16, 0, none⟩ (.int .i64 g)).setCell ⟨g16, 1, none⟩ (.int .i64 s)).setCell ⟨g16, 2, none⟩ (.int .i64 m)).cell? ⟨g3, 2, none⟩ = some (.int .i64 m) := (blk_cell HKg3_11.out 2).trans rfl; have cg4_0_11 : (((wb11.setCell ⟨g16, 0, none⟩ (.int .i64 g)).setCell ⟨g16, 1, none⟩ (.int .i64 s)).setCell ⟨g16, 2, none⟩ (.int .i64 m)).cell? ⟨g4, 0, none⟩ = some (.int .i64 g') := (blk_cell HKg4_11.out 0).trans rfl; have cg4_1_11 : (((wb11.setCell ⟨g16, 0, none⟩ (.int .i64 g)).setCell ⟨g16, 1, none⟩ (.int .i64 s)).setCell ⟨g16, 2, none⟩ (.int .i64 m)).cell? ⟨g4, 1, none⟩ = some (.int .i64 s') := (blk_cell HKg4_11.out 1).trans rfl; have cg4_2_11 : (((wb11.setCell ⟨g16, 0, none⟩ (.int .i64 g)).setCell ⟨g16, 1, none⟩ (.int .i64 s)).setCell ⟨g16, 2, none⟩ (.int .i64 m)).cell? ⟨g4, 2, none⟩ = some (.int .i64 m') := (blk_cell HKg4_11.out 2).trans rfl; have cg13_0_11 : (((wb11.setCell ⟨g16, 0, none⟩ (.int .i64 g)).setCell ⟨g16, 1, none⟩ (.int .i64 s)).setCell ⟨g16, 2, none⟩ (.int .i64 m)).cell? ⟨g13, 0, none⟩ = some (.int .i64 g) := (blk_cell HKg13_11.out 0).trans rfl; have cg13_1_11 : (((wb11.setCell ⟨g16, 0, none⟩ (.int .i64 g)).setCell ⟨g16, 1, none⟩ (.int .i64 s)).setCell ⟨g16, 2, none⟩ (.int .i64 m)).cell? ⟨g13, 1, none⟩ = some (.int .i64 s) := (blk_cell HKg13_11.out 1).trans rfl; have cg13_2_11 : (((wb11.setCell ⟨g16, 0, none⟩ (.int .i64 g)).setCell ⟨g16, 1, none⟩ (.int .i64 s)).setCell ⟨g16, 2, none⟩ (.int .i64 m)).cell? ⟨g13, 2, none⟩ = some (.int .i64 m) := (blk_cell HKg13_11.out 2).trans rfl; have cg16_0_11 : (((wb11.setCell ⟨g16, 0, none⟩ (.int .i64 g)).setCell ⟨g16, 1, none⟩ (.int .i64 s)).setCell ⟨g16, 2, none⟩ (.int .i64 m)).cell? ⟨g16, 0, none⟩ = some (.int .i64 g) := (blk_cell HKg16_11.out 0).trans rfl; have cg16_1_11 : (((wb11.setCell ⟨g16, 0, none⟩ (.int .i64 g)).setCell ⟨g16, 1, none⟩ (.int .i64 s)).setCell ⟨g16, 2, none⟩ (.int .i64 m)).cell? ⟨g16, 1, none⟩ = some (.int .i64 s) := (blk_cell HKg16_11.out 1).trans rfl; have cg16_2_11 : (((wb11.setCell ⟨g16, 0, none⟩ (.int .i64 g)).setCell ⟨g16, 1, none⟩ (.int .i64 s)).setCell ⟨g16, 2, none⟩ (.int .i64 m)).cell? ⟨g16, 2, none⟩ = some (.int .i64 m) := (blk_cell HKg16_11.out 2).trans rfl; clear hb hbox hg) | fail)
  refine (slot_Parse.calls _ _ _ _ _ _ HO.out).mono ?_
  rintro e wc12 ⟨rfl, hb⟩
  have HB12 : Aside0 (Below w.heap.size w wc12) := ⟨HB11.out.trans (hb.mono HB11.out.size)⟩
  have HKg3_12 := Aside0.mk (blk_below HKg3_11.out hb)
  have HKg4_12 := Aside0.mk (blk_below HKg4_11.out hb)
  have HKg13_12 := Aside0.mk (blk_below HKg13_11.out hb)
  have HKg16_12 := Aside0.mk (blk_below HKg16_11.out hb)
  clear f0_11 x0_11 f1_11 x1_11 f2_11 x2_11 cg3_0_11 cg3_1_11 cg3_2_11 cg4_0_11 cg4_1_11 cg4_2_11 cg13_0_11 cg13_1_11 cg13_2_11 cg16_0_11 cg16_1_11 cg16_2_11
  clear hb HB11 HKg3_11 HKg4_11 HKg13_11 HKg16_11
  go_wp2_with (first | ((with_reducible refine gate_dst (N := 18) rfl ?_); refine box_event ?hg (N := 18) ?hd (cs := #[.int .i64 0, .int .i64 0, .int .i64 0]) (t := 23) ?hr ?_; (case hd => rfl); (case hg => rfl); (case hr => first | (go_simp; done) | (go_simp; rfl)); intro g18 hg wb13 hbox hb; have f0_13 := blk_frozen hbox 0; have x0_13 : wb13.cell? ⟨g18, 0, none⟩ = some (.int .i64 0) := (blk_cell hbox 0).trans rfl; have f1_13 := blk_frozen hbox 1; have x1_13 : wb13.cell? ⟨g18, 1, none⟩ = some (.int .i64 0) := (blk_cell hbox 1).trans rfl; have f2_13 := blk_frozen hbox 2; have x2_13 : wb13.cell? ⟨g18, 2, none⟩ = some (.int .i64 0) := (blk_cell hbox 2).trans rfl; have HGg18 : Aside0 (w.heap.size ≤ g18) := ⟨by rw [hg]; exact HB12.out.size⟩; have HB13 := Aside0.mk (below_set (j := 2) (v := .int .i64 0) (below_set (j := 1) (v := .int .i64 0) (below_set (j := 0) (v := .int .i64 0) (HB12.out.trans (hb.mono HB12.out.size)) HGg18.out) HGg18.out) HGg18.out); have HNg3_13 : Aside0 (g3 ≠ g18) := ⟨by have := blk_lt HKg3_12.out; rw [hg]; omega⟩; have HKg3_13 := Aside0.mk (blk_far (blk_far (blk_far (blk_below HKg3_12.out hb) (p := ⟨g18, 0, none⟩) HNg3_13.out (.int .i64 0)) (p := ⟨g18, 1, none⟩) HNg3_13.out (.int .i64 0)) (p := ⟨g18, 2, none⟩) HNg3_13.out (.int .i64 0)); have HNg4_13 : Aside0 (g4 ≠ g18) := ⟨by have := blk_lt HKg4_12.out; rw [hg]; omega⟩; have HKg4_13 := Aside0.mk (blk_far (blk_far (blk_far (blk_below HKg4_12.out hb) (p := ⟨g18, 0, none⟩) HNg4_13.out (.int .i64 0)) (p := ⟨g18, 1, none⟩) HNg4_13.out (.int .i64 0)) (p := ⟨g18, 2, none⟩) HNg4_13.out (.int .i64 0)); have HNg13_13 : Aside0 (g13 ≠ g18) := ⟨by have := blk_lt HKg13_12.out; rw [hg]; omega⟩; have HKg13_13 := Aside0.mk (blk_far (blk_far (blk_far (blk_below HKg13_12.out hb) (p := ⟨g18, 0, none⟩) HNg13_13.out (.int .i64 0)) (p := ⟨g18, 1, none⟩) HNg13_13.out (.int .i64 0)) (p := ⟨g18, 2, none⟩) HNg13_13.out (.int .i64 0)); have HNg16_13 : Aside0 (g16 ≠ g18) := ⟨by have := blk_lt HKg16_12.out; rw [hg]; omega⟩; have HKg16_13 := Aside0.mk (blk_far (blk_far (blk_far (blk_below HKg16_12.out hb) (p := ⟨g18, 0, none⟩) HNg16_13.out (.int .i64 0)) (p := ⟨g18, 1, none⟩) HNg16_13.out (.int .i64 0)) (p := ⟨g18, 2, none⟩) HNg16_13.out (.int .i64 0)); have HKg18_13 := Aside0.mk (blk_put (cs' := #[.int .i64 0, .int .i64 0, .int .i64 0]) (blk_put (cs' := #[.int .i64 0, .int .i64 0, .int .i64 0]) (blk_put (cs' := #[.int .i64 0, .int .i64 0, .int .i64 0]) hbox 0 (.int .i64 0) rfl) 1 (.int .i64 0) rfl) 2 (.int .i64 0) rfl); clear hb hbox hg) | fail)
  refine (slot_Pick.calls 1 _ _ _ _ _ _ _ _ HX.out).mono ?_
  rintro e wc14 ⟨rfl, hb⟩
  have HB14 : Aside0 (Below w.heap.size w wc14) := ⟨HB13.out.trans (hb.mono HB13.out.size)⟩
  have HKg3_14 := Aside0.mk (blk_below HKg3_13.out hb)
  have HKg4_14 := Aside0.mk (blk_below HKg4_13.out hb)
  have HKg13_14 := Aside0.mk (blk_below HKg13_13.out hb)
  have HKg16_14 := Aside0.mk (blk_below HKg16_13.out hb)
  have HKg18_14 := Aside0.mk (blk_below HKg18_13.out hb)
  clear f0_13 x0_13 f1_13 x1_13 f2_13 x2_13
  clear hb HB13 HKg3_13 HKg4_13 HKg13_13 HKg16_13 HKg18_13
  go_wp2_with (first | ((with_reducible refine gate_dst (N := 21) rfl ?_); refine box_event ?hg (N := 21) ?hd (cs := #[.int .i64 0, .int .i64 0, .int .i64 0]) (t := 23) ?hr ?_; (case hd => rfl); (case hg => rfl); (case hr => first | (go_simp; done) | (go_simp; rfl)); intro g21 hg wb15 hbox hb; have f0_15 := blk_frozen hbox 0; have x0_15 : wb15.cell? ⟨g21, 0, none⟩ = some (.int .i64 0) := (blk_cell hbox 0).trans rfl; have f1_15 := blk_frozen hbox 1; have x1_15 : wb15.cell? ⟨g21, 1, none⟩ = some (.int .i64 0) := (blk_cell hbox 1).trans rfl; have f2_15 := blk_frozen hbox 2; have x2_15 : wb15.cell? ⟨g21, 2, none⟩ = some (.int .i64 0) := (blk_cell hbox 2).trans rfl; have HGg21 : Aside0 (w.heap.size ≤ g21) := ⟨by rw [hg]; exact HB14.out.size⟩; have HB15 := Aside0.mk (below_set (j := 2) (v := .int .i64 m) (below_set (j := 1) (v := .int .i64 s) (below_set (j := 0) (v := .int .i64 g) (HB14.out.trans (hb.mono HB14.out.size)) HGg21.out) HGg21.out) HGg21.out); have HNg3_15 : Aside0 (g3 ≠ g21) := ⟨by have := blk_lt HKg3_14.out; rw [hg]; omega⟩; have HKg3_15 := Aside0.mk (blk_far (blk_far (blk_far (blk_below HKg3_14.out hb) (p := ⟨g21, 0, none⟩) HNg3_15.out (.int .i64 g)) (p := ⟨g21, 1, none⟩) HNg3_15.out (.int .i64 s)) (p := ⟨g21, 2, none⟩) HNg3_15.out (.int .i64 m)); have HNg4_15 : Aside0 (g4 ≠ g21) := ⟨by have := blk_lt HKg4_14.out; rw [hg]; omega⟩; have HKg4_15 := Aside0.mk (blk_far (blk_far (blk_far (blk_below HKg4_14.out hb) (p := ⟨g21, 0, none⟩) HNg4_15.out (.int .i64 g)) (p := ⟨g21, 1, none⟩) HNg4_15.out (.int .i64 s)) (p := ⟨g21, 2, none⟩) HNg4_15.out (.int .i64 m)); have HNg13_15 : Aside0 (g13 ≠ g21) := ⟨by have := blk_lt HKg13_14.out; rw [hg]; omega⟩; have HKg13_15 := Aside0.mk (blk_far (blk_far (blk_far (blk_below HKg13_14.out hb) (p := ⟨g21, 0, none⟩) HNg13_15.out (.int .i64 g)) (p := ⟨g21, 1, none⟩) HNg13_15.out (.int .i64 s)) (p := ⟨g21, 2, none⟩) HNg13_15.out (.int .i64 m)); have HNg16_15 : Aside0 (g16 ≠ g21) := ⟨by have := blk_lt HKg16_14.out; rw [hg]; omega⟩; have HKg16_15 := Aside0.mk (blk_far (blk_far (blk_far (blk_below HKg16_14.out hb) (p := ⟨g21, 0, none⟩) HNg16_15.out (.int .i64 g)) (p := ⟨g21, 1, none⟩) HNg16_15.out (.int .i64 s)) (p := ⟨g21, 2, none⟩) HNg16_15.out (.int .i64 m)); have HNg18_15 : Aside0 (g18 ≠ g21) := ⟨by have := blk_lt HKg18_14.out; rw [hg]; omega⟩; have HKg18_15 := Aside0.mk (blk_far (blk_far (blk_far (blk_below HKg18_14.out hb) (p := ⟨g21, 0, none⟩) HNg18_15.out (.int .i64 g)) (p := ⟨g21, 1, none⟩) HNg18_15.out (.int .i64 s)) (p := ⟨g21, 2, none⟩) HNg18_15.out (.int .i64 m)); have HKg21_15 := Aside0.mk (blk_put (cs' := #[.int .i64 g, .int .i64 s, .int .i64 m]) (blk_put (cs' := #[.int .i64 g, .int .i64 s, .int .i64 0]) (blk_put (cs' := #[.int .i64 g, .int .i64 0, .int .i64 0]) hbox 0 (.int .i64 g) rfl) 1 (.int .i64 s) rfl) 2 (.int .i64 m) rfl); clear hb hbox hg) | fail)
  refine (slot_Pick.calls 1 _ _ _ _ _ _ _ _ HY.out).mono ?_
  rintro e wc16 ⟨rfl, hb⟩
  have HB16 : Aside0 (Below w.heap.size w wc16) := ⟨HB15.out.trans (hb.mono HB15.out.size)⟩
  have HKg3_16 := Aside0.mk (blk_below HKg3_15.out hb)
  have HKg4_16 := Aside0.mk (blk_below HKg4_15.out hb)
  have HKg13_16 := Aside0.mk (blk_below HKg13_15.out hb)
  have HKg16_16 := Aside0.mk (blk_below HKg16_15.out hb)
  have HKg18_16 := Aside0.mk (blk_below HKg18_15.out hb)
  have HKg21_16 := Aside0.mk (blk_below HKg21_15.out hb)
  clear f0_15 x0_15 f1_15 x1_15 f2_15 x2_15
  clear hb HB15 HKg3_15 HKg4_15 HKg13_15 HKg16_15 HKg18_15 HKg21_15
  go_wp2_with (first | ((with_reducible refine gate_dst (N := 24) rfl ?_); refine box_event ?hg (N := 24) ?hd (cs := #[.int .i64 0, .int .i64 0, .int .i64 0]) (t := 23) ?hr ?_; (case hd => rfl); (case hg => rfl); (case hr => first | (go_simp; done) | (go_simp; rfl)); intro g24 hg wb17 hbox hb; have f0_17 := blk_frozen hbox 0; have x0_17 : wb17.cell? ⟨g24, 0, none⟩ = some (.int .i64 0) := (blk_cell hbox 0).trans rfl; have f1_17 := blk_frozen hbox 1; have x1_17 : wb17.cell? ⟨g24, 1, none⟩ = some (.int .i64 0) := (blk_cell hbox 1).trans rfl; have f2_17 := blk_frozen hbox 2; have x2_17 : wb17.cell? ⟨g24, 2, none⟩ = some (.int .i64 0) := (blk_cell hbox 2).trans rfl; have HGg24 : Aside0 (w.heap.size ≤ g24) := ⟨by rw [hg]; exact HB16.out.size⟩; have HB17 := Aside0.mk (below_set (j := 2) (v := .int .i64 m) (below_set (j := 1) (v := .int .i64 s) (below_set (j := 0) (v := .int .i64 g) (HB16.out.trans (hb.mono HB16.out.size)) HGg24.out) HGg24.out) HGg24.out); have HNg3_17 : Aside0 (g3 ≠ g24) := ⟨by have := blk_lt HKg3_16.out; rw [hg]; omega⟩; have HKg3_17 := Aside0.mk (blk_far (blk_far (blk_far (blk_below HKg3_16.out hb) (p := ⟨g24, 0, none⟩) HNg3_17.out (.int .i64 g)) (p := ⟨g24, 1, none⟩) HNg3_17.out (.int .i64 s)) (p := ⟨g24, 2, none⟩) HNg3_17.out (.int .i64 m)); have HNg4_17 : Aside0 (g4 ≠ g24) := ⟨by have := blk_lt HKg4_16.out; rw [hg]; omega⟩; have HKg4_17 := Aside0.mk (blk_far (blk_far (blk_far (blk_below HKg4_16.out hb) (p := ⟨g24, 0, none⟩) HNg4_17.out (.int .i64 g)) (p := ⟨g24, 1, none⟩) HNg4_17.out (.int .i64 s)) (p := ⟨g24, 2, none⟩) HNg4_17.out (.int .i64 m)); have HNg13_17 : Aside0 (g13 ≠ g24) := ⟨by have := blk_lt HKg13_16.out; rw [hg]; omega⟩; have HKg13_17 := Aside0.mk (blk_far (blk_far (blk_far (blk_below HKg13_16.out hb) (p := ⟨g24, 0, none⟩) HNg13_17.out (.int .i64 g)) (p := ⟨g24, 1, none⟩) HNg13_17.out (.int .i64 s)) (p := ⟨g24, 2, none⟩) HNg13_17.out (.int .i64 m)); have HNg16_17 : Aside0 (g16 ≠ g24) := ⟨by have := blk_lt HKg16_16.out; rw [hg]; omega⟩; have HKg16_17 := Aside0.mk (blk_far (blk_far (blk_far (blk_below HKg16_16.out hb) (p := ⟨g24, 0, none⟩) HNg16_17.out (.int .i64 g)) (p := ⟨g24, 1, none⟩) HNg16_17.out (.int .i64 s)) (p := ⟨g24, 2, none⟩) HNg16_17.out (.int .i64 m)); have HNg18_17 : Aside0 (g18 ≠ g24) := ⟨by have := blk_lt HKg18_16.out; rw [hg]; omega⟩; have HKg18_17 := Aside0.mk (blk_far (blk_far (blk_far (blk_below HKg18_16.out hb) (p := ⟨g24, 0, none⟩) HNg18_17.out (.int .i64 g)) (p := ⟨g24, 1, none⟩) HNg18_17.out (.int .i64 s)) (p := ⟨g24, 2, none⟩) HNg18_17.out (.int .i64 m)); have HNg21_17 : Aside0 (g21 ≠ g24) := ⟨by have := blk_lt HKg21_16.out; rw [hg]; omega⟩; have HKg21_17 := Aside0.mk (blk_far (blk_far (blk_far (blk_below HKg21_16.out hb) (p := ⟨g24, 0, none⟩) HNg21_17.out (.int .i64 g)) (p := ⟨g24, 1, none⟩) HNg21_17.out (.int .i64 s)) (p := ⟨g24, 2, none⟩) HNg21_17.out (.int .i64 m)); have HKg24_17 := Aside0.mk (blk_put (cs' := #[.int .i64 g, .int .i64 s, .int .i64 m]) (blk_put (cs' := #[.int .i64 g, .int .i64 s, .int .i64 0]) (blk_put (cs' := #[.int .i64 g, .int .i64 0, .int .i64 0]) hbox 0 (.int .i64 g) rfl) 1 (.int .i64 s) rfl) 2 (.int .i64 m) rfl); clear hb hbox hg) | fail)
  refine (slot_Pick.calls 1 _ _ _ _ _ _ _ _ HZ.out).mono ?_
  rintro e wc18 ⟨rfl, hb⟩
  have HB18 : Aside0 (Below w.heap.size w wc18) := ⟨HB17.out.trans (hb.mono HB17.out.size)⟩
  have HKg3_18 := Aside0.mk (blk_below HKg3_17.out hb)
  have HKg4_18 := Aside0.mk (blk_below HKg4_17.out hb)
  have HKg13_18 := Aside0.mk (blk_below HKg13_17.out hb)
  have HKg16_18 := Aside0.mk (blk_below HKg16_17.out hb)
  have HKg18_18 := Aside0.mk (blk_below HKg18_17.out hb)
  have HKg21_18 := Aside0.mk (blk_below HKg21_17.out hb)
  have HKg24_18 := Aside0.mk (blk_below HKg24_17.out hb)
  clear f0_17 x0_17 f1_17 x1_17 f2_17 x2_17
  clear hb HB17 HKg3_17 HKg4_17 HKg13_17 HKg16_17 HKg18_17 HKg21_17 HKg24_17
  go_wp2_with (first | ((with_reducible refine gate_dst (N := 27) rfl ?_); refine box_event ?hg (N := 27) ?hd (cs := #[.int .i64 0, .int .i64 0, .int .i64 0]) (t := 23) ?hr ?_; (case hd => rfl); (case hg => rfl); (case hr => first | (go_simp; done) | (go_simp; rfl)); intro g27 hg wb19 hbox hb; have f0_19 := blk_frozen hbox 0; have x0_19 : wb19.cell? ⟨g27, 0, none⟩ = some (.int .i64 0) := (blk_cell hbox 0).trans rfl; have f1_19 := blk_frozen hbox 1; have x1_19 : wb19.cell? ⟨g27, 1, none⟩ = some (.int .i64 0) := (blk_cell hbox 1).trans rfl; have f2_19 := blk_frozen hbox 2; have x2_19 : wb19.cell? ⟨g27, 2, none⟩ = some (.int .i64 0) := (blk_cell hbox 2).trans rfl; have HGg27 : Aside0 (w.heap.size ≤ g27) := ⟨by rw [hg]; exact HB18.out.size⟩; have HB19 := Aside0.mk (below_set (j := 2) (v := .int .i64 0) (below_set (j := 1) (v := .int .i64 0) (below_set (j := 0) (v := .int .i64 0) (HB18.out.trans (hb.mono HB18.out.size)) HGg27.out) HGg27.out) HGg27.out); have HNg3_19 : Aside0 (g3 ≠ g27) := ⟨by have := blk_lt HKg3_18.out; rw [hg]; omega⟩; have HKg3_19 := Aside0.mk (blk_far (blk_far (blk_far (blk_below HKg3_18.out hb) (p := ⟨g27, 0, none⟩) HNg3_19.out (.int .i64 0)) (p := ⟨g27, 1, none⟩) HNg3_19.out (.int .i64 0)) (p := ⟨g27, 2, none⟩) HNg3_19.out (.int .i64 0)); have HNg4_19 : Aside0 (g4 ≠ g27) := ⟨by have := blk_lt HKg4_18.out; rw [hg]; omega⟩; have HKg4_19 := Aside0.mk (blk_far (blk_far (blk_far (blk_below HKg4_18.out hb) (p := ⟨g27, 0, none⟩) HNg4_19.out (.int .i64 0)) (p := ⟨g27, 1, none⟩) HNg4_19.out (.int .i64 0)) (p := ⟨g27, 2, none⟩) HNg4_19.out (.int .i64 0)); have HNg13_19 : Aside0 (g13 ≠ g27) := ⟨by have := blk_lt HKg13_18.out; rw [hg]; omega⟩; have HKg13_19 := Aside0.mk (blk_far (blk_far (blk_far (blk_below HKg13_18.out hb) (p := ⟨g27, 0, none⟩) HNg13_19.out (.int .i64 0)) (p := ⟨g27, 1, none⟩) HNg13_19.out (.int .i64 0)) (p := ⟨g27, 2, none⟩) HNg13_19.out (.int .i64 0)); have HNg16_19 : Aside0 (g16 ≠ g27) := ⟨by have := blk_lt HKg16_18.out; rw [hg]; omega⟩; have HKg16_19 := Aside0.mk (blk_far (blk_far (blk_far (blk_below HKg16_18.out hb) (p := ⟨g27, 0, none⟩) HNg16_19.out (.int .i64 0)) (p := ⟨g27, 1, none⟩) HNg16_19.out (.int .i64 0)) (p := ⟨g27, 2, none⟩) HNg16_19.out (.int .i64 0)); have HNg18_19 : Aside0 (g18 ≠ g27) := ⟨by have := blk_lt HKg18_18.out; rw [hg]; omega⟩; have HKg18_19 := Aside0.mk (blk_far (blk_far (blk_far (blk_below HKg18_18.out hb) (p := ⟨g27, 0, none⟩) HNg18_19.out (.int .i64 0)) (p := ⟨g27, 1, none⟩) HNg18_19.out (.int .i64 0)) (p := ⟨g27, 2, none⟩) HNg18_19.out (.int .i64 0)); have HNg21_19 : Aside0 (g21 ≠ g27) := ⟨by have := blk_lt HKg21_18.out; rw [hg]; omega⟩; have HKg21_19 := Aside0.mk (blk_far (blk_far (blk_far (blk_below HKg21_18.out hb) (p := ⟨g27, 0, none⟩) HNg21_19.out (.int .i64 0)) (p := ⟨g27, 1, none⟩) HNg21_19.out (.int .i64 0)) (p := ⟨g27, 2, none⟩) HNg21_19.out (.int .i64 0)); have HNg24_19 : Aside0 (g24 ≠ g27) := ⟨by have := blk_lt HKg24_18.out; rw [hg]; omega⟩; have HKg24_19 := Aside0.mk (blk_far (blk_far (blk_far (blk_below HKg24_18.out hb) (p := ⟨g27, 0, none⟩) HNg24_19.out (.int .i64 0)) (p := ⟨g27, 1, none⟩) HNg24_19.out (.int .i64 0)) (p := ⟨g27, 2, none⟩) HNg24_19.out (.int .i64 0)); have HKg27_19 := Aside0.mk (blk_put (cs' := #[.int .i64 0, .int .i64 0, .int .i64 0]) (blk_put (cs' := #[.int .i64 0, .int .i64 0, .int .i64 0]) (blk_put (cs' := #[.int .i64 0, .int .i64 0, .int .i64 0]) hbox 0 (.int .i64 0) rfl) 1 (.int .i64 0) rfl) 2 (.int .i64 0) rfl); have cg3_0_19 : (((wb19.setCell ⟨g27, 0, none⟩ (.int .i64 0)).setCell ⟨g27, 1, none⟩ (.int .i64 0)).setCell ⟨g27, 2, none⟩ (.int .i64 0)).cell? ⟨g3, 0, none⟩ = some (.int .i64 g) := (blk_cell HKg3_19.out 0).trans rfl; have cg3_1_19 : (((wb19.setCell ⟨g27, 0, none⟩ (.int .i64 0)).setCell ⟨g27, 1, none⟩ (.int .i64 0)).setCell ⟨g27, 2, none⟩ (.int .i64 0)).cell? ⟨g3, 1, none⟩ = some (.int .i64 s) := (blk_cell HKg3_19.out 1).trans rfl; have cg3_2_19 : (((wb19.setCell ⟨g27, 0, none⟩ (.int .i64 0)).setCell ⟨g27, 1, none⟩ (.int .i64 0)).setCell ⟨g27, 2, none⟩ (.int .i64 0)).cell? ⟨g3, 2, none⟩ = some (.int .i64 m) := (blk_cell HKg3_19.out 2).trans rfl; have cg21_0_19 : (((wb19.setCell ⟨g27, 0, none⟩ (.int .i64 0)).setCell ⟨g27, 1, none⟩ (.int .i64 0)).setCell ⟨g27, 2, none⟩ (.int .i64 0)).cell? ⟨g21, 0, none⟩ = some (.int .i64 g) := (blk_cell HKg21_19.out 0).trans rfl; have cg21_1_19 : (((wb19.setCell ⟨g27, 0, none⟩ (.int .i64 0)).setCell ⟨g27, 1, none⟩ (.int .i64 0)).setCell ⟨g27, 2, none⟩ (.int .i64 0)).cell? ⟨g21, 1, none⟩ = some (.int .i64 s) := (blk_cell HKg21_19.out 1).trans rfl; have cg21_2_19 : (((wb19.setCell ⟨g27, 0, none⟩ (.int .i64 0)).setCell ⟨g27, 1, none⟩ (.int .i64 0)).setCell ⟨g27, 2, none⟩ (.int .i64 0)).cell? ⟨g21, 2, none⟩ = some (.int .i64 m) := (blk_cell HKg21_19.out 2).trans rfl; have cg24_0_19 : (((wb19.setCell ⟨g27, 0, none⟩ (.int .i64 0)).setCell ⟨g27, 1, none⟩ (.int .i64 0)).setCell ⟨g27, 2, none⟩ (.int .i64 0)).cell? ⟨g24, 0, none⟩ = some (.int .i64 g) := (blk_cell HKg24_19.out 0).trans rfl; have cg24_1_19 : (((wb19.setCell ⟨g27, 0, none⟩ (.int .i64 0)).setCell ⟨g27, 1, none⟩ (.int .i64 0)).setCell ⟨g27, 2, none⟩ (.int .i64 0)).cell? ⟨g24, 1, none⟩ = some (.int .i64 s) := (blk_cell HKg24_19.out 1).trans rfl; have cg24_2_19 : (((wb19.setCell ⟨g27, 0, none⟩ (.int .i64 0)).setCell ⟨g27, 1, none⟩ (.int .i64 0)).setCell ⟨g27, 2, none⟩ (.int .i64 0)).cell? ⟨g24, 2, none⟩ = some (.int .i64 m) := (blk_cell HKg24_19.out 2).trans rfl; clear hb hbox hg) | fail)
  go_ret
  exact ⟨rfl, HB19.out⟩
set_option maxHeartbeats 8000000 in
set_option maxRecDepth 100000 in
theorem SlotPicks_gt (g s m g' s' m' : Int) (o1 o2 o3 : Int) (odd : ByteArray) (w : World) (hs : Rt g s m) (ht : Rt g' s' m') (ho : odd.size ≤ 200) (hlt : g' < g) (hodd : slot_Parse.f odd = some (o1, o2, o3, 0)) :
    Calls Try.prog 5 #[.agg #[.int .i64 g, .int .i64 s, .int .i64 m], .agg #[.int .i64 g', .int .i64 s', .int .i64 m'], .string odd] w fun e w' => e = .returned (.bool true) ∧ Below w.heap.size w w' := by
  have hu23 := Try.underlying23
  have HRS := Aside0.mk (show assartref03_Right.f g s m = some true by rw [refRight_val, decide_eq_true hs])
  have HRT := Aside0.mk (show assartref03_Right.f g' s' m' = some true by rw [refRight_val, decide_eq_true ht])
  have do' : decide ((200 : Int) < odd.size) = false := by simp; omega
  have d1 : (if g < g' then g' else g) = g := if_neg (by omega)
  have hlt2 : ¬ g < g' := by omega
  have d2 : (g != g') = true := by rw [bne_iff_ne]; omega
  have d3 : (g == g') = false := by rw [beq_eq_false_iff_ne]; omega
  have hA := pick_val 0 (parse_blk hs) (parse_blk ht)
  have hC := pick_val 0 (parse_blk ht) (parse_blk hs)
  have hp1 := print_ok hs
  have hp2 := print_ok ht
  generalize blk g s m = S1 at hA hC hp1
  generalize blk g' s' m' = S2 at hA hC hp2
  have HA : Aside0 (slot_Pick.f 1 S1 S2 = some (0, g, s, m, 0)) := ⟨by rw [hA]; first | (simp [hlt]; done) | (simp [hlt]; omega)⟩
  have HC : Aside0 (slot_Pick.f 1 S2 S1 = some (1, g, s, m, 0)) := ⟨by rw [hC]; first | (simp [hlt]; done) | (simp [hlt]; omega)⟩
  have HP1 := Aside0.mk hp1
  have HP2 := Aside0.mk hp2
  have HO := Aside0.mk hodd
  clear hA hC hp1 hp2 hodd hs ht ho hlt
  go_enter Try.func5, Try.ntmps5
  go_wp2_with (first | ((with_reducible refine gate_dst (N := 3) rfl ?_); refine box_event ?hg (N := 3) ?hd (cs := #[.int .i64 g, .int .i64 s, .int .i64 m]) (t := 23) ?hr ?_; (case hd => rfl); (case hg => rfl); (case hr => first | (go_simp; done) | (go_simp; rfl)); intro g3 hg wb1 hbox hb; have HB1 := Aside0.mk hb; have HGg3 : Aside0 (w.heap.size ≤ g3) := ⟨by rw [hg]; exact Nat.le_refl _⟩; have HKg3_1 := Aside0.mk hbox; clear hb hbox hg) | ((with_reducible refine gate_dst (N := 4) rfl ?_); refine box_event ?hg (N := 4) ?hd (cs := #[.int .i64 g', .int .i64 s', .int .i64 m']) (t := 23) ?hr ?_; (case hd => rfl); (case hg => rfl); (case hr => first | (go_simp; done) | (go_simp; rfl)); intro g4 hg wb2 hbox hb; have HB2 := Aside0.mk (HB1.out.trans (hb.mono HB1.out.size)); have HGg4 : Aside0 (w.heap.size ≤ g4) := ⟨by rw [hg]; exact HB1.out.size⟩; have HKg4_2 := Aside0.mk hbox; have HKg3_2 := Aside0.mk (blk_below HKg3_1.out hb); clear hb hbox hg) | fail)
  refine (assartlaw03_shown.calls true _ rfl).mono ?_
  rintro e wc3 ⟨rfl, hb⟩
  have HB3 : Aside0 (Below w.heap.size w wc3) := ⟨HB2.out.trans (hb.mono HB2.out.size)⟩
  have HKg3_3 := Aside0.mk (blk_below HKg3_2.out hb)
  have HKg4_3 := Aside0.mk (blk_below HKg4_2.out hb)
  clear hb HB2 HKg3_2 HKg4_2
  have cg3_0_3 : wc3.cell? ⟨g3, 0, none⟩ = some (.int .i64 g) := (blk_cell HKg3_3.out 0).trans rfl
  have cg3_1_3 : wc3.cell? ⟨g3, 1, none⟩ = some (.int .i64 s) := (blk_cell HKg3_3.out 1).trans rfl
  have cg3_2_3 : wc3.cell? ⟨g3, 2, none⟩ = some (.int .i64 m) := (blk_cell HKg3_3.out 2).trans rfl
  go_wp2_with fail
  refine (assartref03_Right.calls _ _ _ _ _ HRS.out).mono ?_
  rintro e wc4 ⟨rfl, hb⟩
  have HB4 : Aside0 (Below w.heap.size w wc4) := ⟨HB3.out.trans (hb.mono HB3.out.size)⟩
  have HKg3_4 := Aside0.mk (blk_below HKg3_3.out hb)
  have HKg4_4 := Aside0.mk (blk_below HKg4_3.out hb)
  clear cg3_0_3 cg3_1_3 cg3_2_3
  clear hb HB3 HKg3_3 HKg4_3
  have cg4_0_4 : wc4.cell? ⟨g4, 0, none⟩ = some (.int .i64 g') := (blk_cell HKg4_4.out 0).trans rfl
  have cg4_1_4 : wc4.cell? ⟨g4, 1, none⟩ = some (.int .i64 s') := (blk_cell HKg4_4.out 1).trans rfl
  have cg4_2_4 : wc4.cell? ⟨g4, 2, none⟩ = some (.int .i64 m') := (blk_cell HKg4_4.out 2).trans rfl
  go_wp2_with fail
  refine (assartref03_Right.calls _ _ _ _ _ HRT.out).mono ?_
  rintro e wc5 ⟨rfl, hb⟩
  have HB5 : Aside0 (Below w.heap.size w wc5) := ⟨HB4.out.trans (hb.mono HB4.out.size)⟩
  have HKg3_5 := Aside0.mk (blk_below HKg3_4.out hb)
  have HKg4_5 := Aside0.mk (blk_below HKg4_4.out hb)
  clear cg4_0_4 cg4_1_4 cg4_2_4
  clear hb HB4 HKg3_4 HKg4_4
  have cg3_0_5 : wc5.cell? ⟨g3, 0, none⟩ = some (.int .i64 g) := (blk_cell HKg3_5.out 0).trans rfl
  have cg3_1_5 : wc5.cell? ⟨g3, 1, none⟩ = some (.int .i64 s) := (blk_cell HKg3_5.out 1).trans rfl
  have cg3_2_5 : wc5.cell? ⟨g3, 2, none⟩ = some (.int .i64 m) := (blk_cell HKg3_5.out 2).trans rfl
  go_wp2_with fail
  refine (slot_Print.calls _ _ _ _ _ _ HP1.out).mono ?_
  rintro e wc6 ⟨rfl, hb⟩
  have HB6 : Aside0 (Below w.heap.size w wc6) := ⟨HB5.out.trans (hb.mono HB5.out.size)⟩
  have HKg3_6 := Aside0.mk (blk_below HKg3_5.out hb)
  have HKg4_6 := Aside0.mk (blk_below HKg4_5.out hb)
  clear cg3_0_5 cg3_1_5 cg3_2_5
  clear hb HB5 HKg3_5 HKg4_5
  have cg4_0_6 : wc6.cell? ⟨g4, 0, none⟩ = some (.int .i64 g') := (blk_cell HKg4_6.out 0).trans rfl
  have cg4_1_6 : wc6.cell? ⟨g4, 1, none⟩ = some (.int .i64 s') := (blk_cell HKg4_6.out 1).trans rfl
  have cg4_2_6 : wc6.cell? ⟨g4, 2, none⟩ = some (.int .i64 m') := (blk_cell HKg4_6.out 2).trans rfl
  go_wp2_with fail
  refine (slot_Print.calls _ _ _ _ _ _ HP2.out).mono ?_
  rintro e wc7 ⟨rfl, hb⟩
  have HB7 : Aside0 (Below w.heap.size w wc7) := ⟨HB6.out.trans (hb.mono HB6.out.size)⟩
  have HKg3_7 := Aside0.mk (blk_below HKg3_6.out hb)
  have HKg4_7 := Aside0.mk (blk_below HKg4_6.out hb)
  clear cg4_0_6 cg4_1_6 cg4_2_6
  clear hb HB6 HKg3_6 HKg4_6
  go_wp2_with fail
  refine (slot_Pick.calls 1 _ _ _ _ _ _ _ _ HA.out).mono ?_
  rintro e wc8 ⟨rfl, hb⟩
  have HB8 : Aside0 (Below w.heap.size w wc8) := ⟨HB7.out.trans (hb.mono HB7.out.size)⟩
  have HKg3_8 := Aside0.mk (blk_below HKg3_7.out hb)
  have HKg4_8 := Aside0.mk (blk_below HKg4_7.out hb)
  clear hb HB7 HKg3_7 HKg4_7
  go_wp2_with (first | ((with_reducible refine gate_dst (N := 13) rfl ?_); refine box_event ?hg (N := 13) ?hd (cs := #[.int .i64 0, .int .i64 0, .int .i64 0]) (t := 23) ?hr ?_; (case hd => rfl); (case hg => rfl); (case hr => first | (go_simp; done) | (go_simp; rfl)); intro g13 hg wb9 hbox hb; have f0_9 := blk_frozen hbox 0; have x0_9 : wb9.cell? ⟨g13, 0, none⟩ = some (.int .i64 0) := (blk_cell hbox 0).trans rfl; have f1_9 := blk_frozen hbox 1; have x1_9 : wb9.cell? ⟨g13, 1, none⟩ = some (.int .i64 0) := (blk_cell hbox 1).trans rfl; have f2_9 := blk_frozen hbox 2; have x2_9 : wb9.cell? ⟨g13, 2, none⟩ = some (.int .i64 0) := (blk_cell hbox 2).trans rfl; have HGg13 : Aside0 (w.heap.size ≤ g13) := ⟨by rw [hg]; exact HB8.out.size⟩; have HB9 := Aside0.mk (below_set (j := 2) (v := .int .i64 m) (below_set (j := 1) (v := .int .i64 s) (below_set (j := 0) (v := .int .i64 g) (HB8.out.trans (hb.mono HB8.out.size)) HGg13.out) HGg13.out) HGg13.out); have HNg3_9 : Aside0 (g3 ≠ g13) := ⟨by have := blk_lt HKg3_8.out; rw [hg]; omega⟩; have HKg3_9 := Aside0.mk (blk_far (blk_far (blk_far (blk_below HKg3_8.out hb) (p := ⟨g13, 0, none⟩) HNg3_9.out (.int .i64 g)) (p := ⟨g13, 1, none⟩) HNg3_9.out (.int .i64 s)) (p := ⟨g13, 2, none⟩) HNg3_9.out (.int .i64 m)); have HNg4_9 : Aside0 (g4 ≠ g13) := ⟨by have := blk_lt HKg4_8.out; rw [hg]; omega⟩; have HKg4_9 := Aside0.mk (blk_far (blk_far (blk_far (blk_below HKg4_8.out hb) (p := ⟨g13, 0, none⟩) HNg4_9.out (.int .i64 g)) (p := ⟨g13, 1, none⟩) HNg4_9.out (.int .i64 s)) (p := ⟨g13, 2, none⟩) HNg4_9.out (.int .i64 m)); have HKg13_9 := Aside0.mk (blk_put (cs' := #[.int .i64 g, .int .i64 s, .int .i64 m]) (blk_put (cs' := #[.int .i64 g, .int .i64 s, .int .i64 0]) (blk_put (cs' := #[.int .i64 g, .int .i64 0, .int .i64 0]) hbox 0 (.int .i64 g) rfl) 1 (.int .i64 s) rfl) 2 (.int .i64 m) rfl); clear hb hbox hg) | fail)
  refine (slot_Pick.calls 1 _ _ _ _ _ _ _ _ HC.out).mono ?_
  rintro e wc10 ⟨rfl, hb⟩
  have HB10 : Aside0 (Below w.heap.size w wc10) := ⟨HB9.out.trans (hb.mono HB9.out.size)⟩
  have HKg3_10 := Aside0.mk (blk_below HKg3_9.out hb)
  have HKg4_10 := Aside0.mk (blk_below HKg4_9.out hb)
  have HKg13_10 := Aside0.mk (blk_below HKg13_9.out hb)
  clear f0_9 x0_9 f1_9 x1_9 f2_9 x2_9
  clear hb HB9 HKg3_9 HKg4_9 HKg13_9
  go_wp2_with (first | ((with_reducible refine gate_dst (N := 16) rfl ?_); refine box_event ?hg (N := 16) ?hd (cs := #[.int .i64 0, .int .i64 0, .int .i64 0]) (t := 23) ?hr ?_; (case hd => rfl); (case hg => rfl); (case hr => first | (go_simp; done) | (go_simp; rfl)); intro g16 hg wb11 hbox hb; have f0_11 := blk_frozen hbox 0; have x0_11 : wb11.cell? ⟨g16, 0, none⟩ = some (.int .i64 0) := (blk_cell hbox 0).trans rfl; have f1_11 := blk_frozen hbox 1; have x1_11 : wb11.cell? ⟨g16, 1, none⟩ = some (.int .i64 0) := (blk_cell hbox 1).trans rfl; have f2_11 := blk_frozen hbox 2; have x2_11 : wb11.cell? ⟨g16, 2, none⟩ = some (.int .i64 0) := (blk_cell hbox 2).trans rfl; have HGg16 : Aside0 (w.heap.size ≤ g16) := ⟨by rw [hg]; exact HB10.out.size⟩; have HB11 := Aside0.mk (below_set (j := 2) (v := .int .i64 m) (below_set (j := 1) (v := .int .i64 s) (below_set (j := 0) (v := .int .i64 g) (HB10.out.trans (hb.mono HB10.out.size)) HGg16.out) HGg16.out) HGg16.out); have HNg3_11 : Aside0 (g3 ≠ g16) := ⟨by have := blk_lt HKg3_10.out; rw [hg]; omega⟩; have HKg3_11 := Aside0.mk (blk_far (blk_far (blk_far (blk_below HKg3_10.out hb) (p := ⟨g16, 0, none⟩) HNg3_11.out (.int .i64 g)) (p := ⟨g16, 1, none⟩) HNg3_11.out (.int .i64 s)) (p := ⟨g16, 2, none⟩) HNg3_11.out (.int .i64 m)); have HNg4_11 : Aside0 (g4 ≠ g16) := ⟨by have := blk_lt HKg4_10.out; rw [hg]; omega⟩; have HKg4_11 := Aside0.mk (blk_far (blk_far (blk_far (blk_below HKg4_10.out hb) (p := ⟨g16, 0, none⟩) HNg4_11.out (.int .i64 g)) (p := ⟨g16, 1, none⟩) HNg4_11.out (.int .i64 s)) (p := ⟨g16, 2, none⟩) HNg4_11.out (.int .i64 m)); have HNg13_11 : Aside0 (g13 ≠ g16) := ⟨by have := blk_lt HKg13_10.out; rw [hg]; omega⟩; have HKg13_11 := Aside0.mk (blk_far (blk_far (blk_far (blk_below HKg13_10.out hb) (p := ⟨g16, 0, none⟩) HNg13_11.out (.int .i64 g)) (p := ⟨g16, 1, none⟩) HNg13_11.out (.int .i64 s)) (p := ⟨g16, 2, none⟩) HNg13_11.out (.int .i64 m)); have HKg16_11 := Aside0.mk (blk_put (cs' := #[.int .i64 g, .int .i64 s, .int .i64 m]) (blk_put (cs' := #[.int .i64 g, .int .i64 s, .int .i64 0]) (blk_put (cs' := #[.int .i64 g, .int .i64 0, .int .i64 0]) hbox 0 (.int .i64 g) rfl) 1 (.int .i64 s) rfl) 2 (.int .i64 m) rfl); have cg3_0_11 : (((wb11.setCell ⟨g16, 0, none⟩ (.int .i64 g)).setCell ⟨g16, 1, none⟩ (.int .i64 s)).setCell ⟨g16, 2, none⟩ (.int .i64 m)).cell? ⟨g3, 0, none⟩ = some (.int .i64 g) := (blk_cell HKg3_11.out 0).trans rfl; have cg3_1_11 : (((wb11.setCell ⟨g16, 0, none⟩ (.int .i64 g)).setCell ⟨g16, 1, none⟩ (.int .i64 s)).setCell ⟨g16, 2, none⟩ (.int .i64 m)).cell? ⟨g3, 1, none⟩ = some (.int .i64 s) := (blk_cell HKg3_11.out 1).trans rfl; have cg3_2_11 : (((wb11.setCell ⟨g16, 0, none⟩ (.int .i64 g)).setCell ⟨g16, 1, none⟩ (.int .i64 s)).setCell ⟨g16, 2, none⟩ (.int .i64 m)).cell? ⟨g3, 2, none⟩ = some (.int .i64 m) := (blk_cell HKg3_11.out 2).trans rfl; have cg4_0_11 : (((wb11.setCell ⟨g16, 0, none⟩ (.int .i64 g)).setCell ⟨g16, 1, none⟩ (.int .i64 s)).setCell ⟨g16, 2, none⟩ (.int .i64 m)).cell? ⟨g4, 0, none⟩ = some (.int .i64 g') := (blk_cell HKg4_11.out 0).trans rfl; have cg4_1_11 : (((wb11.setCell ⟨g16, 0, none⟩ (.int .i64 g)).setCell ⟨g16, 1, none⟩ (.int .i64 s)).setCell ⟨g16, 2, none⟩ (.int .i64 m)).cell? ⟨g4, 1, none⟩ = some (.int .i64 s') := (blk_cell HKg4_11.out 1).trans rfl; have cg4_2_11 : (((wb11.setCell ⟨g16, 0, none⟩ (.int .i64 g)).setCell ⟨g16, 1, none⟩ (.int .i64 s)).setCell ⟨g16, 2, none⟩ (.int .i64 m)).cell? ⟨g4, 2, none⟩ = some (.int .i64 m') := (blk_cell HKg4_11.out 2).trans rfl; have cg13_0_11 : (((wb11.setCell ⟨g16, 0, none⟩ (.int .i64 g)).setCell ⟨g16, 1, none⟩ (.int .i64 s)).setCell ⟨g16, 2, none⟩ (.int .i64 m)).cell? ⟨g13, 0, none⟩ = some (.int .i64 g) := (blk_cell HKg13_11.out 0).trans rfl; have cg13_1_11 : (((wb11.setCell ⟨g16, 0, none⟩ (.int .i64 g)).setCell ⟨g16, 1, none⟩ (.int .i64 s)).setCell ⟨g16, 2, none⟩ (.int .i64 m)).cell? ⟨g13, 1, none⟩ = some (.int .i64 s) := (blk_cell HKg13_11.out 1).trans rfl; have cg13_2_11 : (((wb11.setCell ⟨g16, 0, none⟩ (.int .i64 g)).setCell ⟨g16, 1, none⟩ (.int .i64 s)).setCell ⟨g16, 2, none⟩ (.int .i64 m)).cell? ⟨g13, 2, none⟩ = some (.int .i64 m) := (blk_cell HKg13_11.out 2).trans rfl; have cg16_0_11 : (((wb11.setCell ⟨g16, 0, none⟩ (.int .i64 g)).setCell ⟨g16, 1, none⟩ (.int .i64 s)).setCell ⟨g16, 2, none⟩ (.int .i64 m)).cell? ⟨g16, 0, none⟩ = some (.int .i64 g) := (blk_cell HKg16_11.out 0).trans rfl; have cg16_1_11 : (((wb11.setCell ⟨g16, 0, none⟩ (.int .i64 g)).setCell ⟨g16, 1, none⟩ (.int .i64 s)).setCell ⟨g16, 2, none⟩ (.int .i64 m)).cell? ⟨g16, 1, none⟩ = some (.int .i64 s) := (blk_cell HKg16_11.out 1).trans rfl; have cg16_2_11 : (((wb11.setCell ⟨g16, 0, none⟩ (.int .i64 g)).setCell ⟨g16, 1, none⟩ (.int .i64 s)).setCell ⟨g16, 2, none⟩ (.int .i64 m)).cell? ⟨g16, 2, none⟩ = some (.int .i64 m) := (blk_cell HKg16_11.out 2).trans rfl; clear hb hbox hg) | fail)
  refine (slot_Parse.calls _ _ _ _ _ _ HO.out).mono ?_
  rintro e wc12 ⟨rfl, hb⟩
  have HB12 : Aside0 (Below w.heap.size w wc12) := ⟨HB11.out.trans (hb.mono HB11.out.size)⟩
  have HKg3_12 := Aside0.mk (blk_below HKg3_11.out hb)
  have HKg4_12 := Aside0.mk (blk_below HKg4_11.out hb)
  have HKg13_12 := Aside0.mk (blk_below HKg13_11.out hb)
  have HKg16_12 := Aside0.mk (blk_below HKg16_11.out hb)
  clear f0_11 x0_11 f1_11 x1_11 f2_11 x2_11 cg3_0_11 cg3_1_11 cg3_2_11 cg4_0_11 cg4_1_11 cg4_2_11 cg13_0_11 cg13_1_11 cg13_2_11 cg16_0_11 cg16_1_11 cg16_2_11
  clear hb HB11 HKg3_11 HKg4_11 HKg13_11 HKg16_11
  go_wp2_with (first | ((with_reducible refine gate_dst (N := 18) rfl ?_); refine box_event ?hg (N := 18) ?hd (cs := #[.int .i64 0, .int .i64 0, .int .i64 0]) (t := 23) ?hr ?_; (case hd => rfl); (case hg => rfl); (case hr => first | (go_simp; done) | (go_simp; rfl)); intro g18 hg wb13 hbox hb; have f0_13 := blk_frozen hbox 0; have x0_13 : wb13.cell? ⟨g18, 0, none⟩ = some (.int .i64 0) := (blk_cell hbox 0).trans rfl; have f1_13 := blk_frozen hbox 1; have x1_13 : wb13.cell? ⟨g18, 1, none⟩ = some (.int .i64 0) := (blk_cell hbox 1).trans rfl; have f2_13 := blk_frozen hbox 2; have x2_13 : wb13.cell? ⟨g18, 2, none⟩ = some (.int .i64 0) := (blk_cell hbox 2).trans rfl; have HGg18 : Aside0 (w.heap.size ≤ g18) := ⟨by rw [hg]; exact HB12.out.size⟩; have HB13 := Aside0.mk (below_set (j := 2) (v := .int .i64 o3) (below_set (j := 1) (v := .int .i64 o2) (below_set (j := 0) (v := .int .i64 o1) (HB12.out.trans (hb.mono HB12.out.size)) HGg18.out) HGg18.out) HGg18.out); have HNg3_13 : Aside0 (g3 ≠ g18) := ⟨by have := blk_lt HKg3_12.out; rw [hg]; omega⟩; have HKg3_13 := Aside0.mk (blk_far (blk_far (blk_far (blk_below HKg3_12.out hb) (p := ⟨g18, 0, none⟩) HNg3_13.out (.int .i64 o1)) (p := ⟨g18, 1, none⟩) HNg3_13.out (.int .i64 o2)) (p := ⟨g18, 2, none⟩) HNg3_13.out (.int .i64 o3)); have HNg4_13 : Aside0 (g4 ≠ g18) := ⟨by have := blk_lt HKg4_12.out; rw [hg]; omega⟩; have HKg4_13 := Aside0.mk (blk_far (blk_far (blk_far (blk_below HKg4_12.out hb) (p := ⟨g18, 0, none⟩) HNg4_13.out (.int .i64 o1)) (p := ⟨g18, 1, none⟩) HNg4_13.out (.int .i64 o2)) (p := ⟨g18, 2, none⟩) HNg4_13.out (.int .i64 o3)); have HNg13_13 : Aside0 (g13 ≠ g18) := ⟨by have := blk_lt HKg13_12.out; rw [hg]; omega⟩; have HKg13_13 := Aside0.mk (blk_far (blk_far (blk_far (blk_below HKg13_12.out hb) (p := ⟨g18, 0, none⟩) HNg13_13.out (.int .i64 o1)) (p := ⟨g18, 1, none⟩) HNg13_13.out (.int .i64 o2)) (p := ⟨g18, 2, none⟩) HNg13_13.out (.int .i64 o3)); have HNg16_13 : Aside0 (g16 ≠ g18) := ⟨by have := blk_lt HKg16_12.out; rw [hg]; omega⟩; have HKg16_13 := Aside0.mk (blk_far (blk_far (blk_far (blk_below HKg16_12.out hb) (p := ⟨g18, 0, none⟩) HNg16_13.out (.int .i64 o1)) (p := ⟨g18, 1, none⟩) HNg16_13.out (.int .i64 o2)) (p := ⟨g18, 2, none⟩) HNg16_13.out (.int .i64 o3)); have HKg18_13 := Aside0.mk (blk_put (cs' := #[.int .i64 o1, .int .i64 o2, .int .i64 o3]) (blk_put (cs' := #[.int .i64 o1, .int .i64 o2, .int .i64 0]) (blk_put (cs' := #[.int .i64 o1, .int .i64 0, .int .i64 0]) hbox 0 (.int .i64 o1) rfl) 1 (.int .i64 o2) rfl) 2 (.int .i64 o3) rfl); clear hb hbox hg) | fail)
  go_ret
  exact ⟨rfl, HB13.out⟩
set_option maxHeartbeats 8000000 in
set_option maxRecDepth 100000 in
theorem SlotPicks_eq0 (g s m g' s' m' : Int) (odd : ByteArray) (w : World) (hs : Rt g s m) (ht : Rt g' s' m') (ho : odd.size ≤ 200) (hlt : g' = g) (hodd : slot_Parse.f odd = some (0, 0, 0, 2)) :
    Calls Try.prog 5 #[.agg #[.int .i64 g, .int .i64 s, .int .i64 m], .agg #[.int .i64 g', .int .i64 s', .int .i64 m'], .string odd] w fun e w' => e = .returned (.bool true) ∧ Below w.heap.size w w' := by
  have hu23 := Try.underlying23
  have HRS := Aside0.mk (show assartref03_Right.f g s m = some true by rw [refRight_val, decide_eq_true hs])
  have HRT := Aside0.mk (show assartref03_Right.f g' s' m' = some true by rw [refRight_val, decide_eq_true ht])
  have do' : decide ((200 : Int) < odd.size) = false := by simp; omega
  subst hlt
  have hlt : True := trivial
  have d1 : (if g' < g' then g' else g') = g' := if_neg (by omega)
  have hA := pick_val 0 (parse_blk hs) (parse_blk ht)
  have hC := pick_val 0 (parse_blk ht) (parse_blk hs)
  have hp1 := print_ok hs
  have hp2 := print_ok ht
  have hX := pick_val 0 (parse_blk hs) hodd
  have hY := pick_val 0 hodd (parse_blk hs)
  have hZ := pick_val 0 hodd hodd
  generalize blk g' s m = S1 at hA hC hp1 hX hY
  generalize blk g' s' m' = S2 at hA hC hp2
  have HA : Aside0 (slot_Pick.f 1 S1 S2 = some (0, g', s, m, 0)) := ⟨by rw [hA]; first | (simp [hlt]; done) | (simp [hlt]; omega)⟩
  have HC : Aside0 (slot_Pick.f 1 S2 S1 = some (0, g', s', m', 0)) := ⟨by rw [hC]; first | (simp [hlt]; done) | (simp [hlt]; omega)⟩
  have HX : Aside0 (slot_Pick.f 1 S1 odd = some (0, g', s, m, 0)) := ⟨by rw [hX]; simp⟩
  have HY : Aside0 (slot_Pick.f 1 odd S1 = some (1, g', s, m, 0)) := ⟨by rw [hY]; simp⟩
  have HZ : Aside0 (slot_Pick.f 1 odd odd = some (0, 0, 0, 0, 4)) := ⟨by rw [hZ]; simp⟩
  have HP1 := Aside0.mk hp1
  have HP2 := Aside0.mk hp2
  have HO := Aside0.mk hodd
  clear hA hC hp1 hp2 hodd hs ht ho hlt hX hY hZ
  go_enter Try.func5, Try.ntmps5
  go_wp2_with (first | ((with_reducible refine gate_dst (N := 3) rfl ?_); refine box_event ?hg (N := 3) ?hd (cs := #[.int .i64 g', .int .i64 s, .int .i64 m]) (t := 23) ?hr ?_; (case hd => rfl); (case hg => rfl); (case hr => first | (go_simp; done) | (go_simp; rfl)); intro g3 hg wb1 hbox hb; have HB1 := Aside0.mk hb; have HGg3 : Aside0 (w.heap.size ≤ g3) := ⟨by rw [hg]; exact Nat.le_refl _⟩; have HKg3_1 := Aside0.mk hbox; clear hb hbox hg) | ((with_reducible refine gate_dst (N := 4) rfl ?_); refine box_event ?hg (N := 4) ?hd (cs := #[.int .i64 g', .int .i64 s', .int .i64 m']) (t := 23) ?hr ?_; (case hd => rfl); (case hg => rfl); (case hr => first | (go_simp; done) | (go_simp; rfl)); intro g4 hg wb2 hbox hb; have HB2 := Aside0.mk (HB1.out.trans (hb.mono HB1.out.size)); have HGg4 : Aside0 (w.heap.size ≤ g4) := ⟨by rw [hg]; exact HB1.out.size⟩; have HKg4_2 := Aside0.mk hbox; have HKg3_2 := Aside0.mk (blk_below HKg3_1.out hb); clear hb hbox hg) | fail)
  refine (assartlaw03_shown.calls true _ rfl).mono ?_
  rintro e wc3 ⟨rfl, hb⟩
  have HB3 : Aside0 (Below w.heap.size w wc3) := ⟨HB2.out.trans (hb.mono HB2.out.size)⟩
  have HKg3_3 := Aside0.mk (blk_below HKg3_2.out hb)
  have HKg4_3 := Aside0.mk (blk_below HKg4_2.out hb)
  clear hb HB2 HKg3_2 HKg4_2
  have cg3_0_3 : wc3.cell? ⟨g3, 0, none⟩ = some (.int .i64 g') := (blk_cell HKg3_3.out 0).trans rfl
  have cg3_1_3 : wc3.cell? ⟨g3, 1, none⟩ = some (.int .i64 s) := (blk_cell HKg3_3.out 1).trans rfl
  have cg3_2_3 : wc3.cell? ⟨g3, 2, none⟩ = some (.int .i64 m) := (blk_cell HKg3_3.out 2).trans rfl
  go_wp2_with fail
  refine (assartref03_Right.calls _ _ _ _ _ HRS.out).mono ?_
  rintro e wc4 ⟨rfl, hb⟩
  have HB4 : Aside0 (Below w.heap.size w wc4) := ⟨HB3.out.trans (hb.mono HB3.out.size)⟩
  have HKg3_4 := Aside0.mk (blk_below HKg3_3.out hb)
  have HKg4_4 := Aside0.mk (blk_below HKg4_3.out hb)
  clear cg3_0_3 cg3_1_3 cg3_2_3
  clear hb HB3 HKg3_3 HKg4_3
  have cg4_0_4 : wc4.cell? ⟨g4, 0, none⟩ = some (.int .i64 g') := (blk_cell HKg4_4.out 0).trans rfl
  have cg4_1_4 : wc4.cell? ⟨g4, 1, none⟩ = some (.int .i64 s') := (blk_cell HKg4_4.out 1).trans rfl
  have cg4_2_4 : wc4.cell? ⟨g4, 2, none⟩ = some (.int .i64 m') := (blk_cell HKg4_4.out 2).trans rfl
  go_wp2_with fail
  refine (assartref03_Right.calls _ _ _ _ _ HRT.out).mono ?_
  rintro e wc5 ⟨rfl, hb⟩
  have HB5 : Aside0 (Below w.heap.size w wc5) := ⟨HB4.out.trans (hb.mono HB4.out.size)⟩
  have HKg3_5 := Aside0.mk (blk_below HKg3_4.out hb)
  have HKg4_5 := Aside0.mk (blk_below HKg4_4.out hb)
  clear cg4_0_4 cg4_1_4 cg4_2_4
  clear hb HB4 HKg3_4 HKg4_4
  have cg3_0_5 : wc5.cell? ⟨g3, 0, none⟩ = some (.int .i64 g') := (blk_cell HKg3_5.out 0).trans rfl
  have cg3_1_5 : wc5.cell? ⟨g3, 1, none⟩ = some (.int .i64 s) := (blk_cell HKg3_5.out 1).trans rfl
  have cg3_2_5 : wc5.cell? ⟨g3, 2, none⟩ = some (.int .i64 m) := (blk_cell HKg3_5.out 2).trans rfl
  go_wp2_with fail
  refine (slot_Print.calls _ _ _ _ _ _ HP1.out).mono ?_
  rintro e wc6 ⟨rfl, hb⟩
  have HB6 : Aside0 (Below w.heap.size w wc6) := ⟨HB5.out.trans (hb.mono HB5.out.size)⟩
  have HKg3_6 := Aside0.mk (blk_below HKg3_5.out hb)
  have HKg4_6 := Aside0.mk (blk_below HKg4_5.out hb)
  clear cg3_0_5 cg3_1_5 cg3_2_5
  clear hb HB5 HKg3_5 HKg4_5
  have cg4_0_6 : wc6.cell? ⟨g4, 0, none⟩ = some (.int .i64 g') := (blk_cell HKg4_6.out 0).trans rfl
  have cg4_1_6 : wc6.cell? ⟨g4, 1, none⟩ = some (.int .i64 s') := (blk_cell HKg4_6.out 1).trans rfl
  have cg4_2_6 : wc6.cell? ⟨g4, 2, none⟩ = some (.int .i64 m') := (blk_cell HKg4_6.out 2).trans rfl
  go_wp2_with fail
  refine (slot_Print.calls _ _ _ _ _ _ HP2.out).mono ?_
  rintro e wc7 ⟨rfl, hb⟩
  have HB7 : Aside0 (Below w.heap.size w wc7) := ⟨HB6.out.trans (hb.mono HB6.out.size)⟩
  have HKg3_7 := Aside0.mk (blk_below HKg3_6.out hb)
  have HKg4_7 := Aside0.mk (blk_below HKg4_6.out hb)
  clear cg4_0_6 cg4_1_6 cg4_2_6
  clear hb HB6 HKg3_6 HKg4_6
  go_wp2_with fail
  refine (slot_Pick.calls 1 _ _ _ _ _ _ _ _ HA.out).mono ?_
  rintro e wc8 ⟨rfl, hb⟩
  have HB8 : Aside0 (Below w.heap.size w wc8) := ⟨HB7.out.trans (hb.mono HB7.out.size)⟩
  have HKg3_8 := Aside0.mk (blk_below HKg3_7.out hb)
  have HKg4_8 := Aside0.mk (blk_below HKg4_7.out hb)
  clear hb HB7 HKg3_7 HKg4_7
  go_wp2_with (first | ((with_reducible refine gate_dst (N := 13) rfl ?_); refine box_event ?hg (N := 13) ?hd (cs := #[.int .i64 0, .int .i64 0, .int .i64 0]) (t := 23) ?hr ?_; (case hd => rfl); (case hg => rfl); (case hr => first | (go_simp; done) | (go_simp; rfl)); intro g13 hg wb9 hbox hb; have f0_9 := blk_frozen hbox 0; have x0_9 : wb9.cell? ⟨g13, 0, none⟩ = some (.int .i64 0) := (blk_cell hbox 0).trans rfl; have f1_9 := blk_frozen hbox 1; have x1_9 : wb9.cell? ⟨g13, 1, none⟩ = some (.int .i64 0) := (blk_cell hbox 1).trans rfl; have f2_9 := blk_frozen hbox 2; have x2_9 : wb9.cell? ⟨g13, 2, none⟩ = some (.int .i64 0) := (blk_cell hbox 2).trans rfl; have HGg13 : Aside0 (w.heap.size ≤ g13) := ⟨by rw [hg]; exact HB8.out.size⟩; have HB9 := Aside0.mk (below_set (j := 2) (v := .int .i64 m) (below_set (j := 1) (v := .int .i64 s) (below_set (j := 0) (v := .int .i64 g') (HB8.out.trans (hb.mono HB8.out.size)) HGg13.out) HGg13.out) HGg13.out); have HNg3_9 : Aside0 (g3 ≠ g13) := ⟨by have := blk_lt HKg3_8.out; rw [hg]; omega⟩; have HKg3_9 := Aside0.mk (blk_far (blk_far (blk_far (blk_below HKg3_8.out hb) (p := ⟨g13, 0, none⟩) HNg3_9.out (.int .i64 g')) (p := ⟨g13, 1, none⟩) HNg3_9.out (.int .i64 s)) (p := ⟨g13, 2, none⟩) HNg3_9.out (.int .i64 m)); have HNg4_9 : Aside0 (g4 ≠ g13) := ⟨by have := blk_lt HKg4_8.out; rw [hg]; omega⟩; have HKg4_9 := Aside0.mk (blk_far (blk_far (blk_far (blk_below HKg4_8.out hb) (p := ⟨g13, 0, none⟩) HNg4_9.out (.int .i64 g')) (p := ⟨g13, 1, none⟩) HNg4_9.out (.int .i64 s)) (p := ⟨g13, 2, none⟩) HNg4_9.out (.int .i64 m)); have HKg13_9 := Aside0.mk (blk_put (cs' := #[.int .i64 g', .int .i64 s, .int .i64 m]) (blk_put (cs' := #[.int .i64 g', .int .i64 s, .int .i64 0]) (blk_put (cs' := #[.int .i64 g', .int .i64 0, .int .i64 0]) hbox 0 (.int .i64 g') rfl) 1 (.int .i64 s) rfl) 2 (.int .i64 m) rfl); clear hb hbox hg) | fail)
  refine (slot_Pick.calls 1 _ _ _ _ _ _ _ _ HC.out).mono ?_
  rintro e wc10 ⟨rfl, hb⟩
  have HB10 : Aside0 (Below w.heap.size w wc10) := ⟨HB9.out.trans (hb.mono HB9.out.size)⟩
  have HKg3_10 := Aside0.mk (blk_below HKg3_9.out hb)
  have HKg4_10 := Aside0.mk (blk_below HKg4_9.out hb)
  have HKg13_10 := Aside0.mk (blk_below HKg13_9.out hb)
  clear f0_9 x0_9 f1_9 x1_9 f2_9 x2_9
  clear hb HB9 HKg3_9 HKg4_9 HKg13_9
  go_wp2_with (first | ((with_reducible refine gate_dst (N := 16) rfl ?_); refine box_event ?hg (N := 16) ?hd (cs := #[.int .i64 0, .int .i64 0, .int .i64 0]) (t := 23) ?hr ?_; (case hd => rfl); (case hg => rfl); (case hr => first | (go_simp; done) | (go_simp; rfl)); intro g16 hg wb11 hbox hb; have f0_11 := blk_frozen hbox 0; have x0_11 : wb11.cell? ⟨g16, 0, none⟩ = some (.int .i64 0) := (blk_cell hbox 0).trans rfl; have f1_11 := blk_frozen hbox 1; have x1_11 : wb11.cell? ⟨g16, 1, none⟩ = some (.int .i64 0) := (blk_cell hbox 1).trans rfl; have f2_11 := blk_frozen hbox 2; have x2_11 : wb11.cell? ⟨g16, 2, none⟩ = some (.int .i64 0) := (blk_cell hbox 2).trans rfl; have HGg16 : Aside0 (w.heap.size ≤ g16) := ⟨by rw [hg]; exact HB10.out.size⟩; have HB11 := Aside0.mk (below_set (j := 2) (v := .int .i64 m') (below_set (j := 1) (v := .int .i64 s') (below_set (j := 0) (v := .int .i64 g') (HB10.out.trans (hb.mono HB10.out.size)) HGg16.out) HGg16.out) HGg16.out); have HNg3_11 : Aside0 (g3 ≠ g16) := ⟨by have := blk_lt HKg3_10.out; rw [hg]; omega⟩; have HKg3_11 := Aside0.mk (blk_far (blk_far (blk_far (blk_below HKg3_10.out hb) (p := ⟨g16, 0, none⟩) HNg3_11.out (.int .i64 g')) (p := ⟨g16, 1, none⟩) HNg3_11.out (.int .i64 s')) (p := ⟨g16, 2, none⟩) HNg3_11.out (.int .i64 m')); have HNg4_11 : Aside0 (g4 ≠ g16) := ⟨by have := blk_lt HKg4_10.out; rw [hg]; omega⟩; have HKg4_11 := Aside0.mk (blk_far (blk_far (blk_far (blk_below HKg4_10.out hb) (p := ⟨g16, 0, none⟩) HNg4_11.out (.int .i64 g')) (p := ⟨g16, 1, none⟩) HNg4_11.out (.int .i64 s')) (p := ⟨g16, 2, none⟩) HNg4_11.out (.int .i64 m')); have HNg13_11 : Aside0 (g13 ≠ g16) := ⟨by have := blk_lt HKg13_10.out; rw [hg]; omega⟩; have HKg13_11 := Aside0.mk (blk_far (blk_far (blk_far (blk_below HKg13_10.out hb) (p := ⟨g16, 0, none⟩) HNg13_11.out (.int .i64 g')) (p := ⟨g16, 1, none⟩) HNg13_11.out (.int .i64 s')) (p := ⟨g16, 2, none⟩) HNg13_11.out (.int .i64 m')); have HKg16_11 := Aside0.mk (blk_put (cs' := #[.int .i64 g', .int .i64 s', .int .i64 m']) (blk_put (cs' := #[.int .i64 g', .int .i64 s', .int .i64 0]) (blk_put (cs' := #[.int .i64 g', .int .i64 0, .int .i64 0]) hbox 0 (.int .i64 g') rfl) 1 (.int .i64 s') rfl) 2 (.int .i64 m') rfl); have cg3_0_11 : (((wb11.setCell ⟨g16, 0, none⟩ (.int .i64 g')).setCell ⟨g16, 1, none⟩ (.int .i64 s')).setCell ⟨g16, 2, none⟩ (.int .i64 m')).cell? ⟨g3, 0, none⟩ = some (.int .i64 g') := (blk_cell HKg3_11.out 0).trans rfl; have cg3_1_11 : (((wb11.setCell ⟨g16, 0, none⟩ (.int .i64 g')).setCell ⟨g16, 1, none⟩ (.int .i64 s')).setCell ⟨g16, 2, none⟩ (.int .i64 m')).cell? ⟨g3, 1, none⟩ = some (.int .i64 s) := (blk_cell HKg3_11.out 1).trans rfl; have cg3_2_11 : (((wb11.setCell ⟨g16, 0, none⟩ (.int .i64 g')).setCell ⟨g16, 1, none⟩ (.int .i64 s')).setCell ⟨g16, 2, none⟩ (.int .i64 m')).cell? ⟨g3, 2, none⟩ = some (.int .i64 m) := (blk_cell HKg3_11.out 2).trans rfl; have cg4_0_11 : (((wb11.setCell ⟨g16, 0, none⟩ (.int .i64 g')).setCell ⟨g16, 1, none⟩ (.int .i64 s')).setCell ⟨g16, 2, none⟩ (.int .i64 m')).cell? ⟨g4, 0, none⟩ = some (.int .i64 g') := (blk_cell HKg4_11.out 0).trans rfl; have cg4_1_11 : (((wb11.setCell ⟨g16, 0, none⟩ (.int .i64 g')).setCell ⟨g16, 1, none⟩ (.int .i64 s')).setCell ⟨g16, 2, none⟩ (.int .i64 m')).cell? ⟨g4, 1, none⟩ = some (.int .i64 s') := (blk_cell HKg4_11.out 1).trans rfl; have cg4_2_11 : (((wb11.setCell ⟨g16, 0, none⟩ (.int .i64 g')).setCell ⟨g16, 1, none⟩ (.int .i64 s')).setCell ⟨g16, 2, none⟩ (.int .i64 m')).cell? ⟨g4, 2, none⟩ = some (.int .i64 m') := (blk_cell HKg4_11.out 2).trans rfl; have cg13_0_11 : (((wb11.setCell ⟨g16, 0, none⟩ (.int .i64 g')).setCell ⟨g16, 1, none⟩ (.int .i64 s')).setCell ⟨g16, 2, none⟩ (.int .i64 m')).cell? ⟨g13, 0, none⟩ = some (.int .i64 g') := (blk_cell HKg13_11.out 0).trans rfl; have cg13_1_11 : (((wb11.setCell ⟨g16, 0, none⟩ (.int .i64 g')).setCell ⟨g16, 1, none⟩ (.int .i64 s')).setCell ⟨g16, 2, none⟩ (.int .i64 m')).cell? ⟨g13, 1, none⟩ = some (.int .i64 s) := (blk_cell HKg13_11.out 1).trans rfl; have cg13_2_11 : (((wb11.setCell ⟨g16, 0, none⟩ (.int .i64 g')).setCell ⟨g16, 1, none⟩ (.int .i64 s')).setCell ⟨g16, 2, none⟩ (.int .i64 m')).cell? ⟨g13, 2, none⟩ = some (.int .i64 m) := (blk_cell HKg13_11.out 2).trans rfl; have cg16_0_11 : (((wb11.setCell ⟨g16, 0, none⟩ (.int .i64 g')).setCell ⟨g16, 1, none⟩ (.int .i64 s')).setCell ⟨g16, 2, none⟩ (.int .i64 m')).cell? ⟨g16, 0, none⟩ = some (.int .i64 g') := (blk_cell HKg16_11.out 0).trans rfl; have cg16_1_11 : (((wb11.setCell ⟨g16, 0, none⟩ (.int .i64 g')).setCell ⟨g16, 1, none⟩ (.int .i64 s')).setCell ⟨g16, 2, none⟩ (.int .i64 m')).cell? ⟨g16, 1, none⟩ = some (.int .i64 s') := (blk_cell HKg16_11.out 1).trans rfl; have cg16_2_11 : (((wb11.setCell ⟨g16, 0, none⟩ (.int .i64 g')).setCell ⟨g16, 1, none⟩ (.int .i64 s')).setCell ⟨g16, 2, none⟩ (.int .i64 m')).cell? ⟨g16, 2, none⟩ = some (.int .i64 m') := (blk_cell HKg16_11.out 2).trans rfl; clear hb hbox hg) | fail)
  refine (slot_Parse.calls _ _ _ _ _ _ HO.out).mono ?_
  rintro e wc12 ⟨rfl, hb⟩
  have HB12 : Aside0 (Below w.heap.size w wc12) := ⟨HB11.out.trans (hb.mono HB11.out.size)⟩
  have HKg3_12 := Aside0.mk (blk_below HKg3_11.out hb)
  have HKg4_12 := Aside0.mk (blk_below HKg4_11.out hb)
  have HKg13_12 := Aside0.mk (blk_below HKg13_11.out hb)
  have HKg16_12 := Aside0.mk (blk_below HKg16_11.out hb)
  clear f0_11 x0_11 f1_11 x1_11 f2_11 x2_11 cg3_0_11 cg3_1_11 cg3_2_11 cg4_0_11 cg4_1_11 cg4_2_11 cg13_0_11 cg13_1_11 cg13_2_11 cg16_0_11 cg16_1_11 cg16_2_11
  clear hb HB11 HKg3_11 HKg4_11 HKg13_11 HKg16_11
  go_wp2_with (first | ((with_reducible refine gate_dst (N := 18) rfl ?_); refine box_event ?hg (N := 18) ?hd (cs := #[.int .i64 0, .int .i64 0, .int .i64 0]) (t := 23) ?hr ?_; (case hd => rfl); (case hg => rfl); (case hr => first | (go_simp; done) | (go_simp; rfl)); intro g18 hg wb13 hbox hb; have f0_13 := blk_frozen hbox 0; have x0_13 : wb13.cell? ⟨g18, 0, none⟩ = some (.int .i64 0) := (blk_cell hbox 0).trans rfl; have f1_13 := blk_frozen hbox 1; have x1_13 : wb13.cell? ⟨g18, 1, none⟩ = some (.int .i64 0) := (blk_cell hbox 1).trans rfl; have f2_13 := blk_frozen hbox 2; have x2_13 : wb13.cell? ⟨g18, 2, none⟩ = some (.int .i64 0) := (blk_cell hbox 2).trans rfl; have HGg18 : Aside0 (w.heap.size ≤ g18) := ⟨by rw [hg]; exact HB12.out.size⟩; have HB13 := Aside0.mk (below_set (j := 2) (v := .int .i64 0) (below_set (j := 1) (v := .int .i64 0) (below_set (j := 0) (v := .int .i64 0) (HB12.out.trans (hb.mono HB12.out.size)) HGg18.out) HGg18.out) HGg18.out); have HNg3_13 : Aside0 (g3 ≠ g18) := ⟨by have := blk_lt HKg3_12.out; rw [hg]; omega⟩; have HKg3_13 := Aside0.mk (blk_far (blk_far (blk_far (blk_below HKg3_12.out hb) (p := ⟨g18, 0, none⟩) HNg3_13.out (.int .i64 0)) (p := ⟨g18, 1, none⟩) HNg3_13.out (.int .i64 0)) (p := ⟨g18, 2, none⟩) HNg3_13.out (.int .i64 0)); have HNg4_13 : Aside0 (g4 ≠ g18) := ⟨by have := blk_lt HKg4_12.out; rw [hg]; omega⟩; have HKg4_13 := Aside0.mk (blk_far (blk_far (blk_far (blk_below HKg4_12.out hb) (p := ⟨g18, 0, none⟩) HNg4_13.out (.int .i64 0)) (p := ⟨g18, 1, none⟩) HNg4_13.out (.int .i64 0)) (p := ⟨g18, 2, none⟩) HNg4_13.out (.int .i64 0)); have HNg13_13 : Aside0 (g13 ≠ g18) := ⟨by have := blk_lt HKg13_12.out; rw [hg]; omega⟩; have HKg13_13 := Aside0.mk (blk_far (blk_far (blk_far (blk_below HKg13_12.out hb) (p := ⟨g18, 0, none⟩) HNg13_13.out (.int .i64 0)) (p := ⟨g18, 1, none⟩) HNg13_13.out (.int .i64 0)) (p := ⟨g18, 2, none⟩) HNg13_13.out (.int .i64 0)); have HNg16_13 : Aside0 (g16 ≠ g18) := ⟨by have := blk_lt HKg16_12.out; rw [hg]; omega⟩; have HKg16_13 := Aside0.mk (blk_far (blk_far (blk_far (blk_below HKg16_12.out hb) (p := ⟨g18, 0, none⟩) HNg16_13.out (.int .i64 0)) (p := ⟨g18, 1, none⟩) HNg16_13.out (.int .i64 0)) (p := ⟨g18, 2, none⟩) HNg16_13.out (.int .i64 0)); have HKg18_13 := Aside0.mk (blk_put (cs' := #[.int .i64 0, .int .i64 0, .int .i64 0]) (blk_put (cs' := #[.int .i64 0, .int .i64 0, .int .i64 0]) (blk_put (cs' := #[.int .i64 0, .int .i64 0, .int .i64 0]) hbox 0 (.int .i64 0) rfl) 1 (.int .i64 0) rfl) 2 (.int .i64 0) rfl); clear hb hbox hg) | fail)
  refine (slot_Pick.calls 1 _ _ _ _ _ _ _ _ HX.out).mono ?_
  rintro e wc14 ⟨rfl, hb⟩
  have HB14 : Aside0 (Below w.heap.size w wc14) := ⟨HB13.out.trans (hb.mono HB13.out.size)⟩
  have HKg3_14 := Aside0.mk (blk_below HKg3_13.out hb)
  have HKg4_14 := Aside0.mk (blk_below HKg4_13.out hb)
  have HKg13_14 := Aside0.mk (blk_below HKg13_13.out hb)
  have HKg16_14 := Aside0.mk (blk_below HKg16_13.out hb)
  have HKg18_14 := Aside0.mk (blk_below HKg18_13.out hb)
  clear f0_13 x0_13 f1_13 x1_13 f2_13 x2_13
  clear hb HB13 HKg3_13 HKg4_13 HKg13_13 HKg16_13 HKg18_13
  go_wp2_with (first | ((with_reducible refine gate_dst (N := 21) rfl ?_); refine box_event ?hg (N := 21) ?hd (cs := #[.int .i64 0, .int .i64 0, .int .i64 0]) (t := 23) ?hr ?_; (case hd => rfl); (case hg => rfl); (case hr => first | (go_simp; done) | (go_simp; rfl)); intro g21 hg wb15 hbox hb; have f0_15 := blk_frozen hbox 0; have x0_15 : wb15.cell? ⟨g21, 0, none⟩ = some (.int .i64 0) := (blk_cell hbox 0).trans rfl; have f1_15 := blk_frozen hbox 1; have x1_15 : wb15.cell? ⟨g21, 1, none⟩ = some (.int .i64 0) := (blk_cell hbox 1).trans rfl; have f2_15 := blk_frozen hbox 2; have x2_15 : wb15.cell? ⟨g21, 2, none⟩ = some (.int .i64 0) := (blk_cell hbox 2).trans rfl; have HGg21 : Aside0 (w.heap.size ≤ g21) := ⟨by rw [hg]; exact HB14.out.size⟩; have HB15 := Aside0.mk (below_set (j := 2) (v := .int .i64 m) (below_set (j := 1) (v := .int .i64 s) (below_set (j := 0) (v := .int .i64 g') (HB14.out.trans (hb.mono HB14.out.size)) HGg21.out) HGg21.out) HGg21.out); have HNg3_15 : Aside0 (g3 ≠ g21) := ⟨by have := blk_lt HKg3_14.out; rw [hg]; omega⟩; have HKg3_15 := Aside0.mk (blk_far (blk_far (blk_far (blk_below HKg3_14.out hb) (p := ⟨g21, 0, none⟩) HNg3_15.out (.int .i64 g')) (p := ⟨g21, 1, none⟩) HNg3_15.out (.int .i64 s)) (p := ⟨g21, 2, none⟩) HNg3_15.out (.int .i64 m)); have HNg4_15 : Aside0 (g4 ≠ g21) := ⟨by have := blk_lt HKg4_14.out; rw [hg]; omega⟩; have HKg4_15 := Aside0.mk (blk_far (blk_far (blk_far (blk_below HKg4_14.out hb) (p := ⟨g21, 0, none⟩) HNg4_15.out (.int .i64 g')) (p := ⟨g21, 1, none⟩) HNg4_15.out (.int .i64 s)) (p := ⟨g21, 2, none⟩) HNg4_15.out (.int .i64 m)); have HNg13_15 : Aside0 (g13 ≠ g21) := ⟨by have := blk_lt HKg13_14.out; rw [hg]; omega⟩; have HKg13_15 := Aside0.mk (blk_far (blk_far (blk_far (blk_below HKg13_14.out hb) (p := ⟨g21, 0, none⟩) HNg13_15.out (.int .i64 g')) (p := ⟨g21, 1, none⟩) HNg13_15.out (.int .i64 s)) (p := ⟨g21, 2, none⟩) HNg13_15.out (.int .i64 m)); have HNg16_15 : Aside0 (g16 ≠ g21) := ⟨by have := blk_lt HKg16_14.out; rw [hg]; omega⟩; have HKg16_15 := Aside0.mk (blk_far (blk_far (blk_far (blk_below HKg16_14.out hb) (p := ⟨g21, 0, none⟩) HNg16_15.out (.int .i64 g')) (p := ⟨g21, 1, none⟩) HNg16_15.out (.int .i64 s)) (p := ⟨g21, 2, none⟩) HNg16_15.out (.int .i64 m)); have HNg18_15 : Aside0 (g18 ≠ g21) := ⟨by have := blk_lt HKg18_14.out; rw [hg]; omega⟩; have HKg18_15 := Aside0.mk (blk_far (blk_far (blk_far (blk_below HKg18_14.out hb) (p := ⟨g21, 0, none⟩) HNg18_15.out (.int .i64 g')) (p := ⟨g21, 1, none⟩) HNg18_15.out (.int .i64 s)) (p := ⟨g21, 2, none⟩) HNg18_15.out (.int .i64 m)); have HKg21_15 := Aside0.mk (blk_put (cs' := #[.int .i64 g', .int .i64 s, .int .i64 m]) (blk_put (cs' := #[.int .i64 g', .int .i64 s, .int .i64 0]) (blk_put (cs' := #[.int .i64 g', .int .i64 0, .int .i64 0]) hbox 0 (.int .i64 g') rfl) 1 (.int .i64 s) rfl) 2 (.int .i64 m) rfl); clear hb hbox hg) | fail)
  refine (slot_Pick.calls 1 _ _ _ _ _ _ _ _ HY.out).mono ?_
  rintro e wc16 ⟨rfl, hb⟩
  have HB16 : Aside0 (Below w.heap.size w wc16) := ⟨HB15.out.trans (hb.mono HB15.out.size)⟩
  have HKg3_16 := Aside0.mk (blk_below HKg3_15.out hb)
  have HKg4_16 := Aside0.mk (blk_below HKg4_15.out hb)
  have HKg13_16 := Aside0.mk (blk_below HKg13_15.out hb)
  have HKg16_16 := Aside0.mk (blk_below HKg16_15.out hb)
  have HKg18_16 := Aside0.mk (blk_below HKg18_15.out hb)
  have HKg21_16 := Aside0.mk (blk_below HKg21_15.out hb)
  clear f0_15 x0_15 f1_15 x1_15 f2_15 x2_15
  clear hb HB15 HKg3_15 HKg4_15 HKg13_15 HKg16_15 HKg18_15 HKg21_15
  go_wp2_with (first | ((with_reducible refine gate_dst (N := 24) rfl ?_); refine box_event ?hg (N := 24) ?hd (cs := #[.int .i64 0, .int .i64 0, .int .i64 0]) (t := 23) ?hr ?_; (case hd => rfl); (case hg => rfl); (case hr => first | (go_simp; done) | (go_simp; rfl)); intro g24 hg wb17 hbox hb; have f0_17 := blk_frozen hbox 0; have x0_17 : wb17.cell? ⟨g24, 0, none⟩ = some (.int .i64 0) := (blk_cell hbox 0).trans rfl; have f1_17 := blk_frozen hbox 1; have x1_17 : wb17.cell? ⟨g24, 1, none⟩ = some (.int .i64 0) := (blk_cell hbox 1).trans rfl; have f2_17 := blk_frozen hbox 2; have x2_17 : wb17.cell? ⟨g24, 2, none⟩ = some (.int .i64 0) := (blk_cell hbox 2).trans rfl; have HGg24 : Aside0 (w.heap.size ≤ g24) := ⟨by rw [hg]; exact HB16.out.size⟩; have HB17 := Aside0.mk (below_set (j := 2) (v := .int .i64 m) (below_set (j := 1) (v := .int .i64 s) (below_set (j := 0) (v := .int .i64 g') (HB16.out.trans (hb.mono HB16.out.size)) HGg24.out) HGg24.out) HGg24.out); have HNg3_17 : Aside0 (g3 ≠ g24) := ⟨by have := blk_lt HKg3_16.out; rw [hg]; omega⟩; have HKg3_17 := Aside0.mk (blk_far (blk_far (blk_far (blk_below HKg3_16.out hb) (p := ⟨g24, 0, none⟩) HNg3_17.out (.int .i64 g')) (p := ⟨g24, 1, none⟩) HNg3_17.out (.int .i64 s)) (p := ⟨g24, 2, none⟩) HNg3_17.out (.int .i64 m)); have HNg4_17 : Aside0 (g4 ≠ g24) := ⟨by have := blk_lt HKg4_16.out; rw [hg]; omega⟩; have HKg4_17 := Aside0.mk (blk_far (blk_far (blk_far (blk_below HKg4_16.out hb) (p := ⟨g24, 0, none⟩) HNg4_17.out (.int .i64 g')) (p := ⟨g24, 1, none⟩) HNg4_17.out (.int .i64 s)) (p := ⟨g24, 2, none⟩) HNg4_17.out (.int .i64 m)); have HNg13_17 : Aside0 (g13 ≠ g24) := ⟨by have := blk_lt HKg13_16.out; rw [hg]; omega⟩; have HKg13_17 := Aside0.mk (blk_far (blk_far (blk_far (blk_below HKg13_16.out hb) (p := ⟨g24, 0, none⟩) HNg13_17.out (.int .i64 g')) (p := ⟨g24, 1, none⟩) HNg13_17.out (.int .i64 s)) (p := ⟨g24, 2, none⟩) HNg13_17.out (.int .i64 m)); have HNg16_17 : Aside0 (g16 ≠ g24) := ⟨by have := blk_lt HKg16_16.out; rw [hg]; omega⟩; have HKg16_17 := Aside0.mk (blk_far (blk_far (blk_far (blk_below HKg16_16.out hb) (p := ⟨g24, 0, none⟩) HNg16_17.out (.int .i64 g')) (p := ⟨g24, 1, none⟩) HNg16_17.out (.int .i64 s)) (p := ⟨g24, 2, none⟩) HNg16_17.out (.int .i64 m)); have HNg18_17 : Aside0 (g18 ≠ g24) := ⟨by have := blk_lt HKg18_16.out; rw [hg]; omega⟩; have HKg18_17 := Aside0.mk (blk_far (blk_far (blk_far (blk_below HKg18_16.out hb) (p := ⟨g24, 0, none⟩) HNg18_17.out (.int .i64 g')) (p := ⟨g24, 1, none⟩) HNg18_17.out (.int .i64 s)) (p := ⟨g24, 2, none⟩) HNg18_17.out (.int .i64 m)); have HNg21_17 : Aside0 (g21 ≠ g24) := ⟨by have := blk_lt HKg21_16.out; rw [hg]; omega⟩; have HKg21_17 := Aside0.mk (blk_far (blk_far (blk_far (blk_below HKg21_16.out hb) (p := ⟨g24, 0, none⟩) HNg21_17.out (.int .i64 g')) (p := ⟨g24, 1, none⟩) HNg21_17.out (.int .i64 s)) (p := ⟨g24, 2, none⟩) HNg21_17.out (.int .i64 m)); have HKg24_17 := Aside0.mk (blk_put (cs' := #[.int .i64 g', .int .i64 s, .int .i64 m]) (blk_put (cs' := #[.int .i64 g', .int .i64 s, .int .i64 0]) (blk_put (cs' := #[.int .i64 g', .int .i64 0, .int .i64 0]) hbox 0 (.int .i64 g') rfl) 1 (.int .i64 s) rfl) 2 (.int .i64 m) rfl); clear hb hbox hg) | fail)
  refine (slot_Pick.calls 1 _ _ _ _ _ _ _ _ HZ.out).mono ?_
  rintro e wc18 ⟨rfl, hb⟩
  have HB18 : Aside0 (Below w.heap.size w wc18) := ⟨HB17.out.trans (hb.mono HB17.out.size)⟩
  have HKg3_18 := Aside0.mk (blk_below HKg3_17.out hb)
  have HKg4_18 := Aside0.mk (blk_below HKg4_17.out hb)
  have HKg13_18 := Aside0.mk (blk_below HKg13_17.out hb)
  have HKg16_18 := Aside0.mk (blk_below HKg16_17.out hb)
  have HKg18_18 := Aside0.mk (blk_below HKg18_17.out hb)
  have HKg21_18 := Aside0.mk (blk_below HKg21_17.out hb)
  have HKg24_18 := Aside0.mk (blk_below HKg24_17.out hb)
  clear f0_17 x0_17 f1_17 x1_17 f2_17 x2_17
  clear hb HB17 HKg3_17 HKg4_17 HKg13_17 HKg16_17 HKg18_17 HKg21_17 HKg24_17
  go_wp2_with (first | ((with_reducible refine gate_dst (N := 27) rfl ?_); refine box_event ?hg (N := 27) ?hd (cs := #[.int .i64 0, .int .i64 0, .int .i64 0]) (t := 23) ?hr ?_; (case hd => rfl); (case hg => rfl); (case hr => first | (go_simp; done) | (go_simp; rfl)); intro g27 hg wb19 hbox hb; have f0_19 := blk_frozen hbox 0; have x0_19 : wb19.cell? ⟨g27, 0, none⟩ = some (.int .i64 0) := (blk_cell hbox 0).trans rfl; have f1_19 := blk_frozen hbox 1; have x1_19 : wb19.cell? ⟨g27, 1, none⟩ = some (.int .i64 0) := (blk_cell hbox 1).trans rfl; have f2_19 := blk_frozen hbox 2; have x2_19 : wb19.cell? ⟨g27, 2, none⟩ = some (.int .i64 0) := (blk_cell hbox 2).trans rfl; have HGg27 : Aside0 (w.heap.size ≤ g27) := ⟨by rw [hg]; exact HB18.out.size⟩; have HB19 := Aside0.mk (below_set (j := 2) (v := .int .i64 0) (below_set (j := 1) (v := .int .i64 0) (below_set (j := 0) (v := .int .i64 0) (HB18.out.trans (hb.mono HB18.out.size)) HGg27.out) HGg27.out) HGg27.out); have HNg3_19 : Aside0 (g3 ≠ g27) := ⟨by have := blk_lt HKg3_18.out; rw [hg]; omega⟩; have HKg3_19 := Aside0.mk (blk_far (blk_far (blk_far (blk_below HKg3_18.out hb) (p := ⟨g27, 0, none⟩) HNg3_19.out (.int .i64 0)) (p := ⟨g27, 1, none⟩) HNg3_19.out (.int .i64 0)) (p := ⟨g27, 2, none⟩) HNg3_19.out (.int .i64 0)); have HNg4_19 : Aside0 (g4 ≠ g27) := ⟨by have := blk_lt HKg4_18.out; rw [hg]; omega⟩; have HKg4_19 := Aside0.mk (blk_far (blk_far (blk_far (blk_below HKg4_18.out hb) (p := ⟨g27, 0, none⟩) HNg4_19.out (.int .i64 0)) (p := ⟨g27, 1, none⟩) HNg4_19.out (.int .i64 0)) (p := ⟨g27, 2, none⟩) HNg4_19.out (.int .i64 0)); have HNg13_19 : Aside0 (g13 ≠ g27) := ⟨by have := blk_lt HKg13_18.out; rw [hg]; omega⟩; have HKg13_19 := Aside0.mk (blk_far (blk_far (blk_far (blk_below HKg13_18.out hb) (p := ⟨g27, 0, none⟩) HNg13_19.out (.int .i64 0)) (p := ⟨g27, 1, none⟩) HNg13_19.out (.int .i64 0)) (p := ⟨g27, 2, none⟩) HNg13_19.out (.int .i64 0)); have HNg16_19 : Aside0 (g16 ≠ g27) := ⟨by have := blk_lt HKg16_18.out; rw [hg]; omega⟩; have HKg16_19 := Aside0.mk (blk_far (blk_far (blk_far (blk_below HKg16_18.out hb) (p := ⟨g27, 0, none⟩) HNg16_19.out (.int .i64 0)) (p := ⟨g27, 1, none⟩) HNg16_19.out (.int .i64 0)) (p := ⟨g27, 2, none⟩) HNg16_19.out (.int .i64 0)); have HNg18_19 : Aside0 (g18 ≠ g27) := ⟨by have := blk_lt HKg18_18.out; rw [hg]; omega⟩; have HKg18_19 := Aside0.mk (blk_far (blk_far (blk_far (blk_below HKg18_18.out hb) (p := ⟨g27, 0, none⟩) HNg18_19.out (.int .i64 0)) (p := ⟨g27, 1, none⟩) HNg18_19.out (.int .i64 0)) (p := ⟨g27, 2, none⟩) HNg18_19.out (.int .i64 0)); have HNg21_19 : Aside0 (g21 ≠ g27) := ⟨by have := blk_lt HKg21_18.out; rw [hg]; omega⟩; have HKg21_19 := Aside0.mk (blk_far (blk_far (blk_far (blk_below HKg21_18.out hb) (p := ⟨g27, 0, none⟩) HNg21_19.out (.int .i64 0)) (p := ⟨g27, 1, none⟩) HNg21_19.out (.int .i64 0)) (p := ⟨g27, 2, none⟩) HNg21_19.out (.int .i64 0)); have HNg24_19 : Aside0 (g24 ≠ g27) := ⟨by have := blk_lt HKg24_18.out; rw [hg]; omega⟩; have HKg24_19 := Aside0.mk (blk_far (blk_far (blk_far (blk_below HKg24_18.out hb) (p := ⟨g27, 0, none⟩) HNg24_19.out (.int .i64 0)) (p := ⟨g27, 1, none⟩) HNg24_19.out (.int .i64 0)) (p := ⟨g27, 2, none⟩) HNg24_19.out (.int .i64 0)); have HKg27_19 := Aside0.mk (blk_put (cs' := #[.int .i64 0, .int .i64 0, .int .i64 0]) (blk_put (cs' := #[.int .i64 0, .int .i64 0, .int .i64 0]) (blk_put (cs' := #[.int .i64 0, .int .i64 0, .int .i64 0]) hbox 0 (.int .i64 0) rfl) 1 (.int .i64 0) rfl) 2 (.int .i64 0) rfl); have cg3_0_19 : (((wb19.setCell ⟨g27, 0, none⟩ (.int .i64 0)).setCell ⟨g27, 1, none⟩ (.int .i64 0)).setCell ⟨g27, 2, none⟩ (.int .i64 0)).cell? ⟨g3, 0, none⟩ = some (.int .i64 g') := (blk_cell HKg3_19.out 0).trans rfl; have cg3_1_19 : (((wb19.setCell ⟨g27, 0, none⟩ (.int .i64 0)).setCell ⟨g27, 1, none⟩ (.int .i64 0)).setCell ⟨g27, 2, none⟩ (.int .i64 0)).cell? ⟨g3, 1, none⟩ = some (.int .i64 s) := (blk_cell HKg3_19.out 1).trans rfl; have cg3_2_19 : (((wb19.setCell ⟨g27, 0, none⟩ (.int .i64 0)).setCell ⟨g27, 1, none⟩ (.int .i64 0)).setCell ⟨g27, 2, none⟩ (.int .i64 0)).cell? ⟨g3, 2, none⟩ = some (.int .i64 m) := (blk_cell HKg3_19.out 2).trans rfl; have cg21_0_19 : (((wb19.setCell ⟨g27, 0, none⟩ (.int .i64 0)).setCell ⟨g27, 1, none⟩ (.int .i64 0)).setCell ⟨g27, 2, none⟩ (.int .i64 0)).cell? ⟨g21, 0, none⟩ = some (.int .i64 g') := (blk_cell HKg21_19.out 0).trans rfl; have cg21_1_19 : (((wb19.setCell ⟨g27, 0, none⟩ (.int .i64 0)).setCell ⟨g27, 1, none⟩ (.int .i64 0)).setCell ⟨g27, 2, none⟩ (.int .i64 0)).cell? ⟨g21, 1, none⟩ = some (.int .i64 s) := (blk_cell HKg21_19.out 1).trans rfl; have cg21_2_19 : (((wb19.setCell ⟨g27, 0, none⟩ (.int .i64 0)).setCell ⟨g27, 1, none⟩ (.int .i64 0)).setCell ⟨g27, 2, none⟩ (.int .i64 0)).cell? ⟨g21, 2, none⟩ = some (.int .i64 m) := (blk_cell HKg21_19.out 2).trans rfl; have cg24_0_19 : (((wb19.setCell ⟨g27, 0, none⟩ (.int .i64 0)).setCell ⟨g27, 1, none⟩ (.int .i64 0)).setCell ⟨g27, 2, none⟩ (.int .i64 0)).cell? ⟨g24, 0, none⟩ = some (.int .i64 g') := (blk_cell HKg24_19.out 0).trans rfl; have cg24_1_19 : (((wb19.setCell ⟨g27, 0, none⟩ (.int .i64 0)).setCell ⟨g27, 1, none⟩ (.int .i64 0)).setCell ⟨g27, 2, none⟩ (.int .i64 0)).cell? ⟨g24, 1, none⟩ = some (.int .i64 s) := (blk_cell HKg24_19.out 1).trans rfl; have cg24_2_19 : (((wb19.setCell ⟨g27, 0, none⟩ (.int .i64 0)).setCell ⟨g27, 1, none⟩ (.int .i64 0)).setCell ⟨g27, 2, none⟩ (.int .i64 0)).cell? ⟨g24, 2, none⟩ = some (.int .i64 m) := (blk_cell HKg24_19.out 2).trans rfl; clear hb hbox hg) | fail)
  go_ret
  exact ⟨rfl, HB19.out⟩
set_option maxHeartbeats 8000000 in
set_option maxRecDepth 100000 in
theorem SlotPicks_eq (g s m g' s' m' : Int) (o1 o2 o3 : Int) (odd : ByteArray) (w : World) (hs : Rt g s m) (ht : Rt g' s' m') (ho : odd.size ≤ 200) (hlt : g' = g) (hodd : slot_Parse.f odd = some (o1, o2, o3, 0)) :
    Calls Try.prog 5 #[.agg #[.int .i64 g, .int .i64 s, .int .i64 m], .agg #[.int .i64 g', .int .i64 s', .int .i64 m'], .string odd] w fun e w' => e = .returned (.bool true) ∧ Below w.heap.size w w' := by
  have hu23 := Try.underlying23
  have HRS := Aside0.mk (show assartref03_Right.f g s m = some true by rw [refRight_val, decide_eq_true hs])
  have HRT := Aside0.mk (show assartref03_Right.f g' s' m' = some true by rw [refRight_val, decide_eq_true ht])
  have do' : decide ((200 : Int) < odd.size) = false := by simp; omega
  subst hlt
  have hlt : True := trivial
  have d1 : (if g' < g' then g' else g') = g' := if_neg (by omega)
  have hA := pick_val 0 (parse_blk hs) (parse_blk ht)
  have hC := pick_val 0 (parse_blk ht) (parse_blk hs)
  have hp1 := print_ok hs
  have hp2 := print_ok ht
  generalize blk g' s m = S1 at hA hC hp1
  generalize blk g' s' m' = S2 at hA hC hp2
  have HA : Aside0 (slot_Pick.f 1 S1 S2 = some (0, g', s, m, 0)) := ⟨by rw [hA]; first | (simp [hlt]; done) | (simp [hlt]; omega)⟩
  have HC : Aside0 (slot_Pick.f 1 S2 S1 = some (0, g', s', m', 0)) := ⟨by rw [hC]; first | (simp [hlt]; done) | (simp [hlt]; omega)⟩
  have HP1 := Aside0.mk hp1
  have HP2 := Aside0.mk hp2
  have HO := Aside0.mk hodd
  clear hA hC hp1 hp2 hodd hs ht ho hlt
  go_enter Try.func5, Try.ntmps5
  go_wp2_with (first | ((with_reducible refine gate_dst (N := 3) rfl ?_); refine box_event ?hg (N := 3) ?hd (cs := #[.int .i64 g', .int .i64 s, .int .i64 m]) (t := 23) ?hr ?_; (case hd => rfl); (case hg => rfl); (case hr => first | (go_simp; done) | (go_simp; rfl)); intro g3 hg wb1 hbox hb; have HB1 := Aside0.mk hb; have HGg3 : Aside0 (w.heap.size ≤ g3) := ⟨by rw [hg]; exact Nat.le_refl _⟩; have HKg3_1 := Aside0.mk hbox; clear hb hbox hg) | ((with_reducible refine gate_dst (N := 4) rfl ?_); refine box_event ?hg (N := 4) ?hd (cs := #[.int .i64 g', .int .i64 s', .int .i64 m']) (t := 23) ?hr ?_; (case hd => rfl); (case hg => rfl); (case hr => first | (go_simp; done) | (go_simp; rfl)); intro g4 hg wb2 hbox hb; have HB2 := Aside0.mk (HB1.out.trans (hb.mono HB1.out.size)); have HGg4 : Aside0 (w.heap.size ≤ g4) := ⟨by rw [hg]; exact HB1.out.size⟩; have HKg4_2 := Aside0.mk hbox; have HKg3_2 := Aside0.mk (blk_below HKg3_1.out hb); clear hb hbox hg) | fail)
  refine (assartlaw03_shown.calls true _ rfl).mono ?_
  rintro e wc3 ⟨rfl, hb⟩
  have HB3 : Aside0 (Below w.heap.size w wc3) := ⟨HB2.out.trans (hb.mono HB2.out.size)⟩
  have HKg3_3 := Aside0.mk (blk_below HKg3_2.out hb)
  have HKg4_3 := Aside0.mk (blk_below HKg4_2.out hb)
  clear hb HB2 HKg3_2 HKg4_2
  have cg3_0_3 : wc3.cell? ⟨g3, 0, none⟩ = some (.int .i64 g') := (blk_cell HKg3_3.out 0).trans rfl
  have cg3_1_3 : wc3.cell? ⟨g3, 1, none⟩ = some (.int .i64 s) := (blk_cell HKg3_3.out 1).trans rfl
  have cg3_2_3 : wc3.cell? ⟨g3, 2, none⟩ = some (.int .i64 m) := (blk_cell HKg3_3.out 2).trans rfl
  go_wp2_with fail
  refine (assartref03_Right.calls _ _ _ _ _ HRS.out).mono ?_
  rintro e wc4 ⟨rfl, hb⟩
  have HB4 : Aside0 (Below w.heap.size w wc4) := ⟨HB3.out.trans (hb.mono HB3.out.size)⟩
  have HKg3_4 := Aside0.mk (blk_below HKg3_3.out hb)
  have HKg4_4 := Aside0.mk (blk_below HKg4_3.out hb)
  clear cg3_0_3 cg3_1_3 cg3_2_3
  clear hb HB3 HKg3_3 HKg4_3
  have cg4_0_4 : wc4.cell? ⟨g4, 0, none⟩ = some (.int .i64 g') := (blk_cell HKg4_4.out 0).trans rfl
  have cg4_1_4 : wc4.cell? ⟨g4, 1, none⟩ = some (.int .i64 s') := (blk_cell HKg4_4.out 1).trans rfl
  have cg4_2_4 : wc4.cell? ⟨g4, 2, none⟩ = some (.int .i64 m') := (blk_cell HKg4_4.out 2).trans rfl
  go_wp2_with fail
  refine (assartref03_Right.calls _ _ _ _ _ HRT.out).mono ?_
  rintro e wc5 ⟨rfl, hb⟩
  have HB5 : Aside0 (Below w.heap.size w wc5) := ⟨HB4.out.trans (hb.mono HB4.out.size)⟩
  have HKg3_5 := Aside0.mk (blk_below HKg3_4.out hb)
  have HKg4_5 := Aside0.mk (blk_below HKg4_4.out hb)
  clear cg4_0_4 cg4_1_4 cg4_2_4
  clear hb HB4 HKg3_4 HKg4_4
  have cg3_0_5 : wc5.cell? ⟨g3, 0, none⟩ = some (.int .i64 g') := (blk_cell HKg3_5.out 0).trans rfl
  have cg3_1_5 : wc5.cell? ⟨g3, 1, none⟩ = some (.int .i64 s) := (blk_cell HKg3_5.out 1).trans rfl
  have cg3_2_5 : wc5.cell? ⟨g3, 2, none⟩ = some (.int .i64 m) := (blk_cell HKg3_5.out 2).trans rfl
  go_wp2_with fail
  refine (slot_Print.calls _ _ _ _ _ _ HP1.out).mono ?_
  rintro e wc6 ⟨rfl, hb⟩
  have HB6 : Aside0 (Below w.heap.size w wc6) := ⟨HB5.out.trans (hb.mono HB5.out.size)⟩
  have HKg3_6 := Aside0.mk (blk_below HKg3_5.out hb)
  have HKg4_6 := Aside0.mk (blk_below HKg4_5.out hb)
  clear cg3_0_5 cg3_1_5 cg3_2_5
  clear hb HB5 HKg3_5 HKg4_5
  have cg4_0_6 : wc6.cell? ⟨g4, 0, none⟩ = some (.int .i64 g') := (blk_cell HKg4_6.out 0).trans rfl
  have cg4_1_6 : wc6.cell? ⟨g4, 1, none⟩ = some (.int .i64 s') := (blk_cell HKg4_6.out 1).trans rfl
  have cg4_2_6 : wc6.cell? ⟨g4, 2, none⟩ = some (.int .i64 m') := (blk_cell HKg4_6.out 2).trans rfl
  go_wp2_with fail
  refine (slot_Print.calls _ _ _ _ _ _ HP2.out).mono ?_
  rintro e wc7 ⟨rfl, hb⟩
  have HB7 : Aside0 (Below w.heap.size w wc7) := ⟨HB6.out.trans (hb.mono HB6.out.size)⟩
  have HKg3_7 := Aside0.mk (blk_below HKg3_6.out hb)
  have HKg4_7 := Aside0.mk (blk_below HKg4_6.out hb)
  clear cg4_0_6 cg4_1_6 cg4_2_6
  clear hb HB6 HKg3_6 HKg4_6
  go_wp2_with fail
  refine (slot_Pick.calls 1 _ _ _ _ _ _ _ _ HA.out).mono ?_
  rintro e wc8 ⟨rfl, hb⟩
  have HB8 : Aside0 (Below w.heap.size w wc8) := ⟨HB7.out.trans (hb.mono HB7.out.size)⟩
  have HKg3_8 := Aside0.mk (blk_below HKg3_7.out hb)
  have HKg4_8 := Aside0.mk (blk_below HKg4_7.out hb)
  clear hb HB7 HKg3_7 HKg4_7
  go_wp2_with (first | ((with_reducible refine gate_dst (N := 13) rfl ?_); refine box_event ?hg (N := 13) ?hd (cs := #[.int .i64 0, .int .i64 0, .int .i64 0]) (t := 23) ?hr ?_; (case hd => rfl); (case hg => rfl); (case hr => first | (go_simp; done) | (go_simp; rfl)); intro g13 hg wb9 hbox hb; have f0_9 := blk_frozen hbox 0; have x0_9 : wb9.cell? ⟨g13, 0, none⟩ = some (.int .i64 0) := (blk_cell hbox 0).trans rfl; have f1_9 := blk_frozen hbox 1; have x1_9 : wb9.cell? ⟨g13, 1, none⟩ = some (.int .i64 0) := (blk_cell hbox 1).trans rfl; have f2_9 := blk_frozen hbox 2; have x2_9 : wb9.cell? ⟨g13, 2, none⟩ = some (.int .i64 0) := (blk_cell hbox 2).trans rfl; have HGg13 : Aside0 (w.heap.size ≤ g13) := ⟨by rw [hg]; exact HB8.out.size⟩; have HB9 := Aside0.mk (below_set (j := 2) (v := .int .i64 m) (below_set (j := 1) (v := .int .i64 s) (below_set (j := 0) (v := .int .i64 g') (HB8.out.trans (hb.mono HB8.out.size)) HGg13.out) HGg13.out) HGg13.out); have HNg3_9 : Aside0 (g3 ≠ g13) := ⟨by have := blk_lt HKg3_8.out; rw [hg]; omega⟩; have HKg3_9 := Aside0.mk (blk_far (blk_far (blk_far (blk_below HKg3_8.out hb) (p := ⟨g13, 0, none⟩) HNg3_9.out (.int .i64 g')) (p := ⟨g13, 1, none⟩) HNg3_9.out (.int .i64 s)) (p := ⟨g13, 2, none⟩) HNg3_9.out (.int .i64 m)); have HNg4_9 : Aside0 (g4 ≠ g13) := ⟨by have := blk_lt HKg4_8.out; rw [hg]; omega⟩; have HKg4_9 := Aside0.mk (blk_far (blk_far (blk_far (blk_below HKg4_8.out hb) (p := ⟨g13, 0, none⟩) HNg4_9.out (.int .i64 g')) (p := ⟨g13, 1, none⟩) HNg4_9.out (.int .i64 s)) (p := ⟨g13, 2, none⟩) HNg4_9.out (.int .i64 m)); have HKg13_9 := Aside0.mk (blk_put (cs' := #[.int .i64 g', .int .i64 s, .int .i64 m]) (blk_put (cs' := #[.int .i64 g', .int .i64 s, .int .i64 0]) (blk_put (cs' := #[.int .i64 g', .int .i64 0, .int .i64 0]) hbox 0 (.int .i64 g') rfl) 1 (.int .i64 s) rfl) 2 (.int .i64 m) rfl); clear hb hbox hg) | fail)
  refine (slot_Pick.calls 1 _ _ _ _ _ _ _ _ HC.out).mono ?_
  rintro e wc10 ⟨rfl, hb⟩
  have HB10 : Aside0 (Below w.heap.size w wc10) := ⟨HB9.out.trans (hb.mono HB9.out.size)⟩
  have HKg3_10 := Aside0.mk (blk_below HKg3_9.out hb)
  have HKg4_10 := Aside0.mk (blk_below HKg4_9.out hb)
  have HKg13_10 := Aside0.mk (blk_below HKg13_9.out hb)
  clear f0_9 x0_9 f1_9 x1_9 f2_9 x2_9
  clear hb HB9 HKg3_9 HKg4_9 HKg13_9
  go_wp2_with (first | ((with_reducible refine gate_dst (N := 16) rfl ?_); refine box_event ?hg (N := 16) ?hd (cs := #[.int .i64 0, .int .i64 0, .int .i64 0]) (t := 23) ?hr ?_; (case hd => rfl); (case hg => rfl); (case hr => first | (go_simp; done) | (go_simp; rfl)); intro g16 hg wb11 hbox hb; have f0_11 := blk_frozen hbox 0; have x0_11 : wb11.cell? ⟨g16, 0, none⟩ = some (.int .i64 0) := (blk_cell hbox 0).trans rfl; have f1_11 := blk_frozen hbox 1; have x1_11 : wb11.cell? ⟨g16, 1, none⟩ = some (.int .i64 0) := (blk_cell hbox 1).trans rfl; have f2_11 := blk_frozen hbox 2; have x2_11 : wb11.cell? ⟨g16, 2, none⟩ = some (.int .i64 0) := (blk_cell hbox 2).trans rfl; have HGg16 : Aside0 (w.heap.size ≤ g16) := ⟨by rw [hg]; exact HB10.out.size⟩; have HB11 := Aside0.mk (below_set (j := 2) (v := .int .i64 m') (below_set (j := 1) (v := .int .i64 s') (below_set (j := 0) (v := .int .i64 g') (HB10.out.trans (hb.mono HB10.out.size)) HGg16.out) HGg16.out) HGg16.out); have HNg3_11 : Aside0 (g3 ≠ g16) := ⟨by have := blk_lt HKg3_10.out; rw [hg]; omega⟩; have HKg3_11 := Aside0.mk (blk_far (blk_far (blk_far (blk_below HKg3_10.out hb) (p := ⟨g16, 0, none⟩) HNg3_11.out (.int .i64 g')) (p := ⟨g16, 1, none⟩) HNg3_11.out (.int .i64 s')) (p := ⟨g16, 2, none⟩) HNg3_11.out (.int .i64 m')); have HNg4_11 : Aside0 (g4 ≠ g16) := ⟨by have := blk_lt HKg4_10.out; rw [hg]; omega⟩; have HKg4_11 := Aside0.mk (blk_far (blk_far (blk_far (blk_below HKg4_10.out hb) (p := ⟨g16, 0, none⟩) HNg4_11.out (.int .i64 g')) (p := ⟨g16, 1, none⟩) HNg4_11.out (.int .i64 s')) (p := ⟨g16, 2, none⟩) HNg4_11.out (.int .i64 m')); have HNg13_11 : Aside0 (g13 ≠ g16) := ⟨by have := blk_lt HKg13_10.out; rw [hg]; omega⟩; have HKg13_11 := Aside0.mk (blk_far (blk_far (blk_far (blk_below HKg13_10.out hb) (p := ⟨g16, 0, none⟩) HNg13_11.out (.int .i64 g')) (p := ⟨g16, 1, none⟩) HNg13_11.out (.int .i64 s')) (p := ⟨g16, 2, none⟩) HNg13_11.out (.int .i64 m')); have HKg16_11 := Aside0.mk (blk_put (cs' := #[.int .i64 g', .int .i64 s', .int .i64 m']) (blk_put (cs' := #[.int .i64 g', .int .i64 s', .int .i64 0]) (blk_put (cs' := #[.int .i64 g', .int .i64 0, .int .i64 0]) hbox 0 (.int .i64 g') rfl) 1 (.int .i64 s') rfl) 2 (.int .i64 m') rfl); have cg3_0_11 : (((wb11.setCell ⟨g16, 0, none⟩ (.int .i64 g')).setCell ⟨g16, 1, none⟩ (.int .i64 s')).setCell ⟨g16, 2, none⟩ (.int .i64 m')).cell? ⟨g3, 0, none⟩ = some (.int .i64 g') := (blk_cell HKg3_11.out 0).trans rfl; have cg3_1_11 : (((wb11.setCell ⟨g16, 0, none⟩ (.int .i64 g')).setCell ⟨g16, 1, none⟩ (.int .i64 s')).setCell ⟨g16, 2, none⟩ (.int .i64 m')).cell? ⟨g3, 1, none⟩ = some (.int .i64 s) := (blk_cell HKg3_11.out 1).trans rfl; have cg3_2_11 : (((wb11.setCell ⟨g16, 0, none⟩ (.int .i64 g')).setCell ⟨g16, 1, none⟩ (.int .i64 s')).setCell ⟨g16, 2, none⟩ (.int .i64 m')).cell? ⟨g3, 2, none⟩ = some (.int .i64 m) := (blk_cell HKg3_11.out 2).trans rfl; have cg4_0_11 : (((wb11.setCell ⟨g16, 0, none⟩ (.int .i64 g')).setCell ⟨g16, 1, none⟩ (.int .i64 s')).setCell ⟨g16, 2, none⟩ (.int .i64 m')).cell? ⟨g4, 0, none⟩ = some (.int .i64 g') := (blk_cell HKg4_11.out 0).trans rfl; have cg4_1_11 : (((wb11.setCell ⟨g16, 0, none⟩ (.int .i64 g')).setCell ⟨g16, 1, none⟩ (.int .i64 s')).setCell ⟨g16, 2, none⟩ (.int .i64 m')).cell? ⟨g4, 1, none⟩ = some (.int .i64 s') := (blk_cell HKg4_11.out 1).trans rfl; have cg4_2_11 : (((wb11.setCell ⟨g16, 0, none⟩ (.int .i64 g')).setCell ⟨g16, 1, none⟩ (.int .i64 s')).setCell ⟨g16, 2, none⟩ (.int .i64 m')).cell? ⟨g4, 2, none⟩ = some (.int .i64 m') := (blk_cell HKg4_11.out 2).trans rfl; have cg13_0_11 : (((wb11.setCell ⟨g16, 0, none⟩ (.int .i64 g')).setCell ⟨g16, 1, none⟩ (.int .i64 s')).setCell ⟨g16, 2, none⟩ (.int .i64 m')).cell? ⟨g13, 0, none⟩ = some (.int .i64 g') := (blk_cell HKg13_11.out 0).trans rfl; have cg13_1_11 : (((wb11.setCell ⟨g16, 0, none⟩ (.int .i64 g')).setCell ⟨g16, 1, none⟩ (.int .i64 s')).setCell ⟨g16, 2, none⟩ (.int .i64 m')).cell? ⟨g13, 1, none⟩ = some (.int .i64 s) := (blk_cell HKg13_11.out 1).trans rfl; have cg13_2_11 : (((wb11.setCell ⟨g16, 0, none⟩ (.int .i64 g')).setCell ⟨g16, 1, none⟩ (.int .i64 s')).setCell ⟨g16, 2, none⟩ (.int .i64 m')).cell? ⟨g13, 2, none⟩ = some (.int .i64 m) := (blk_cell HKg13_11.out 2).trans rfl; have cg16_0_11 : (((wb11.setCell ⟨g16, 0, none⟩ (.int .i64 g')).setCell ⟨g16, 1, none⟩ (.int .i64 s')).setCell ⟨g16, 2, none⟩ (.int .i64 m')).cell? ⟨g16, 0, none⟩ = some (.int .i64 g') := (blk_cell HKg16_11.out 0).trans rfl; have cg16_1_11 : (((wb11.setCell ⟨g16, 0, none⟩ (.int .i64 g')).setCell ⟨g16, 1, none⟩ (.int .i64 s')).setCell ⟨g16, 2, none⟩ (.int .i64 m')).cell? ⟨g16, 1, none⟩ = some (.int .i64 s') := (blk_cell HKg16_11.out 1).trans rfl; have cg16_2_11 : (((wb11.setCell ⟨g16, 0, none⟩ (.int .i64 g')).setCell ⟨g16, 1, none⟩ (.int .i64 s')).setCell ⟨g16, 2, none⟩ (.int .i64 m')).cell? ⟨g16, 2, none⟩ = some (.int .i64 m') := (blk_cell HKg16_11.out 2).trans rfl; clear hb hbox hg) | fail)
  refine (slot_Parse.calls _ _ _ _ _ _ HO.out).mono ?_
  rintro e wc12 ⟨rfl, hb⟩
  have HB12 : Aside0 (Below w.heap.size w wc12) := ⟨HB11.out.trans (hb.mono HB11.out.size)⟩
  have HKg3_12 := Aside0.mk (blk_below HKg3_11.out hb)
  have HKg4_12 := Aside0.mk (blk_below HKg4_11.out hb)
  have HKg13_12 := Aside0.mk (blk_below HKg13_11.out hb)
  have HKg16_12 := Aside0.mk (blk_below HKg16_11.out hb)
  clear f0_11 x0_11 f1_11 x1_11 f2_11 x2_11 cg3_0_11 cg3_1_11 cg3_2_11 cg4_0_11 cg4_1_11 cg4_2_11 cg13_0_11 cg13_1_11 cg13_2_11 cg16_0_11 cg16_1_11 cg16_2_11
  clear hb HB11 HKg3_11 HKg4_11 HKg13_11 HKg16_11
  go_wp2_with (first | ((with_reducible refine gate_dst (N := 18) rfl ?_); refine box_event ?hg (N := 18) ?hd (cs := #[.int .i64 0, .int .i64 0, .int .i64 0]) (t := 23) ?hr ?_; (case hd => rfl); (case hg => rfl); (case hr => first | (go_simp; done) | (go_simp; rfl)); intro g18 hg wb13 hbox hb; have f0_13 := blk_frozen hbox 0; have x0_13 : wb13.cell? ⟨g18, 0, none⟩ = some (.int .i64 0) := (blk_cell hbox 0).trans rfl; have f1_13 := blk_frozen hbox 1; have x1_13 : wb13.cell? ⟨g18, 1, none⟩ = some (.int .i64 0) := (blk_cell hbox 1).trans rfl; have f2_13 := blk_frozen hbox 2; have x2_13 : wb13.cell? ⟨g18, 2, none⟩ = some (.int .i64 0) := (blk_cell hbox 2).trans rfl; have HGg18 : Aside0 (w.heap.size ≤ g18) := ⟨by rw [hg]; exact HB12.out.size⟩; have HB13 := Aside0.mk (below_set (j := 2) (v := .int .i64 o3) (below_set (j := 1) (v := .int .i64 o2) (below_set (j := 0) (v := .int .i64 o1) (HB12.out.trans (hb.mono HB12.out.size)) HGg18.out) HGg18.out) HGg18.out); have HNg3_13 : Aside0 (g3 ≠ g18) := ⟨by have := blk_lt HKg3_12.out; rw [hg]; omega⟩; have HKg3_13 := Aside0.mk (blk_far (blk_far (blk_far (blk_below HKg3_12.out hb) (p := ⟨g18, 0, none⟩) HNg3_13.out (.int .i64 o1)) (p := ⟨g18, 1, none⟩) HNg3_13.out (.int .i64 o2)) (p := ⟨g18, 2, none⟩) HNg3_13.out (.int .i64 o3)); have HNg4_13 : Aside0 (g4 ≠ g18) := ⟨by have := blk_lt HKg4_12.out; rw [hg]; omega⟩; have HKg4_13 := Aside0.mk (blk_far (blk_far (blk_far (blk_below HKg4_12.out hb) (p := ⟨g18, 0, none⟩) HNg4_13.out (.int .i64 o1)) (p := ⟨g18, 1, none⟩) HNg4_13.out (.int .i64 o2)) (p := ⟨g18, 2, none⟩) HNg4_13.out (.int .i64 o3)); have HNg13_13 : Aside0 (g13 ≠ g18) := ⟨by have := blk_lt HKg13_12.out; rw [hg]; omega⟩; have HKg13_13 := Aside0.mk (blk_far (blk_far (blk_far (blk_below HKg13_12.out hb) (p := ⟨g18, 0, none⟩) HNg13_13.out (.int .i64 o1)) (p := ⟨g18, 1, none⟩) HNg13_13.out (.int .i64 o2)) (p := ⟨g18, 2, none⟩) HNg13_13.out (.int .i64 o3)); have HNg16_13 : Aside0 (g16 ≠ g18) := ⟨by have := blk_lt HKg16_12.out; rw [hg]; omega⟩; have HKg16_13 := Aside0.mk (blk_far (blk_far (blk_far (blk_below HKg16_12.out hb) (p := ⟨g18, 0, none⟩) HNg16_13.out (.int .i64 o1)) (p := ⟨g18, 1, none⟩) HNg16_13.out (.int .i64 o2)) (p := ⟨g18, 2, none⟩) HNg16_13.out (.int .i64 o3)); have HKg18_13 := Aside0.mk (blk_put (cs' := #[.int .i64 o1, .int .i64 o2, .int .i64 o3]) (blk_put (cs' := #[.int .i64 o1, .int .i64 o2, .int .i64 0]) (blk_put (cs' := #[.int .i64 o1, .int .i64 0, .int .i64 0]) hbox 0 (.int .i64 o1) rfl) 1 (.int .i64 o2) rfl) 2 (.int .i64 o3) rfl); clear hb hbox hg) | fail)
  go_ret
  exact ⟨rfl, HB13.out⟩
def assartlaw03_SlotPicks.f (a0_0 : Int) (a0_1 : Int) (a0_2 : Int) (a1_0 : Int) (a1_1 : Int) (a1_2 : Int) (a2 : ByteArray) : Option (Bool) := some true
theorem assartlaw03_SlotPicks.calls (a0_0 : Int) (a0_1 : Int) (a0_2 : Int) (a1_0 : Int) (a1_1 : Int) (a1_2 : Int) (a2 : ByteArray) (r : Bool) (w : World) (h : assartlaw03_SlotPicks.f a0_0 a0_1 a0_2 a1_0 a1_1 a1_2 a2 = some r) :
    Calls Try.prog 5 #[.agg #[.int .i64 a0_0, .int .i64 a0_1, .int .i64 a0_2], .agg #[.int .i64 a1_0, .int .i64 a1_1, .int .i64 a1_2], .string a2] w fun e w' => e = .returned (.bool r) ∧ Below w.heap.size w w' := by
  obtain rfl := Option.some.inj h
  by_cases hs : Rt a0_0 a0_1 a0_2
  · by_cases ht : Rt a1_0 a1_1 a1_2
    · by_cases ho : 200 < a2.size
      · exact SlotPicks_o _ _ _ _ _ _ _ _ hs ht ho
      · have ho : a2.size ≤ 200 := by omega
        rcases parse_cases a2 with hp | ⟨o1, o2, o3, _, _, hp⟩
        · by_cases h1 : a0_0 < a1_0
          · exact SlotPicks_lt0 _ _ _ _ _ _ _ _ hs ht ho h1 hp
          · by_cases h2 : a1_0 < a0_0
            · exact SlotPicks_gt0 _ _ _ _ _ _ _ _ hs ht ho h2 hp
            · exact SlotPicks_eq0 _ _ _ _ _ _ _ _ hs ht ho (by omega) hp
        · by_cases h1 : a0_0 < a1_0
          · exact SlotPicks_lt _ _ _ _ _ _ o1 o2 o3 _ _ hs ht ho h1 hp
          · by_cases h2 : a1_0 < a0_0
            · exact SlotPicks_gt _ _ _ _ _ _ o1 o2 o3 _ _ hs ht ho h2 hp
            · exact SlotPicks_eq _ _ _ _ _ _ o1 o2 o3 _ _ hs ht ho (by omega) hp
    · exact SlotPicks_t _ _ _ _ _ _ _ _ hs ht
  · exact SlotPicks_s _ _ _ _ _ _ _ _ hs
end Go.Proofs.Ythjnkapkhphpeaa.P
