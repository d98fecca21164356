/- assartlaw03.shown: the document's example holds. -/
import Derived.Test.YthjnkapkhphpeaaPSlot
import Derived.Test.YthjnkapkhphpeaaF22
namespace Go.Proofs.Ythjnkapkhphpeaa.P
open Go.RowKit Go.Proofs.YthjnkapkhphpeaaW.PrintWords Go.Proofs.YthjnkapkhphpeaaW.PrintLast Go.Proofs.YthjnkapkhphpeaaW.PrintMore
set_option linter.unusedVariables false
set_option linter.unusedSimpArgs false
def assartlaw03_shown.f : Option Bool := some true
theorem shown_val : assartlaw03_shown.f = some true := rfl
set_option maxHeartbeats 8000000 in
set_option maxRecDepth 100000 in
theorem assartlaw03_shown.calls (r : Bool) (w : World) (h : assartlaw03_shown.f = some r) :
    Calls Try.prog 15 #[] w fun e w' => e = .returned (.bool r) ∧ Below w.heap.size w w' := by
  have hu23 := Try.underlying23
  obtain rfl := Option.some.inj h
  clear h
  have r1 : Rt 1 3 4 := by decide
  have r2 : Rt 2 5 6 := by decide
  have hp1 := print_ok r1
  have hp2 := print_ok r2
  have hq1 := parse_blk r1
  have hpk := pick_val 0 (parse_blk r1) (parse_blk r2)
  simp at hpk
  obtain ⟨S1, e1⟩ : ∃ S, blk 1 3 4 = S := ⟨_, rfl⟩
  obtain ⟨S2, e2⟩ : ∃ S, blk 2 5 6 = S := ⟨_, rfl⟩
  rw [e1] at hp1 hq1 hpk
  rw [e2] at hp2 hpk
  have HP1 := Aside0.mk hp1
  have HP2 := Aside0.mk hp2
  have HQ1 := Aside0.mk hq1
  have HPK := Aside0.mk hpk
  clear hp1 hp2 hq1 hpk e1 e2 r1 r2
  go_enter Try.func15, Try.ntmps15
  go_wp2_with fail
  refine (slot_Print.calls _ _ _ _ _ _ HP1.out).mono ?_
  rintro e wa ⟨rfl, hb⟩
  have HBa := Aside0.mk hb
  clear hb
  go_wp2_with fail
  refine (slot_Print.calls _ _ _ _ _ _ HP2.out).mono ?_
  rintro e wb ⟨rfl, hb⟩
  have HBb : Aside0 (Below w.heap.size w wb) := ⟨HBa.out.trans (hb.mono HBa.out.size)⟩
  clear hb HBa
  go_wp2_with fail
  refine (slot_Pick.calls 1 _ _ _ _ _ _ _ _ HPK.out).mono ?_
  rintro e wc ⟨rfl, hb⟩
  have HBc : Aside0 (Below w.heap.size w wc) := ⟨HBb.out.trans (hb.mono HBb.out.size)⟩
  clear hb HBb
  go_wp2_with (first | ((with_reducible refine gate_dst (N := 6) rfl ?_); refine box_event ?hg (N := 6) ?hd (cs := #[.int .i64 0, .int .i64 0, .int .i64 0]) (t := 23) ?hr ?_; (case hd => rfl); (case hg => rfl); (case hr => first | (go_simp; done) | (go_simp; rfl)); intro g6 hg wd hbox hb; have HBd := Aside0.mk (HBc.out.trans (hb.mono HBc.out.size)); have HK6 := Aside0.mk hbox; have HG6 : Aside0 (w.heap.size ≤ g6) := ⟨by rw [hg]; exact HBc.out.size⟩; have f0 := blk_frozen hbox 0; have f1 := blk_frozen hbox 1; have f2 := blk_frozen hbox 2; have x0 : wd.cell? ⟨g6, 0, none⟩ = some (.int .i64 0) := (blk_cell hbox 0).trans rfl; have x1 : wd.cell? ⟨g6, 1, none⟩ = some (.int .i64 0) := (blk_cell hbox 1).trans rfl; have x2 : wd.cell? ⟨g6, 2, none⟩ = some (.int .i64 0) := (blk_cell hbox 2).trans rfl; clear hb hbox hg) | fail)
  have h6 := blk_put (cs' := #[.int .i64 2, .int .i64 5, .int .i64 6]) (blk_put (cs' := #[.int .i64 2, .int .i64 5, .int .i64 0]) (blk_put (cs' := #[.int .i64 2, .int .i64 0, .int .i64 0]) HK6.out 0 (.int .i64 2) rfl) 1 (.int .i64 5) rfl) 2 (.int .i64 6) rfl
  have hB6 := below_set (j := 2) (v := .int .i64 6) (below_set (j := 1) (v := .int .i64 5) (below_set (j := 0) (v := .int .i64 2) HBd.out HG6.out) HG6.out) HG6.out
  have H6 := Aside0.mk h6
  have HB6 := Aside0.mk hB6
  clear h6 hB6 f0 f1 f2 x0 x1 x2 HK6 HBd HBc
  refine (slot_Parse.calls _ _ _ _ _ _ HQ1.out).mono ?_
  rintro e we ⟨rfl, hb⟩
  have HBe : Aside0 (Below w.heap.size w we) := ⟨HB6.out.trans (hb.mono HB6.out.size)⟩
  have H6e := Aside0.mk (blk_below H6.out hb)
  clear hb HB6 H6
  go_wp2_with (first | ((with_reducible refine gate_dst (N := 8) rfl ?_); refine box_event ?hg (N := 8) ?hd (cs := #[.int .i64 0, .int .i64 0, .int .i64 0]) (t := 23) ?hr ?_; (case hd => rfl); (case hg => rfl); (case hr => first | (go_simp; done) | (go_simp; rfl)); intro g8 hg wf hbox hb; have HBf := Aside0.mk (HBe.out.trans (hb.mono HBe.out.size)); have HK8 := Aside0.mk hbox; have HG8 : Aside0 (w.heap.size ≤ g8) := ⟨by rw [hg]; exact HBe.out.size⟩; have HNE : Aside0 (g6 ≠ g8) := ⟨by have := blk_lt H6e.out; rw [hg]; omega⟩; have H6f := Aside0.mk (blk_below H6e.out hb); have kc := Joins.run_convert_bytes_const_at (P := Try.prog) (((wf.setCell ⟨g8, 0, none⟩ (.int .i64 1)).setCell ⟨g8, 1, none⟩ (.int .i64 3)).setCell ⟨g8, 2, none⟩ (.int .i64 4)) 24 5 #[.int .u8 49, .int .u8 50, .int .u8 51, .int .u8 52, .int .u8 53, .int .u8 54, .int .u8 55, .int .u8 56, .int .u8 57] 9 9 wf.heap.size (by simp [World.setCell]) Try.underlying24 Try.underlying5; have f0 := blk_frozen hbox 0; have f1 := blk_frozen hbox 1; have f2 := blk_frozen hbox 2; have x0 : wf.cell? ⟨g8, 0, none⟩ = some (.int .i64 0) := (blk_cell hbox 0).trans rfl; have x1 : wf.cell? ⟨g8, 1, none⟩ = some (.int .i64 0) := (blk_cell hbox 1).trans rfl; have x2 : wf.cell? ⟨g8, 2, none⟩ = some (.int .i64 0) := (blk_cell hbox 2).trans rfl; clear hb hbox hg) | fail)
  clear kc
  have h8 := blk_put (cs' := #[.int .i64 1, .int .i64 3, .int .i64 4]) (blk_put (cs' := #[.int .i64 1, .int .i64 3, .int .i64 0]) (blk_put (cs' := #[.int .i64 1, .int .i64 0, .int .i64 0]) HK8.out 0 (.int .i64 1) rfl) 1 (.int .i64 3) rfl) 2 (.int .i64 4) rfl
  have h6 := blk_far (blk_far (blk_far H6f.out (p := ⟨g8, 0, none⟩) HNE.out (.int .i64 1)) (p := ⟨g8, 1, none⟩) HNE.out (.int .i64 3)) (p := ⟨g8, 2, none⟩) HNE.out (.int .i64 4)
  have hB8 := below_set (j := 2) (v := .int .i64 4) (below_set (j := 1) (v := .int .i64 3) (below_set (j := 0) (v := .int .i64 1) HBf.out HG8.out) HG8.out) HG8.out
  have hsz : (((wf.setCell ⟨g8, 0, none⟩ (.int .i64 1)).setCell ⟨g8, 1, none⟩ (.int .i64 3)).setCell ⟨g8, 2, none⟩ (.int .i64 4)).heap.size = wf.heap.size := by simp [World.setCell]
  have hL := lit_C (((wf.setCell ⟨g8, 0, none⟩ (.int .i64 1)).setCell ⟨g8, 1, none⟩ (.int .i64 3)).setCell ⟨g8, 2, none⟩ (.int .i64 4)) 5 [49, 50, 51, 52, 53, 54, 55, 56, 57] (9, 10) (by simp)
  rw [hsz] at hL
  have h8a := blk_alloc h8 (.cells #[.int .u8 49, .int .u8 50, .int .u8 51, .int .u8 52, .int .u8 53, .int .u8 54, .int .u8 55, .int .u8 56, .int .u8 57] 5 (9, 10))
  have h6a := blk_alloc h6 (.cells #[.int .u8 49, .int .u8 50, .int .u8 51, .int .u8 52, .int .u8 53, .int .u8 54, .int .u8 55, .int .u8 56, .int .u8 57] 5 (9, 10))
  have hBa := hB8.alloc hB8.size (.cells #[.int .u8 49, .int .u8 50, .int .u8 51, .int .u8 52, .int .u8 53, .int .u8 54, .int .u8 55, .int .u8 56, .int .u8 57] 5 (9, 10))
  have hbk : slot_Book.f [49, 50, 51, 52, 53, 54, 55, 56, 57] = some (9, 3421780262) := by
    have hs : num_Sum.f [49, 50, 51, 52, 53, 54, 55, 56, 57] = some 3421780262 := by unfold num_Sum.f; rw [if_pos (by simp)]; exact congrArg some sum_ex
    unfold slot_Book.f
    rw [hs, Option.bind_some]
    rfl
  have HC := slot_Book.calls (some ⟨wf.heap.size, 0, none⟩) 9 [49, 50, 51, 52, 53, 54, 55, 56, 57] 9 3421780262 _ hL (by simp) hbk
  clear hL hbk f0 f1 f2 x0 x1 x2
  refine HC.mono ?_
  rintro e wh ⟨rfl, ⟨nd, rfl⟩⟩
  clear HC
  generalize hW : ((((wf.setCell ⟨g8, 0, none⟩ (.int .i64 1)).setCell ⟨g8, 1, none⟩ (.int .i64 3)).setCell ⟨g8, 2, none⟩ (.int .i64 4)).alloc (.cells (encs (Value.int .u8) [49, 50, 51, 52, 53, 54, 55, 56, 57]).toArray 5 (9, 10))).drewN nd = wx
  have h8x : wx.heap[g8]? = some (.cells #[.int .i64 1, .int .i64 3, .int .i64 4] 23 (0, 0)) := by rw [← hW]; exact h8a
  have h6x : wx.heap[g6]? = some (.cells #[.int .i64 2, .int .i64 5, .int .i64 6] 23 (0, 0)) := by rw [← hW]; exact h6a
  have HBx : Aside0 (Below w.heap.size w wx) := ⟨by rw [← hW]; exact pw_below_drewN hBa nd⟩
  have y0 : wx.cell? ⟨g6, 0, none⟩ = some (.int .i64 2) := (blk_cell h6x 0).trans rfl
  have y1 : wx.cell? ⟨g6, 1, none⟩ = some (.int .i64 5) := (blk_cell h6x 1).trans rfl
  have y2 : wx.cell? ⟨g6, 2, none⟩ = some (.int .i64 6) := (blk_cell h6x 2).trans rfl
  have z0 : wx.cell? ⟨g8, 0, none⟩ = some (.int .i64 1) := (blk_cell h8x 0).trans rfl
  have z1 : wx.cell? ⟨g8, 1, none⟩ = some (.int .i64 3) := (blk_cell h8x 1).trans rfl
  have z2 : wx.cell? ⟨g8, 2, none⟩ = some (.int .i64 4) := (blk_cell h8x 2).trans rfl
  have heq : ∀ W, (binOp .eql 23 (.agg #[.int .i64 2, .int .i64 5, .int .i64 6]) (.agg #[.int .i64 2, .int .i64 5, .int .i64 6])).run Try.prog W = .ok (.bool true) W := fun _ => by kernel_rfl
  clear h8 h6 hB8 hsz h8a h6a hBa hW HK8 H6f HG8 HNE HBf h8x h6x HG6 H6e HBe
  go_wp2_with fail
  refine (slot_Right.calls 1 3 4 true _ (by decide)).mono ?_
  rintro e wz ⟨rfl, hb⟩
  have HBz : Aside0 (Below w.heap.size w wz) := ⟨HBx.out.trans (hb.mono HBx.out.size)⟩
  clear hb HBx
  go_wp2
  go_ret
  exact ⟨rfl, HBz.out⟩
end Go.Proofs.Ythjnkapkhphpeaa.P
