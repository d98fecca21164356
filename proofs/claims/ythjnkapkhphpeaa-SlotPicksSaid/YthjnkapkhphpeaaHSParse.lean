/- slot.Parse: the block's three numbers, where printing them gives the block again. -/
import Derived.Test.YthjnkapkhphpeaaHSPrint
import Derived.Test.YthjnkapkhphpeaaF48
import Derived.Test.YthjnkapkhphpeaaF49
namespace Go.Proofs.Ythjnkapkhphpeaa.P
open Go.RowKit Go.Proofs.YthjnkapkhphpeaaW.PrintWords Go.Proofs.YthjnkapkhphpeaaW.PrintLast Go.Proofs.YthjnkapkhphpeaaW.PrintMore
set_option linter.unusedVariables false
set_option linter.unusedSimpArgs false
def magicB : ByteArray := ⟨#[97, 115]⟩
def slot_Parse.f (a0 : ByteArray) : Option (Int × Int × Int × Int) :=
  (num_Open.f a0).bind fun o => (strings_HasPrefix.f a0 ⟨#[97, 115]⟩).bind fun p =>
    if o.2 = 0 ∧ p = true then (slot_Print.f (lev o.1 2 4) (lev o.1 6 4) (lev o.1 10 4)).bind fun q =>
      if q.2 = 0 ∧ q.1.toList = a0.toList then some (lev o.1 2 4, lev o.1 6 4, lev o.1 10 4, 0) else some (0, 0, 0, 2)
    else some (0, 0, 0, 2)
set_option maxHeartbeats 8000000 in
set_option maxRecDepth 100000 in
theorem slot_Parse.bad (a0 : ByteArray) (l : List Int) (e : Int) (p : Bool) (w : World) (ho : num_Open.f a0 = some (l, e)) (hp : strings_HasPrefix.f a0 ⟨#[97, 115]⟩ = some p) (hb : e ≠ 0 ∨ p = false) :
    Calls Try.prog 18 #[.string a0] w fun e w' => e = .returned (.tuple #[.agg #[.int .i64 0, .int .i64 0, .int .i64 0], .int .i64 2]) ∧ Below w.heap.size w w' := by
  have hu23 := Try.underlying23
  have HO := Aside0.mk ho
  have HP := Aside0.mk hp
  clear ho hp
  by_cases he : e = 0
  · subst he
    have hpf : p = false := by simpa using hb
    subst hpf
    clear hb
    go_enter Try.func18, Try.ntmps18
    go_wp2_with (first | ((with_reducible refine gate_dst (N := 2) rfl ?_); refine box_event ?hg (N := 2) ?hd (cs := #[.int .i64 0, .int .i64 0, .int .i64 0]) (t := 23) ?hr ?_; (case hd => rfl); (case hg => rfl); (case hr => first | (go_simp; done) | (go_simp; rfl)); intro gb hg wb hbox hb; have HB := Aside0.mk hb; have HG := Aside0.mk hg; have HK := Aside0.mk hbox; clear hb hbox hg) | fail)
    refine (num_Open.calls _ _ _ wb HO.out).mono ?_
    rintro e wc ⟨v0, rfl, hv, hbc⟩
    have HG2 : Aside0 (w.heap.size ≤ gb) := ⟨by rw [HG.out]; exact Nat.le_refl _⟩
    have HBc : Aside0 (Below w.heap.size w wc) := ⟨HB.out.trans (hbc.mono HB.out.size)⟩
    have HKc := Aside0.mk (blk_below HK.out hbc)
    clear hbc hv HB HK
    go_wp2_with fail
    refine (strings_HasPrefix.calls _ _ _ _ HP.out).mono ?_
    rintro e wd ⟨rfl, ⟨nd, rfl⟩⟩
    have HBd : Aside0 (Below w.heap.size w (wc.drewN nd)) := ⟨pw_below_drewN HBc.out nd⟩
    have HKd : Aside0 ((wc.drewN nd).heap[gb]? = some (.cells #[.int .i64 0, .int .i64 0, .int .i64 0] 23 (0, 0))) := ⟨HKc.out⟩
    generalize wc.drewN nd = wd at HBd HKd ⊢
    have f0 := blk_frozen HKd.out 0
    have f1 := blk_frozen HKd.out 1
    have f2 := blk_frozen HKd.out 2
    have z0 : wd.cell? ⟨gb, 0, none⟩ = some (.int .i64 0) := (blk_cell HKd.out 0).trans rfl
    have z1 : wd.cell? ⟨gb, 1, none⟩ = some (.int .i64 0) := (blk_cell HKd.out 1).trans rfl
    have z2 : wd.cell? ⟨gb, 2, none⟩ = some (.int .i64 0) := (blk_cell HKd.out 2).trans rfl
    go_wp2
    refine bodyPost_ret (results_ct rfl _ _ gb 23 #[.int .i64 0, .int .i64 0, .int .i64 0] (0, 0) _ rfl (blk_put (cs := #[.int .i64 0, .int .i64 0, .int .i64 0]) (blk_put (cs := #[.int .i64 0, .int .i64 0, .int .i64 0]) (blk_put (cs := #[.int .i64 0, .int .i64 0, .int .i64 0]) HKd.out 0 _ rfl) 1 _ rfl) 2 _ rfl) Try.underlying23 rfl (by kernel_rfl)) rfl ?_
    exact ⟨rfl, below_set (below_set (below_set HBd.out HG2.out) HG2.out) HG2.out⟩
  · have he2 : (e == 0) = false := by simpa using he
    have he3 : (e != 0) = true := by simpa using he
    have hee : e = 2 := by
      have := HO.out
      unfold num_Open.f at this
      split at this
      · injection this with this
        injection this with _ this
        omega
      · injection this with this
        injection this with _ this
        exact this.symm
    subst hee
    clear he he2 he3 hb
    go_enter Try.func18, Try.ntmps18
    go_wp2_with (first | ((with_reducible refine gate_dst (N := 2) rfl ?_); refine box_event ?hg (N := 2) ?hd (cs := #[.int .i64 0, .int .i64 0, .int .i64 0]) (t := 23) ?hr ?_; (case hd => rfl); (case hg => rfl); (case hr => first | (go_simp; done) | (go_simp; rfl)); intro gb hg wb hbox hb; have HB := Aside0.mk hb; have HG := Aside0.mk hg; have HK := Aside0.mk hbox; clear hb hbox hg) | fail)
    refine (num_Open.calls _ _ _ wb HO.out).mono ?_
    rintro e wd ⟨v0, rfl, hv, hbc⟩
    have HG2 : Aside0 (w.heap.size ≤ gb) := ⟨by rw [HG.out]; exact Nat.le_refl _⟩
    have HBd : Aside0 (Below w.heap.size w wd) := ⟨HB.out.trans (hbc.mono HB.out.size)⟩
    have HKd := Aside0.mk (blk_below HK.out hbc)
    clear hbc hv HB HK
    have f0 := blk_frozen HKd.out 0
    have f1 := blk_frozen HKd.out 1
    have f2 := blk_frozen HKd.out 2
    have z0 : wd.cell? ⟨gb, 0, none⟩ = some (.int .i64 0) := (blk_cell HKd.out 0).trans rfl
    have z1 : wd.cell? ⟨gb, 1, none⟩ = some (.int .i64 0) := (blk_cell HKd.out 1).trans rfl
    have z2 : wd.cell? ⟨gb, 2, none⟩ = some (.int .i64 0) := (blk_cell HKd.out 2).trans rfl
    go_wp2
    refine bodyPost_ret (results_ct rfl _ _ gb 23 #[.int .i64 0, .int .i64 0, .int .i64 0] (0, 0) _ rfl (blk_put (cs := #[.int .i64 0, .int .i64 0, .int .i64 0]) (blk_put (cs := #[.int .i64 0, .int .i64 0, .int .i64 0]) (blk_put (cs := #[.int .i64 0, .int .i64 0, .int .i64 0]) HKd.out 0 _ rfl) 1 _ rfl) 2 _ rfl) Try.underlying23 rfl (by kernel_rfl)) rfl ?_
    exact ⟨rfl, below_set (below_set (below_set HBd.out HG2.out) HG2.out) HG2.out⟩
set_option maxHeartbeats 8000000 in
set_option maxRecDepth 100000 in
theorem slot_Parse.good (a0 : ByteArray) (l : List Int) (q : ByteArray) (q2 : Int) (b1 b2 : Bool) (w : World) (ho : num_Open.f a0 = some (l, 0)) (hp : strings_HasPrefix.f a0 ⟨#[97, 115]⟩ = some true) (hl : l.length = 36) (hby : ∀ x ∈ l, 0 ≤ x ∧ x < 256)
    (g s m : Int) (hg : lev l 2 4 = g) (hs : lev l 6 4 = s) (hm : lev l 10 4 = m) (hq : slot_Print.f g s m = some (q, q2)) (e1 : (q2 != 0) = b1) (e2 : (q.toList != a0.toList) = b2) (R : Int × Int × Int × Int) (hR : R = if b1 = false ∧ b2 = false then (g, s, m, 0) else (0, 0, 0, 2)) :
    Calls Try.prog 18 #[.string a0] w fun e w' => e = .returned (.tuple #[.agg #[.int .i64 R.1, .int .i64 R.2.1, .int .i64 R.2.2.1], .int .i64 R.2.2.2]) ∧ Below w.heap.size w w' := by
  have hu23 := Try.underlying23
  have HO := Aside0.mk ho
  have HP := Aside0.mk hp
  have HQ := Aside0.mk hq
  have ht0 := Take_val 0 l 2 4 (by omega) hby (by omega) (by omega) (by omega) (by omega)
  have ht1 := Take_val 0 l 6 4 (by omega) hby (by omega) (by omega) (by omega) (by omega)
  have ht2 := Take_val 0 l 10 4 (by omega) hby (by omega) (by omega) (by omega) (by omega)
  rw [hg] at ht0
  rw [hs] at ht1
  rw [hm] at ht2
  have HT0 := Aside0.mk ht0
  have HT1 := Aside0.mk ht1
  have HT2 := Aside0.mk ht2
  have HRR := Aside0.mk hR
  clear ho hp hq ht0 ht1 ht2 hg hs hm hby hR hl
  go_enter Try.func18, Try.ntmps18
  go_wp2_with (first | ((with_reducible refine gate_dst (N := 2) rfl ?_); refine box_event ?hg (N := 2) ?hd (cs := #[.int .i64 0, .int .i64 0, .int .i64 0]) (t := 23) ?hr ?_; (case hd => rfl); (case hg => rfl); (case hr => first | (go_simp; done) | (go_simp; rfl)); intro gb hg wb hbox hb; have HB := Aside0.mk hb; have HG := Aside0.mk hg; have HK := Aside0.mk hbox; clear hb hbox hg) | fail)
  refine (num_Open.calls _ _ _ wb HO.out).mono ?_
  rintro e wc ⟨v0, rfl, hv, hbc⟩
  have HG2 : Aside0 (w.heap.size ≤ gb) := ⟨by rw [HG.out]; exact Nat.le_refl _⟩
  have HGB : Aside0 (gb < wb.heap.size) := ⟨blk_lt HK.out⟩
  have HBc : Aside0 (Below w.heap.size w wc) := ⟨HB.out.trans (hbc.mono HB.out.size)⟩
  have HKc := Aside0.mk (blk_below HK.out hbc)
  have HV := Aside0.mk (Kd.V_bound hv)
  have HBW : Aside0 (wb.heap.size ≤ wc.heap.size) := ⟨hbc.size⟩
  clear hbc hv HB HK HG
  go_wp2_with fail
  refine (strings_HasPrefix.calls _ _ _ _ HP.out).mono ?_
  rintro e wd ⟨rfl, ⟨nd, rfl⟩⟩
  have HBd : Aside0 (Below w.heap.size w (wc.drewN nd)) := ⟨pw_below_drewN HBc.out nd⟩
  have HKd : Aside0 ((wc.drewN nd).heap[gb]? = some (.cells #[.int .i64 0, .int .i64 0, .int .i64 0] 23 (0, 0))) := ⟨HKc.out⟩
  have HVd := Aside0.mk (Kd.V_drewN HV.out nd)
  have HSd : Aside0 ((wc.drewN nd).heap.size = wc.heap.size) := ⟨rfl⟩
  generalize wc.drewN nd = wd at HBd HKd HVd HSd ⊢
  clear HV HKc HBc
  go_wp2_with (first | ((with_reducible refine gate_dst (N := 6) rfl ?_); refine box_event ?hg (N := 6) ?hd (cs := #[.int .i64 0, .int .i64 0, .int .i64 0]) (t := 84) ?hr ?_; (case hd => rfl); (case hg => rfl); (case hr => first | (go_simp; done) | (go_simp; rfl)); intro gn hg we hbox hb; have HBe := Aside0.mk (HBd.out.trans (hb.mono HBd.out.size)); have HGN := Aside0.mk hg; have HN := Aside0.mk hbox; have HKe := Aside0.mk (blk_below HKd.out hb); have HVe := Aside0.mk (Kd.V_below HVd.out hb); clear hb hbox hg) | fail)
  obtain ⟨A, c, hv0⟩ := Kd.V_slice HVe.out
  subst hv0
  have HGN2 : Aside0 (wc.heap.size ≤ gn) := ⟨by rw [HGN.out, HSd.out]; exact Nat.le_refl _⟩
  have HNE : Aside0 (gb ≠ gn) := ⟨by have h1 := HGN2.out; have h2 := HGB.out; have h3 := HBW.out; omega⟩
  have HGN3 : Aside0 (w.heap.size ≤ gn) := ⟨by rw [HGN.out]; exact HBd.out.size⟩
  have HVe2 : Aside0 (Kd.V (Kd.int .u8) 5 we wb.heap.size (fun k => wb.heap.size ≤ k ∧ k < wc.heap.size) (.slice A l.length c) l) := HVe
  clear HVe HVd HBd HKd HSd HGN HBW HGB
  go_loopw [7, 25] (fun v7 v25 wr =>
      (v25 = .int .i64 0 ∧ v7 = .int .i64 2 ∧ Aside0 (wr.heap[gn]? = some (.cells #[.int .i64 0, .int .i64 0, .int .i64 0] 84 (0, 0))) ∧ Aside0 (wr.heap[gb]? = some (.cells #[.int .i64 0, .int .i64 0, .int .i64 0] 23 (0, 0))) ∧ Aside0 (Kd.V (Kd.int .u8) 5 wr wb.heap.size (fun k => wb.heap.size ≤ k ∧ k < wc.heap.size) (.slice A l.length c) l) ∧ Aside0 (Below w.heap.size w wr)) ∨
      (v25 = .int .i64 1 ∧ v7 = .int .i64 6 ∧ Aside0 (wr.heap[gn]? = some (.cells #[.int .i64 g, .int .i64 0, .int .i64 0] 84 (0, 0))) ∧ Aside0 (wr.heap[gb]? = some (.cells #[.int .i64 0, .int .i64 0, .int .i64 0] 23 (0, 0))) ∧ Aside0 (Kd.V (Kd.int .u8) 5 wr wb.heap.size (fun k => wb.heap.size ≤ k ∧ k < wc.heap.size) (.slice A l.length c) l) ∧ Aside0 (Below w.heap.size w wr)) ∨
      (v25 = .int .i64 2 ∧ v7 = .int .i64 10 ∧ Aside0 (wr.heap[gn]? = some (.cells #[.int .i64 g, .int .i64 s, .int .i64 0] 84 (0, 0))) ∧ Aside0 (wr.heap[gb]? = some (.cells #[.int .i64 0, .int .i64 0, .int .i64 0] 23 (0, 0))) ∧ Aside0 (Kd.V (Kd.int .u8) 5 wr wb.heap.size (fun k => wb.heap.size ≤ k ∧ k < wc.heap.size) (.slice A l.length c) l) ∧ Aside0 (Below w.heap.size w wr)) ∨
      (v25 = .int .i64 3 ∧ v7 = .int .i64 14 ∧ Aside0 (wr.heap[gn]? = some (.cells #[.int .i64 g, .int .i64 s, .int .i64 m] 84 (0, 0))) ∧ Aside0 (wr.heap[gb]? = some (.cells #[.int .i64 0, .int .i64 0, .int .i64 0] 23 (0, 0))) ∧ Aside0 (Kd.V (Kd.int .u8) 5 wr wb.heap.size (fun k => wb.heap.size ≤ k ∧ k < wc.heap.size) (.slice A l.length c) l) ∧ Aside0 (Below w.heap.size w wr))) (fun _ n _ => 3 - (intOf n).toNat)
  case atStart => exact .inl ⟨rfl, rfl, HN, HKe, HVe2, HBe⟩
  case round =>
    clear HN HKe HVe2 HBe
    rcases hrel with ⟨rfl, rfl, HNr, HKr, HVr, HBr⟩ | ⟨rfl, rfl, HNr, HKr, HVr, HBr⟩ | ⟨rfl, rfl, HNr, HKr, HVr, HBr⟩ | ⟨rfl, rfl, HNr, HKr, HVr, HBr⟩
    · have hrd := Kd.V_reads' HVr.out
      have htk := num_Take.calls 6 A c l 2 4 _ _ _ wr hrd.2.2 hrd.2.1 HT0.out
      have HTK := Aside0.mk htk
      clear hrd htk
      go_wp2_with fail
      refine HTK.out.mono ?_
      rintro e we2 ⟨rfl, ⟨nd, rfl⟩⟩
      have HN2 : Aside0 ((wr.drewN nd).heap[gn]? = some (.cells #[.int .i64 0, .int .i64 0, .int .i64 0] 84 (0, 0))) := ⟨HNr.out⟩
      have HK2 : Aside0 ((wr.drewN nd).heap[gb]? = some (.cells #[.int .i64 0, .int .i64 0, .int .i64 0] 23 (0, 0))) := ⟨HKr.out⟩
      have HV2 := Aside0.mk (Kd.V_drewN HVr.out nd)
      have HB2 : Aside0 (Below w.heap.size w (wr.drewN nd)) := ⟨pw_below_drewN HBr.out nd⟩
      clear HTK HNr HKr HVr HBr
      generalize wr.drewN nd = wx at HN2 HK2 HV2 HB2 ⊢
      have ff := blk_frozen HN2.out 0
      have zz : wx.cell? ⟨gn, 0, none⟩ = some (.int .i64 0) := (blk_cell HN2.out 0).trans rfl
      go_wp2
      refine ⟨.inr (.inl ⟨rfl, rfl, ⟨blk_put HN2.out 0 _ rfl⟩, ⟨blk_far HK2.out HNE.out _⟩, ⟨Kd.V_far HV2.out (fun k hk => by have := HGN2.out; simp only; omega) _⟩, ⟨below_set HB2.out HGN3.out⟩⟩), by simp [intOf]⟩
    · have hrd := Kd.V_reads' HVr.out
      have htk := num_Take.calls 6 A c l 6 4 _ _ _ wr hrd.2.2 hrd.2.1 HT1.out
      have HTK := Aside0.mk htk
      clear hrd htk
      go_wp2_with fail
      refine HTK.out.mono ?_
      rintro e we2 ⟨rfl, ⟨nd, rfl⟩⟩
      have HN2 : Aside0 ((wr.drewN nd).heap[gn]? = some (.cells #[.int .i64 g, .int .i64 0, .int .i64 0] 84 (0, 0))) := ⟨HNr.out⟩
      have HK2 : Aside0 ((wr.drewN nd).heap[gb]? = some (.cells #[.int .i64 0, .int .i64 0, .int .i64 0] 23 (0, 0))) := ⟨HKr.out⟩
      have HV2 := Aside0.mk (Kd.V_drewN HVr.out nd)
      have HB2 : Aside0 (Below w.heap.size w (wr.drewN nd)) := ⟨pw_below_drewN HBr.out nd⟩
      clear HTK HNr HKr HVr HBr
      generalize wr.drewN nd = wx at HN2 HK2 HV2 HB2 ⊢
      have ff := blk_frozen HN2.out 1
      have zz : wx.cell? ⟨gn, 1, none⟩ = some (.int .i64 0) := (blk_cell HN2.out 1).trans rfl
      go_wp2
      refine ⟨.inr (.inr (.inl ⟨rfl, rfl, ⟨blk_put HN2.out 1 _ rfl⟩, ⟨blk_far HK2.out HNE.out _⟩, ⟨Kd.V_far HV2.out (fun k hk => by have := HGN2.out; simp only; omega) _⟩, ⟨below_set HB2.out HGN3.out⟩⟩)), by simp [intOf]⟩
    · have hrd := Kd.V_reads' HVr.out
      have htk := num_Take.calls 6 A c l 10 4 _ _ _ wr hrd.2.2 hrd.2.1 HT2.out
      have HTK := Aside0.mk htk
      clear hrd htk
      go_wp2_with fail
      refine HTK.out.mono ?_
      rintro e we2 ⟨rfl, ⟨nd, rfl⟩⟩
      have HN2 : Aside0 ((wr.drewN nd).heap[gn]? = some (.cells #[.int .i64 g, .int .i64 s, .int .i64 0] 84 (0, 0))) := ⟨HNr.out⟩
      have HK2 : Aside0 ((wr.drewN nd).heap[gb]? = some (.cells #[.int .i64 0, .int .i64 0, .int .i64 0] 23 (0, 0))) := ⟨HKr.out⟩
      have HV2 := Aside0.mk (Kd.V_drewN HVr.out nd)
      have HB2 : Aside0 (Below w.heap.size w (wr.drewN nd)) := ⟨pw_below_drewN HBr.out nd⟩
      clear HTK HNr HKr HVr HBr
      generalize wr.drewN nd = wx at HN2 HK2 HV2 HB2 ⊢
      have ff := blk_frozen HN2.out 2
      have zz : wx.cell? ⟨gn, 2, none⟩ = some (.int .i64 0) := (blk_cell HN2.out 2).trans rfl
      go_wp2
      refine ⟨.inr (.inr (.inr ⟨rfl, rfl, ⟨blk_put HN2.out 2 _ rfl⟩, ⟨blk_far HK2.out HNE.out _⟩, ⟨Kd.V_far HV2.out (fun k hk => by have := HGN2.out; simp only; omega) _⟩, ⟨below_set HB2.out HGN3.out⟩⟩)), by simp [intOf]⟩
    · have z0 : wr.cell? ⟨gn, 0, none⟩ = some (.int .i64 g) := (blk_cell HNr.out 0).trans rfl
      have z1 : wr.cell? ⟨gn, 1, none⟩ = some (.int .i64 s) := (blk_cell HNr.out 1).trans rfl
      have z2 : wr.cell? ⟨gn, 2, none⟩ = some (.int .i64 m) := (blk_cell HNr.out 2).trans rfl
      go_wp2_with (first | ((with_reducible refine gate_dst (N := 9) rfl ?_); refine box_event ?hg (N := 9) ?hd (cs := #[.int .i64 0, .int .i64 0, .int .i64 0]) (t := 23) ?hr ?_; (case hd => rfl); (case hg => rfl); (case hr => first | (go_simp; done) | (go_simp; rfl)); intro gs hgs wf hbox hb; have HBf := Aside0.mk (HBr.out.trans (hb.mono HBr.out.size)); have HS := Aside0.mk hbox; have HGS := Aside0.mk hgs; have HKf := Aside0.mk (blk_below HKr.out hb); have f0 := blk_frozen hbox 0; have f1 := blk_frozen hbox 1; have f2 := blk_frozen hbox 2; have x0 : wf.cell? ⟨gs, 0, none⟩ = some (.int .i64 0) := (blk_cell hbox 0).trans rfl; have x1 : wf.cell? ⟨gs, 1, none⟩ = some (.int .i64 0) := (blk_cell hbox 1).trans rfl; have x2 : wf.cell? ⟨gs, 2, none⟩ = some (.int .i64 0) := (blk_cell hbox 2).trans rfl; clear hb hbox hgs) | fail)
      have HNS : Aside0 (gb ≠ gs) := ⟨by have := blk_lt HKr.out; rw [HGS.out]; omega⟩
      have HGS2 : Aside0 (w.heap.size ≤ gs) := ⟨by rw [HGS.out]; exact HBr.out.size⟩
      have hS3 := blk_put (cs' := #[.int .i64 g, .int .i64 s, .int .i64 m]) (blk_put (cs' := #[.int .i64 g, .int .i64 s, .int .i64 0]) (blk_put (cs' := #[.int .i64 g, .int .i64 0, .int .i64 0]) HS.out 0 (.int .i64 g) rfl) 1 (.int .i64 s) rfl) 2 (.int .i64 m) rfl
      have hK3 := blk_far (blk_far (blk_far HKf.out (p := ⟨gs, 0, none⟩) HNS.out (.int .i64 g)) (p := ⟨gs, 1, none⟩) HNS.out (.int .i64 s)) (p := ⟨gs, 2, none⟩) HNS.out (.int .i64 m)
      have hB3 := below_set (j := 2) (v := .int .i64 m) (below_set (j := 1) (v := .int .i64 s) (below_set (j := 0) (v := .int .i64 g) HBf.out HGS2.out) HGS2.out) HGS2.out
      have HS3 := Aside0.mk hS3
      have HK3 := Aside0.mk hK3
      have HB3 := Aside0.mk hB3
      clear hS3 hK3 hB3 f0 f1 f2 x0 x1 x2 z0 z1 z2
      refine (slot_Print.calls _ _ _ _ _ _ HQ.out).mono ?_
      rintro e wh ⟨rfl, hbh⟩
      have HK4 := Aside0.mk (blk_below HK3.out hbh)
      have HB4 : Aside0 (Below w.heap.size w wh) := ⟨HB3.out.trans (hbh.mono HB3.out.size)⟩
      have hS4 := blk_below HS3.out hbh
      have y0 : wh.cell? ⟨gs, 0, none⟩ = some (.int .i64 g) := (blk_cell hS4 0).trans rfl
      have y1 : wh.cell? ⟨gs, 1, none⟩ = some (.int .i64 s) := (blk_cell hS4 1).trans rfl
      have y2 : wh.cell? ⟨gs, 2, none⟩ = some (.int .i64 m) := (blk_cell hS4 2).trans rfl
      clear hbh hS4 HS3 HK3 HB3 HKf HBf HS HNr HKr HVr HBr
      have f0 := blk_frozen HK4.out 0
      have f1 := blk_frozen HK4.out 1
      have f2 := blk_frozen HK4.out 2
      have z0 : wh.cell? ⟨gb, 0, none⟩ = some (.int .i64 0) := (blk_cell HK4.out 0).trans rfl
      have z1 : wh.cell? ⟨gb, 1, none⟩ = some (.int .i64 0) := (blk_cell HK4.out 1).trans rfl
      have z2 : wh.cell? ⟨gb, 2, none⟩ = some (.int .i64 0) := (blk_cell HK4.out 2).trans rfl
      cases b1 with
      | true =>
        have e1' : (q2 == 0) = false := by simpa using e1
        go_wp2
        refine bodyPost_ret (results_ct rfl _ _ gb 23 #[.int .i64 0, .int .i64 0, .int .i64 0] (0, 0) _ rfl (blk_put (cs := #[.int .i64 0, .int .i64 0, .int .i64 0]) (blk_put (cs := #[.int .i64 0, .int .i64 0, .int .i64 0]) (blk_put (cs := #[.int .i64 0, .int .i64 0, .int .i64 0]) HK4.out 0 _ rfl) 1 _ rfl) 2 _ rfl) Try.underlying23 rfl (by kernel_rfl)) rfl ?_
        exact ⟨by rw [HRR.out]; rfl, below_set (below_set (below_set HB4.out HG2.out) HG2.out) HG2.out⟩
      | false =>
       cases b2 with
       | true =>
        have e1' : (q2 == 0) = true := by simpa using e1
        have e2' : (q.toList == a0.toList) = false := by simpa using e2
        go_wp2
        refine bodyPost_ret (results_ct rfl _ _ gb 23 #[.int .i64 0, .int .i64 0, .int .i64 0] (0, 0) _ rfl (blk_put (cs := #[.int .i64 0, .int .i64 0, .int .i64 0]) (blk_put (cs := #[.int .i64 0, .int .i64 0, .int .i64 0]) (blk_put (cs := #[.int .i64 0, .int .i64 0, .int .i64 0]) HK4.out 0 _ rfl) 1 _ rfl) 2 _ rfl) Try.underlying23 rfl (by kernel_rfl)) rfl ?_
        exact ⟨by rw [HRR.out]; rfl, below_set (below_set (below_set HB4.out HG2.out) HG2.out) HG2.out⟩
       | false =>
        have e1' : (q2 == 0) = true := by simpa using e1
        have e2' : (q.toList == a0.toList) = true := by simpa using e2
        have eq0 : q2 = 0 := by simpa using e1
        go_wp2
        refine bodyPost_ret (results_ct rfl _ _ gb 23 #[.int .i64 g, .int .i64 s, .int .i64 m] (0, 0) _ rfl (blk_put (cs := #[.int .i64 g, .int .i64 s, .int .i64 0]) (blk_put (cs := #[.int .i64 g, .int .i64 0, .int .i64 0]) (blk_put (cs := #[.int .i64 0, .int .i64 0, .int .i64 0]) HK4.out 0 _ rfl) 1 _ rfl) 2 _ rfl) Try.underlying23 rfl (by kernel_rfl)) rfl ?_
        exact ⟨by rw [HRR.out]; rfl, below_set (below_set (below_set HB4.out HG2.out) HG2.out) HG2.out⟩
theorem slot_Parse.calls (a0 : ByteArray) (r1 : Int) (r2 : Int) (r3 : Int) (r4 : Int) (w : World) (h : slot_Parse.f a0 = some (r1, r2, r3, r4)) :
    Calls Try.prog 18 #[.string a0] w fun e w' => e = .returned (.tuple #[.agg #[.int .i64 r1, .int .i64 r2, .int .i64 r3], .int .i64 r4]) ∧ Below w.heap.size w w' := by
  unfold slot_Parse.f at h
  obtain ⟨⟨l, e⟩, ho, h⟩ := Option.bind_eq_some_iff.1 h
  obtain ⟨p, hp, h⟩ := Option.bind_eq_some_iff.1 h
  by_cases hc : e = 0 ∧ p = true
  · rw [if_pos hc] at h
    obtain ⟨rfl, rfl⟩ := hc
    obtain ⟨⟨q, q2⟩, hq, h⟩ := Option.bind_eq_some_iff.1 h
    have hl : l.length = 36 ∧ ∀ x ∈ l, 0 ≤ x ∧ x < 256 := by
      unfold num_Open.f at ho
      split at ho
      · rename_i hs
        injection ho with ho
        injection ho with ho _
        unfold isSealed at hs
        simp only [Bool.and_eq_true, decide_eq_true_eq] at hs
        refine ⟨by rw [← ho, List.length_take, hs.1]; rfl, fun x hx => bytesOf_bd a0 x ?_⟩
        rw [← ho] at hx
        exact List.mem_of_mem_take hx
      · injection ho with ho
        injection ho with _ ho
        cases ho
    have := slot_Parse.good a0 l q q2 (q2 != 0) (q.toList != a0.toList) w ho hp hl.1 hl.2 _ _ _ rfl rfl rfl hq rfl rfl (r1, r2, r3, r4) ?_
    · exact this
    · by_cases hx : q2 = 0 ∧ q.toList = a0.toList
      · rw [if_pos hx] at h
        rw [if_pos ⟨by simpa using hx.1, by simpa using hx.2⟩]
        exact (Option.some.inj h).symm
      · rw [if_neg hx] at h
        rw [if_neg (by simpa using hx)]
        exact (Option.some.inj h).symm
  · rw [if_neg hc] at h
    have h := Option.some.inj h
    simp only [Prod.mk.injEq] at h
    obtain ⟨rfl, rfl, rfl, rfl⟩ := h
    refine slot_Parse.bad a0 l e p w ho hp ?_
    cases p with
    | true => exact .inl fun h => hc ⟨h, rfl⟩
    | false => exact .inr rfl
end Go.Proofs.Ythjnkapkhphpeaa.P
