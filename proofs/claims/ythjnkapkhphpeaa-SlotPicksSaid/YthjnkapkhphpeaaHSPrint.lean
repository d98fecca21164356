/- slot.Print: magic and three numbers of four bytes, sealed. -/
import Derived.Test.YthjnkapkhphpeaaHRight
import Derived.Lib.SmallJoins
import Derived.ArgAppend
namespace Go.Proofs.Ythjnkapkhphpeaa.P
open Go.RowKit Go.Proofs.YthjnkapkhphpeaaW.PrintWords Go.Proofs.YthjnkapkhphpeaaW.PrintLast Go.Proofs.YthjnkapkhphpeaaW.PrintMore
set_option linter.unusedVariables false
set_option linter.unusedSimpArgs false
theorem cells_of_C {W : World} {b : Addr} {xs : List Int} (h : Kd.C (Kd.int .u8) W (some b) xs.length xs) : ∀ (j : Nat) (u : Value), (encs (Value.int .u8) xs)[j]? = some u → W.cell? (b.add j) = some u := by
  intro j u hu
  have hj : j < xs.length := by
    have := (List.getElem?_eq_some_iff.1 hu).1
    simpa [encs] using this
  obtain ⟨ad, e, hc⟩ := Kd.at_int h (j : Int) (by omega) (by omega)
  cases e
  rw [Int.toNat_natCast] at hc
  rw [hc]
  have he := encs_get (enc := Value.int .u8) (d := (0 : Int)) xs j hj
  rw [he] at hu
  rw [← hu]
  simp [rd]
/-- An append to a full row of bytes makes a new one. -/
theorem append_grows {P : Program} {ops : Array Oper} {rest : List Oper} {o : Oper} {a : Act} {Q : Exit → Act → World → Prop} {W : World} (hgd : o.guard = none) (s x : Operand) (t e : TypeId)
    (ho : o.op = .call { callee := .builtin .append, args := #[s, x], argTypes := #[t, t] })
    (ht : P.underlying t = some (.slice e)) (hinfo : (P.info? e).map (fun i => (i.zero, i.size, i.bytes)) = some (some (.int .u8 0), 1, 1))
    (b A : Addr) (cap c : Nat) (xs ys : List Int) (hs : a.eval s = .slice (some b) xs.length cap) (hx : a.eval x = .slice (some A) ys.length c)
    (HX : Kd.C (Kd.int .u8) W (some b) xs.length xs) (HY : Kd.C (Kd.int .u8) W (some A) ys.length ys) (hcap : cap < xs.length + ys.length) (hl : xs.length + ys.length ≤ 140737488355328)
    (h : ∀ v1 w1, Kd.R (Kd.int .u8) e w1 W.heap.size (fun _ => True) v1 (xs ++ ys) → W.grownBy w1 none → wpList P ops Q rest (a.put o.dst v1) w1) :
    wpList P ops Q (o :: rest) a W := by
  obtain ⟨i0, hi, hzz⟩ := Option.map_eq_some_iff.1 hinfo
  simp only [Prod.mk.injEq] at hzz
  obtain ⟨hz0, hz1, hz2⟩ := hzz
  refine wpList_plain hgd fun K hK => ?_
  obtain ⟨v', w', hr, h2, h3⟩ := run_append_arg_grows (P := P) (w := W) t o.type e i0 (.int .u8 0) 1 1 ht hi hz0 hz1 hz2 rfl (by omega) b xs.length cap (encs (Value.int .u8) xs) (by simp [encs]) (cells_of_C HX) A ys.length c (encs (Value.int .u8) ys) (by simp [encs]) (cells_of_C HY) hcap (by simp only [maxLen]; omega) (by omega)
  unfold Oper.wp execOp
  simp only [ho, resolve, invoke, builtin, Sem.run_bind, Sem.run_pure, Result.andThen_ok, List.map_toArray, List.map_cons, List.map_nil, hs, hx, hr]
  refine hK _ _ (h v' w' (Kd.R_of_own ?_ (fun _ _ => trivial)) h3)
  rw [encs_append, List.length_append]
  exact h2
def slot_Print.row (g s m : Int) : List Int := [97, 115] ++ le g 4 ++ le s 4 ++ le m 4
def slot_Print.f (a0_0 : Int) (a0_1 : Int) (a0_2 : Int) : Option (ByteArray × Int) :=
  if slot_Right.f a0_0 a0_1 a0_2 = some true then num_Seal.f (slot_Print.row a0_0 a0_1 a0_2) else some ((⟨#[]⟩ : ByteArray), 1)
theorem right_iff (a b c : Int) : slot_Right.f a b c = some true ↔ (1 ≤ a ∧ a ≤ 2147483647 ∧ 0 ≤ b ∧ b ≤ 2147483647 ∧ 0 ≤ c ∧ c < 4294967296) := by
  unfold slot_Right.f
  simp
theorem le4_len (n : Int) : (le n 4).length = 4 := by simp [le, le4]
set_option maxHeartbeats 8000000 in
set_option maxRecDepth 100000 in
theorem slot_Print.calls (a0_0 : Int) (a0_1 : Int) (a0_2 : Int) (r1 : ByteArray) (r2 : Int) (w : World) (h : slot_Print.f a0_0 a0_1 a0_2 = some (r1, r2)) :
    Calls Try.prog 16 #[.agg #[.int .i64 a0_0, .int .i64 a0_1, .int .i64 a0_2]] w fun e w' => e = .returned (.tuple #[.string r1, .int .i64 r2]) ∧ Below w.heap.size w w' := by
  have hu23 := Try.underlying23
  unfold slot_Print.f at h
  by_cases hr : slot_Right.f a0_0 a0_1 a0_2 = some true
  · rw [if_pos hr] at h
    have HR := Aside0.mk hr
    have HH := Aside0.mk h
    have hri := (right_iff _ _ _).1 hr
    have HP0 := Aside0.mk (Put_val 0 a0_0 4 (by omega) (by omega) (by omega) (by have : ((256 : Int) ^ (4 : Int).toNat) = 4294967296 := rfl; omega))
    have HP1 := Aside0.mk (Put_val 0 a0_1 4 (by omega) (by omega) (by omega) (by have : ((256 : Int) ^ (4 : Int).toNat) = 4294967296 := rfl; omega))
    have HP2 := Aside0.mk (Put_val 0 a0_2 4 (by omega) (by omega) (by omega) (by have : ((256 : Int) ^ (4 : Int).toNat) = 4294967296 := rfl; omega))
    clear hr h hri
    go_enter Try.func16, Try.ntmps16
    go_wp2_with (first | ((with_reducible refine gate_dst (N := 1) rfl ?_); refine box_event ?hg (N := 1) ?hd (cs := #[.int .i64 a0_0, .int .i64 a0_1, .int .i64 a0_2]) (t := 23) ?hr ?_; (case hd => rfl); (case hg => rfl); (case hr => first | (go_simp; done) | (go_simp; rfl)); intro gb hg wb hbox hb; have HB := Aside0.mk hb; have z0 : wb.cell? ⟨gb, 0, none⟩ = some (.int .i64 a0_0) := (blk_cell hbox 0).trans rfl; have z1 : wb.cell? ⟨gb, 1, none⟩ = some (.int .i64 a0_1) := (blk_cell hbox 1).trans rfl; have z2 : wb.cell? ⟨gb, 2, none⟩ = some (.int .i64 a0_2) := (blk_cell hbox 2).trans rfl; have HG := Aside0.mk hg; clear hb hbox hg) | fail)
    refine (slot_Right.calls _ _ _ true _ HR.out).mono ?_
    rintro e wc ⟨rfl, hbc⟩
    have HBc : Aside0 (Below w.heap.size w wc) := ⟨HB.out.trans (hbc.mono HB.out.size)⟩
    have kc0 := Joins.run_convert_bytes_const_at (P := Try.prog) wc 24 5 #[.int .u8 97, .int .u8 115] 2 2 wc.heap.size rfl Try.underlying24 Try.underlying5
    have hL := lit_C wc 5 [97, 115] (2, 3) (by simp)
    have hbd := hbc.alloc hbc.size (.cells #[.int .u8 97, .int .u8 115] 5 (2, 3))
    have HBd := HBc.out.alloc HBc.out.size (.cells #[.int .u8 97, .int .u8 115] 5 (2, 3))
    obtain ⟨wd, hwd⟩ : ∃ W, wc.alloc (.cells #[.int .u8 97, .int .u8 115] 5 (2, 3)) = W := ⟨_, rfl⟩
    have kc := kc0.trans (show _ = Result.ok (Value.slice (some ⟨wc.heap.size, 0, none⟩) 2 2) wd by rw [← hwd]; rfl)
    have hL2 : Kd.C (Kd.int .u8) wd (some ⟨wc.heap.size, 0, none⟩) 2 [97, 115] := hwd ▸ hL
    rw [hwd] at hbd HBd
    have HL := Aside0.mk hL2
    have HBd := Aside0.mk HBd
    have y0 := pw_cell_below hbd z0
    have y1 := pw_cell_below hbd z1
    have y2 := pw_cell_below hbd z2
    clear hbc HB z0 z1 z2 hbd hL hL2 kc0 hwd HBc HG
    go_wp2_with fail
    clear kc y0 y1 y2
    have hi0 : ∀ W, (Instr.index 84 (.agg #[.int .i64 a0_0, .int .i64 a0_1, .int .i64 a0_2]) (.int .i64 0)).run Try.prog W = .ok (.int .i64 a0_0) W := fun _ => by kernel_rfl
    have hi1 : ∀ W, (Instr.index 84 (.agg #[.int .i64 a0_0, .int .i64 a0_1, .int .i64 a0_2]) (.int .i64 1)).run Try.prog W = .ok (.int .i64 a0_1) W := fun _ => by kernel_rfl
    have hi2 : ∀ W, (Instr.index 84 (.agg #[.int .i64 a0_0, .int .i64 a0_1, .int .i64 a0_2]) (.int .i64 2)).run Try.prog W = .ok (.int .i64 a0_2) W := fun _ => by kernel_rfl
    go_loopw [4, 19] (fun v4 v19 wr =>
      (v19 = .int .i64 0 ∧ v4 = .slice (some ⟨wc.heap.size, 0, none⟩) 2 2 ∧ wr = wd) ∨
      (v19 = .int .i64 1 ∧ Aside0 (Kd.R (Kd.int .u8) 5 wr w.heap.size (fun _ => True) v4 ([97, 115] ++ le a0_0 4)) ∧ Aside0 (Below w.heap.size w wr)) ∨
      (v19 = .int .i64 2 ∧ Aside0 (Kd.R (Kd.int .u8) 5 wr w.heap.size (fun _ => True) v4 ([97, 115] ++ le a0_0 4 ++ le a0_1 4)) ∧ Aside0 (Below w.heap.size w wr)) ∨
      (v19 = .int .i64 3 ∧ Aside0 (Kd.R (Kd.int .u8) 5 wr w.heap.size (fun _ => True) v4 ([97, 115] ++ le a0_0 4 ++ le a0_1 4 ++ le a0_2 4)) ∧ Aside0 (Below w.heap.size w wr))) (fun _ n _ => 3 - (intOf n).toNat)
    case atStart => exact .inl ⟨rfl, rfl, rfl⟩
    case round =>
      rcases hrel with ⟨rfl, rfl, rfl⟩ | ⟨rfl, HRr, HBr⟩ | ⟨rfl, HRr, HBr⟩ | ⟨rfl, HRr, HBr⟩
      · go_wp2_with fail
        refine (num_Put.calls _ _ _ _ _ HP0.out).mono ?_
        rintro e we ⟨v0, rfl, hr, hbe⟩
        obtain ⟨A, c, rfl, hc, hC⟩ := Kd.R_reads hr
        obtain ⟨ad, rfl, _⟩ := Kd.at_int hC 0 (by omega) (by rw [le4_len]; omega)
        have HC := Aside0.mk hC
        have HX := Aside0.mk (Kd.C_below HL.out hbe)
        have HBe : Aside0 (Below w.heap.size w we) := ⟨HBd.out.trans (hbe.mono HBd.out.size)⟩
        clear hr hbe hC hc
        go_wp2_with ((with_reducible refine gate_builtin (b := .append) (xs := #[.tmp 22, .tmp 24]) rfl ?_); at_builtin; refine append_grows rfl (.tmp 22) (.tmp 24) 24 5 rfl Try.underlying24 info5 ⟨wc.heap.size, 0, none⟩ ad 2 c [97, 115] (le a0_0 4) rfl rfl ?aX ?aY ?aC ?aL ?_)
        case aX => exact HX.out
        case aY => exact HC.out
        case aC => simp [le4_len]
        case aL => simp [le4_len]
        intro v1 w1 hR hg
        have HR1 := Aside0.mk (Kd.R_lower hR HBe.out.size)
        have HB1 : Aside0 (Below w.heap.size w w1) := ⟨HBe.out.grown hg HBe.out.size (by simp)⟩
        clear hR hg HX HC HBe
        go_wp2
        exact ⟨.inr (.inl ⟨rfl, HR1, HB1⟩), by simp [intOf]⟩
      · have HBe0 : Aside0 (3 = 3) := ⟨rfl⟩
        go_wp2_with fail
        refine (num_Put.calls _ _ _ _ _ HP1.out).mono ?_
        rintro e we ⟨v0, rfl, hr, hbe⟩
        obtain ⟨A, c, rfl, hc, hC⟩ := Kd.R_reads hr
        obtain ⟨ad, rfl, _⟩ := Kd.at_int hC 0 (by omega) (by rw [le4_len]; omega)
        have HC := Aside0.mk hC
        have HRe := Aside0.mk (Kd.R_below HRr.out hbe)
        have HBe : Aside0 (Below w.heap.size w we) := ⟨HBr.out.trans (hbe.mono HBr.out.size)⟩
        clear hr hbe hC hc HRr HBr
        go_wp2_with ((with_reducible refine gate_builtin (b := .append) (xs := #[.tmp 22, .tmp 24]) rfl ?_); at_builtin; refine Kd.R_append_rows (Kd.int .u8) (w0 := w) w.heap.size rfl (.tmp 22) (.tmp 24) 24 5 (.int .u8 0) 1 rfl Try.underlying24 info5 rfl (by decide) (by omega) _ ([97, 115] ++ le a0_0 4) (le a0_1 4) (some ad) (le a0_1 4).length c (fun _ => True) (fun _ => False) rfl rfl ?aO ?aR (fun _ _ h => h) (fun _ h => h.elim) (fun _ _ => trivial) ?aB ?aS ?aL ?_)
        case aO => exact HRe.out
        case aR => exact HC.out
        case aB => exact HBe.out
        case aS => exact HBe.out.size
        case aL => simp [le4_len]
        intro v1 w1 hR hB hg hv
        have HR1 := Aside0.mk hR
        have HB1 := Aside0.mk hB
        clear hR hB hg hv HC HRe HBe
        go_wp2
        exact ⟨.inr (.inr (.inl ⟨rfl, HR1, HB1⟩)), by simp [intOf]⟩
      · have HBe0 : Aside0 (3 = 3) := ⟨rfl⟩
        go_wp2_with fail
        refine (num_Put.calls _ _ _ _ _ HP2.out).mono ?_
        rintro e we ⟨v0, rfl, hr, hbe⟩
        obtain ⟨A, c, rfl, hc, hC⟩ := Kd.R_reads hr
        obtain ⟨ad, rfl, _⟩ := Kd.at_int hC 0 (by omega) (by rw [le4_len]; omega)
        have HC := Aside0.mk hC
        have HRe := Aside0.mk (Kd.R_below HRr.out hbe)
        have HBe : Aside0 (Below w.heap.size w we) := ⟨HBr.out.trans (hbe.mono HBr.out.size)⟩
        clear hr hbe hC hc HRr HBr
        go_wp2_with ((with_reducible refine gate_builtin (b := .append) (xs := #[.tmp 22, .tmp 24]) rfl ?_); at_builtin; refine Kd.R_append_rows (Kd.int .u8) (w0 := w) w.heap.size rfl (.tmp 22) (.tmp 24) 24 5 (.int .u8 0) 1 rfl Try.underlying24 info5 rfl (by decide) (by omega) _ ([97, 115] ++ le a0_0 4 ++ le a0_1 4) (le a0_2 4) (some ad) (le a0_2 4).length c (fun _ => True) (fun _ => False) rfl rfl ?aO ?aR (fun _ _ h => h) (fun _ h => h.elim) (fun _ _ => trivial) ?aB ?aS ?aL ?_)
        case aO => exact HRe.out
        case aR => exact HC.out
        case aB => exact HBe.out
        case aS => exact HBe.out.size
        case aL => simp [le4_len]
        intro v1 w1 hR hB hg hv
        have HR1 := Aside0.mk hR
        have HB1 := Aside0.mk hB
        clear hR hB hg hv HC HRe HBe
        go_wp2
        exact ⟨.inr (.inr (.inr ⟨rfl, HR1, HB1⟩)), by simp [intOf]⟩
      · obtain ⟨A4, c4, hv4, hc4, hC4⟩ := Kd.R_reads HRr.out
        subst hv4
        have hl14 : ([97, 115] ++ le a0_0 4 ++ le a0_1 4 ++ le a0_2 4).length = 14 := by simp [le4_len]
        have HS := num_Seal.calls A4 c4 (slot_Print.row a0_0 a0_1 a0_2) r1 r2 wr hC4 hc4 HH.out
        have HSA := Aside0.mk HS
        clear hC4 hc4 HS
        go_wp2_with fail
        refine HSA.out.mono ?_
        rintro e we ⟨rfl, hbe⟩
        have HBe : Aside0 (Below w.heap.size w we) := ⟨HBr.out.trans (hbe.mono HBr.out.size)⟩
        clear hbe
        go_wp2
        go_ret2
        exact ⟨rfl, HBe.out⟩
  · rw [if_neg hr] at h
    injection h with h
    injection h with h1 h2
    subst h1 h2
    have hr2 : slot_Right.f a0_0 a0_1 a0_2 = some false := by
      unfold slot_Right.f at hr ⊢
      simp only [Option.some.injEq] at hr ⊢
      exact Bool.eq_false_iff.2 hr
    go_enter Try.func16, Try.ntmps16
    go_wp2_with (first | ((with_reducible refine gate_dst (N := 1) rfl ?_); refine box_event ?hg (N := 1) ?hd (cs := #[.int .i64 a0_0, .int .i64 a0_1, .int .i64 a0_2]) (t := 23) ?hr ?_; (case hd => rfl); (case hg => rfl); (case hr => first | (go_simp; done) | (go_simp; rfl)); intro gb hg wb hbox hb; have HB := Aside0.mk hb; have z0 : wb.cell? ⟨gb, 0, none⟩ = some (.int .i64 a0_0) := (blk_cell hbox 0).trans rfl; have z1 : wb.cell? ⟨gb, 1, none⟩ = some (.int .i64 a0_1) := (blk_cell hbox 1).trans rfl; have z2 : wb.cell? ⟨gb, 2, none⟩ = some (.int .i64 a0_2) := (blk_cell hbox 2).trans rfl; clear hb hbox hg) | fail)
    refine (slot_Right.calls _ _ _ false _ hr2).mono ?_
    rintro e wc ⟨rfl, hbc⟩
    have HBc : Aside0 (Below w.heap.size w wc) := ⟨HB.out.trans (hbc.mono HB.out.size)⟩
    clear hbc HB
    go_wp2
    go_ret2
    exact ⟨rfl, HBc.out⟩
end Go.Proofs.Ythjnkapkhphpeaa.P
