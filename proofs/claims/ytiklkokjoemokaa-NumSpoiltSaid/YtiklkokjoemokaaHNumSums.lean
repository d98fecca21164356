/- NumSums, walked by hand: rows of bytes, one behind the other. -/
import Derived.Test.YtiklkokjoemokaaHShown
namespace Go.Proofs.Ytiklkokjoemokaa.P
open Go.RowKit Go.Proofs.YtiklkokjoemokaaW.PrintWords Go.Proofs.YtiklkokjoemokaaW.PrintLast Go.Proofs.YtiklkokjoemokaaW.PrintMore
set_option linter.unusedVariables false
set_option linter.unusedSimpArgs false
theorem sum_some {l : List Int} (h : l.length ≤ 140737488355328) : num_Sum.f l = some (crc l) := by unfold num_Sum.f crc; rw [if_pos h]
/-- A literal of bytes, just laid. -/
theorem lit_R (W : World) (e : TypeId) (l : List Int) (hl : l.length ≤ 9223372036854775807) : Kd.R (Kd.int .u8) e (W.alloc (.cells (encs (Value.int .u8) l).toArray e)) W.heap.size (fun _ => True) (.slice (some ⟨W.heap.size, 0, none⟩) l.length l.length) l := by
  refine Kd.R_of_own ?_ (fun _ _ => trivial)
  have h2 := World.ownsRow_lit (base := W.heap.size) (e := e) (size := 1) W (encs (Value.int .u8) l).toArray l.length (Nat.le_refl _) (by simpa [maxLen] using hl) (by simp [encs])
  simpa using h2
theorem lit_R' (W : World) (e : TypeId) (l : List Int) (C : Array Value) (hC : C = (encs (Value.int .u8) l).toArray) (hl : l.length ≤ 9223372036854775807) : Kd.R (Kd.int .u8) e (W.alloc (.cells C e)) W.heap.size (fun _ => True) (.slice (some ⟨W.heap.size, 0, none⟩) l.length l.length) l := hC ▸ lit_R W e l hl
theorem lit_C' (W : World) (e : TypeId) (l : List Int) (C : Array Value) (m : Nat × Nat) (hC : C = (encs (Value.int .u8) l).toArray) (hl : l.length ≤ 9223372036854775807) : Kd.C (Kd.int .u8) (W.alloc (.cells C e m)) (some ⟨W.heap.size, 0, none⟩) l.length l := hC ▸ lit_C W e l m hl
set_option maxHeartbeats 8000000 in
set_option maxRecDepth 100000 in
theorem NumSums_walk (A0 : Option Addr) (c0 : Nat) (l0 : List Int) (A1 : Option Addr) (c1 : Nat) (l1 : List Int) (w : World) (hr0 : Kd.C (Kd.int .u8) w A0 l0.length l0) (hc0 : l0.length ≤ c0) (hr1 : Kd.C (Kd.int .u8) w A1 l1.length l1) (hc1 : l1.length ≤ c1)
    (h0 : l0.length ≤ 500) (h1 : l1.length ≤ 500) (he1 : crc (l0 ++ le (crc l0) 4) = crc ([0] ++ le (crc [0]) 4)) (he2 : crc (l0 ++ le (crc l0) 4 ++ l1) = crc ([0] ++ le (crc [0]) 4 ++ l1)) :
    Calls Try.prog 8 #[.slice A0 l0.length c0, .slice A1 l1.length c1] w fun e w' => e = .returned (.bool true) ∧ Below w.heap.size w w' := by
  have HR0 := Aside0.mk hr0
  have HR1 := Aside0.mk hr1
  have HC0 := Aside0.mk hc0
  have HC1 := Aside0.mk hc1
  have HE1 := Aside0.mk he1
  have HE2 := Aside0.mk he2
  clear hr0 hr1 hc0 hc1 he1 he2
  have d0 : decide ((500 : Int) < l0.length) = false := by simp; omega
  have d1 : decide ((500 : Int) < l1.length) = false := by simp; omega
  go_enter Try.func8, Try.ntmps8
  go_wp2_with fail
  refine (assartlaw01_shown.calls true w rfl).mono ?_
  rintro e wa ⟨rfl, hb⟩
  have HBa := Aside0.mk hb
  clear hb
  go_wp2_with fail
  refine (num_Sum.calls A0 c0 l0 (crc l0) wa (Kd.C_below HR0.out HBa.out) HC0.out (sum_some (by omega))).mono ?_
  rintro e wb ⟨rfl, ⟨nd, rfl⟩⟩
  have hcb := crc_bd l0
  obtain ⟨n, hn⟩ : ∃ n, crc l0 = n := ⟨_, rfl⟩
  rw [hn] at hcb
  rw [hn]
  have HN := Aside0.mk hn
  clear hn
  go_wp2_with fail
  refine (num_Put.calls 6 n 4 _ _ (Put_val 0 n 4 (by omega) (by omega) hcb.1 (by simpa using hcb.2))).mono ?_
  rintro e wc ⟨v7, rfl, hR7, hb7⟩
  obtain ⟨P7, hP7⟩ : ∃ P, le n 4 = P := ⟨_, rfl⟩
  have hl7 : P7.length = 4 := by rw [← hP7]; rfl
  rw [hP7] at hR7
  obtain ⟨A7, c7, rfl, hc7, hC7⟩ := Kd.R_reads hR7
  rw [hl7]
  rw [hl7] at hc7
  have HP7 := Aside0.mk hP7
  have HC7 := Aside0.mk hC7
  have HL7 := Aside0.mk hl7
  have HBc : Aside0 (Below w.heap.size w wc) := ⟨(pw_below_drewN HBa.out nd).trans (hb7.mono HBa.out.size)⟩
  clear hP7 hC7 hR7 hb7 hl7 hcb HBa
  have HL0 := Aside0.mk (lit_R wc 5 [] (by simp))
  have hl7 : P7.length ≤ 4 := by rw [HL7.out]; omega
  go_wp2_with ((with_reducible refine gate_builtin (b := .append) (xs := #[.tmp 26, .tmp 27]) rfl ?_); at_builtin; refine Kd.R_append_rows (Kd.int .u8) (w0 := wc) wc.heap.size rfl (.tmp 26) (.tmp 27) 22 5 (.int .u8 0) 1 rfl Try.underlying22 info5 rfl (by decide) (by omega) _ ([] : List Int) l0 A0 l0.length c0 (fun _ => True) (fun _ => False) rfl rfl ?aO ?aR (fun _ _ h => h) (fun _ h => h.elim) (fun _ _ => trivial) ?aB ?aS ?aL ?_)
  case aO => exact HL0.out
  case aR => exact Kd.C_below (Kd.C_below HR0.out HBc.out) ((Below.refl _ _).alloc (Nat.le_refl _) _)
  case aB => exact (Below.refl _ _).alloc (Nat.le_refl _) _
  case aS => exact ((Below.refl _ _).alloc (Nat.le_refl _) _ : Below wc.heap.size wc _).size
  case aL => simp; omega
  intro vwd wd hR hB hg hv
  obtain ⟨X1, hY⟩ : ∃ Y, ([] : List Int) ++ l0 = Y := ⟨_, rfl⟩
  try simp only [List.nil_append, List.cons_append] at hY
  rw [hY] at hR
  have HYX1 := Aside0.mk hY
  obtain ⟨AX1, cX1, rfl, hcX1, hC⟩ := Kd.R_reads hR
  have HRX1 := Aside0.mk hR
  have HCX1 := Aside0.mk hC
  have HBwd := Aside0.mk hB
  have HGX1 := Aside0.mk hcX1
  have hLX1 : X1.length ≤ 500 := by rw [← hY]; (try simp only [List.length_append, List.length_cons, List.length_nil]); omega
  clear hY hR hC hB hg hv hcX1
  go_wp2_with ((with_reducible refine gate_builtin (b := .append) (xs := #[.tmp 28, .tmp 29]) rfl ?_); at_builtin; refine Kd.R_append_rows (Kd.int .u8) (w0 := wc) wc.heap.size rfl (.tmp 28) (.tmp 29) 22 5 (.int .u8 0) 1 rfl Try.underlying22 info5 rfl (by decide) (by omega) _ X1 P7 A7 4 c7 (fun _ => True) (fun _ => False) rfl rfl ?aO ?aR (fun _ _ h => h) (fun _ h => h.elim) (fun _ _ => trivial) ?aB ?aS ?aL ?_)
  case aO => exact HRX1.out
  case aR => exact (by have := Kd.C_below HC7.out HBwd.out; rw [HL7.out] at this; exact this)
  case aB => exact HBwd.out
  case aS => exact (HBwd.out : Below wc.heap.size wc _).size
  case aL => omega
  intro vwe we hR hB hg hv
  obtain ⟨X8, hY⟩ : ∃ Y, X1 ++ P7 = Y := ⟨_, rfl⟩
  try simp only [List.nil_append, List.cons_append] at hY
  rw [hY] at hR
  have HYX8 := Aside0.mk hY
  obtain ⟨AX8, cX8, rfl, hcX8, hC⟩ := Kd.R_reads hR
  have HRX8 := Aside0.mk hR
  have HCX8 := Aside0.mk hC
  have HBwe := Aside0.mk hB
  have HGX8 := Aside0.mk hcX8
  have hLX8 : X8.length ≤ 600 := by rw [← hY]; (try simp only [List.length_append, List.length_cons, List.length_nil]); omega
  clear hY hR hC hB hg hv hcX8
  have HB8 : Aside0 (Below w.heap.size w we) := ⟨HBc.out.trans (HBwe.out.mono HBc.out.size)⟩
  clear HL0 HRX1 HCX1 HBwd HBwe HC7
  have HL1 := Aside0.mk (lit_R' we 5 [0] #[.int .u8 0] rfl (by simp))
  have hCi : Kd.C (Kd.int .u8) ((we.alloc (.cells #[.int .u8 0] 5)).alloc (.cells #[.int .u8 0] 5)) (some ⟨we.heap.size + 1, 0, none⟩) 1 [0] := by
    have h := lit_C' (we.alloc (.cells #[.int .u8 0] 5)) 5 [0] #[.int .u8 0] (0, 0) rfl (by simp)
    rw [World.size_alloc] at h
    exact h
  have HCi := Aside0.mk hCi
  clear hCi
  have hq := crc_bd [0]
  obtain ⟨q, hqe⟩ : ∃ q, crc [0] = q := ⟨_, rfl⟩
  rw [hqe] at hq
  have HQ := Aside0.mk hqe
  go_wp2_with fail
  refine (num_Sum.calls (some ⟨we.heap.size + 1, 0, none⟩) 1 [0] q _ HCi.out (Nat.le_refl _) (by rw [← hqe]; exact sum_some (by simp))).mono ?_
  rintro e wf ⟨rfl, ⟨nd1, rfl⟩⟩
  clear HCi hqe
  go_wp2_with fail
  refine (num_Put.calls 6 q 4 _ _ (Put_val 0 q 4 (by omega) (by omega) hq.1 (by simpa using hq.2))).mono ?_
  rintro e wg ⟨v9, rfl, hR9, hb9⟩
  obtain ⟨P9, hP9⟩ : ∃ P, le q 4 = P := ⟨_, rfl⟩
  have hl9 : P9.length = 4 := by rw [← hP9]; rfl
  rw [hP9] at hR9
  obtain ⟨A9, c9, rfl, hc9, hC9⟩ := Kd.R_reads hR9
  rw [hl9]
  rw [hl9] at hc9
  have HP9 := Aside0.mk hP9
  have HC9 := Aside0.mk hC9
  have HL9 := Aside0.mk hl9
  have HBg0 : Aside0 (Below (we.alloc (.cells #[.int .u8 0] 5)).heap.size (we.alloc (.cells #[.int .u8 0] 5)) wg) := ⟨(pw_below_drewN ((Below.refl _ _).alloc (Nat.le_refl _) _) nd1).trans (hb9.mono (by simp))⟩
  have HBg : Aside0 (Below we.heap.size we wg) := ⟨((Below.refl _ _).alloc (Nat.le_refl _) _).trans (HBg0.out.mono (by simp))⟩
  have HR31 := Aside0.mk (Kd.R_below HL1.out HBg0.out)
  have hl9' : P9.length ≤ 4 := by omega
  clear hP9 hC9 hR9 hb9 hl9 hq HL1 HBg0
  go_wp2_with ((with_reducible refine gate_builtin (b := .append) (xs := #[.tmp 31, .tmp 34]) rfl ?_); at_builtin; refine Kd.R_append_rows (Kd.int .u8) (w0 := we) we.heap.size rfl (.tmp 31) (.tmp 34) 22 5 (.int .u8 0) 1 rfl Try.underlying22 info5 rfl (by decide) (by omega) _ ([0] : List Int) P9 A9 4 c9 (fun _ => True) (fun _ => False) rfl rfl ?aO ?aR (fun _ _ h => h) (fun _ h => h.elim) (fun _ _ => trivial) ?aB ?aS ?aL ?_)
  case aO => exact HR31.out
  case aR => exact (by have := HC9.out; rw [HL9.out] at this; exact this)
  case aB => exact HBg.out
  case aS => exact (HBg.out : Below we.heap.size we _).size
  case aL => simp
  intro vwh wh hR hB hg hv
  obtain ⟨X9, hY⟩ : ∃ Y, ([0] : List Int) ++ P9 = Y := ⟨_, rfl⟩
  try simp only [List.nil_append, List.cons_append] at hY
  rw [hY] at hR
  have HYX9 := Aside0.mk hY
  obtain ⟨AX9, cX9, rfl, hcX9, hC⟩ := Kd.R_reads hR
  have HRX9 := Aside0.mk hR
  have HCX9 := Aside0.mk hC
  have HBwh := Aside0.mk hB
  have HGX9 := Aside0.mk hcX9
  have hLX9 : X9.length ≤ 10 := by rw [← hY]; (try simp only [List.length_append, List.length_cons, List.length_nil]); omega
  clear hY hR hC hB hg hv hcX9
  have HB9 : Aside0 (Below w.heap.size w wh) := ⟨HB8.out.trans (HBwh.out.mono HB8.out.size)⟩
  have HC8h := Aside0.mk (Kd.C_below HCX8.out HBwh.out)
  clear HR31 HC9 HBg HBwh HCX8 HRX8 HRX9 HB8
  have HLa := Aside0.mk (lit_R wh 5 [] (by simp))
  go_wp2_with ((with_reducible refine gate_builtin (b := .append) (xs := #[.tmp 36, .tmp 37]) rfl ?_); at_builtin; refine Kd.R_append_rows (Kd.int .u8) (w0 := wh) wh.heap.size rfl (.tmp 36) (.tmp 37) 22 5 (.int .u8 0) 1 rfl Try.underlying22 info5 rfl (by decide) (by omega) _ ([] : List Int) X8 AX8 X8.length cX8 (fun _ => True) (fun _ => False) rfl rfl ?aO ?aR (fun _ _ h => h) (fun _ h => h.elim) (fun _ _ => trivial) ?aB ?aS ?aL ?_)
  case aO => exact HLa.out
  case aR => exact Kd.C_below HC8h.out ((Below.refl _ _).alloc (Nat.le_refl _) _)
  case aB => exact (Below.refl _ _).alloc (Nat.le_refl _) _
  case aS => exact ((Below.refl _ _).alloc (Nat.le_refl _) _ : Below wh.heap.size wh _).size
  case aL => simp; omega
  intro vwi wi hR hB hg hv
  obtain ⟨X2, hY⟩ : ∃ Y, ([] : List Int) ++ X8 = Y := ⟨_, rfl⟩
  try simp only [List.nil_append, List.cons_append] at hY
  rw [hY] at hR
  have HYX2 := Aside0.mk hY
  obtain ⟨AX2, cX2, rfl, hcX2, hC⟩ := Kd.R_reads hR
  have HRX2 := Aside0.mk hR
  have HCX2 := Aside0.mk hC
  have HBwi := Aside0.mk hB
  have HGX2 := Aside0.mk hcX2
  have hLX2 : X2.length ≤ 600 := by rw [← hY]; (try simp only [List.length_append, List.length_cons, List.length_nil]); omega
  clear hY hR hC hB hg hv hcX2
  go_wp2_with ((with_reducible refine gate_builtin (b := .append) (xs := #[.tmp 38, .tmp 39]) rfl ?_); at_builtin; refine Kd.R_append_rows (Kd.int .u8) (w0 := wh) wh.heap.size rfl (.tmp 38) (.tmp 39) 22 5 (.int .u8 0) 1 rfl Try.underlying22 info5 rfl (by decide) (by omega) _ X2 l1 A1 l1.length c1 (fun _ => True) (fun _ => False) rfl rfl ?aO ?aR (fun _ _ h => h) (fun _ h => h.elim) (fun _ _ => trivial) ?aB ?aS ?aL ?_)
  case aO => exact HRX2.out
  case aR => exact Kd.C_below (Kd.C_below HR1.out HB9.out) HBwi.out
  case aB => exact HBwi.out
  case aS => exact (HBwi.out : Below wh.heap.size wh _).size
  case aL => omega
  intro vwj wj hR hB hg hv
  obtain ⟨X10, hY⟩ : ∃ Y, X2 ++ l1 = Y := ⟨_, rfl⟩
  try simp only [List.nil_append, List.cons_append] at hY
  rw [hY] at hR
  have HYX10 := Aside0.mk hY
  obtain ⟨AX10, cX10, rfl, hcX10, hC⟩ := Kd.R_reads hR
  have HRX10 := Aside0.mk hR
  have HCX10 := Aside0.mk hC
  have HBwj := Aside0.mk hB
  have HGX10 := Aside0.mk hcX10
  have hLX10 : X10.length ≤ 1200 := by rw [← hY]; (try simp only [List.length_append, List.length_cons, List.length_nil]); omega
  clear hY hR hC hB hg hv hcX10
  have HB10 : Aside0 (Below w.heap.size w wj) := ⟨HB9.out.trans (HBwj.out.mono HB9.out.size)⟩
  have HC8 := Aside0.mk (Kd.C_below HC8h.out HBwj.out)
  have HC9 := Aside0.mk (Kd.C_below HCX9.out HBwj.out)
  clear HLa HRX2 HCX2 HBwi HRX10 HC8h HCX9 HB9 HBwj
  obtain ⟨x, hx⟩ : ∃ x, crc X10 = x := ⟨_, rfl⟩
  go_wp2_with fail
  refine (num_Sum.calls AX10 cX10 X10 x wj HCX10.out HGX10.out (by rw [← hx]; exact sum_some (by omega))).mono ?_
  rintro e wk ⟨rfl, ⟨nd2, rfl⟩⟩
  have HX := Aside0.mk hx
  clear hx
  have HB11 := Aside0.mk (pw_below_drewN HB10.out nd2)
  have HC8' := Aside0.mk (Kd.C_drewN HC8.out nd2)
  have HC9' := Aside0.mk (Kd.C_drewN HC9.out nd2)
  obtain ⟨wl, hwl⟩ : ∃ W, wj.drewN nd2 = W := ⟨_, rfl⟩
  rw [hwl] at HB11 HC8' HC9' ⊢
  clear HC8 HC9 HB10 HCX10 hwl
  have HLb := Aside0.mk (lit_R wl 5 [] (by simp))
  go_wp2_with ((with_reducible refine gate_builtin (b := .append) (xs := #[.tmp 42, .tmp 43]) rfl ?_); at_builtin; refine Kd.R_append_rows (Kd.int .u8) (w0 := wl) wl.heap.size rfl (.tmp 42) (.tmp 43) 22 5 (.int .u8 0) 1 rfl Try.underlying22 info5 rfl (by decide) (by omega) _ ([] : List Int) X9 AX9 X9.length cX9 (fun _ => True) (fun _ => False) rfl rfl ?aO ?aR (fun _ _ h => h) (fun _ h => h.elim) (fun _ _ => trivial) ?aB ?aS ?aL ?_)
  case aO => exact HLb.out
  case aR => exact Kd.C_below HC9'.out ((Below.refl _ _).alloc (Nat.le_refl _) _)
  case aB => exact (Below.refl _ _).alloc (Nat.le_refl _) _
  case aS => exact ((Below.refl _ _).alloc (Nat.le_refl _) _ : Below wl.heap.size wl _).size
  case aL => simp; omega
  intro vwm wm hR hB hg hv
  obtain ⟨X3, hY⟩ : ∃ Y, ([] : List Int) ++ X9 = Y := ⟨_, rfl⟩
  try simp only [List.nil_append, List.cons_append] at hY
  rw [hY] at hR
  have HYX3 := Aside0.mk hY
  obtain ⟨AX3, cX3, rfl, hcX3, hC⟩ := Kd.R_reads hR
  have HRX3 := Aside0.mk hR
  have HCX3 := Aside0.mk hC
  have HBwm := Aside0.mk hB
  have HGX3 := Aside0.mk hcX3
  have hLX3 : X3.length ≤ 10 := by rw [← hY]; (try simp only [List.length_append, List.length_cons, List.length_nil]); omega
  clear hY hR hC hB hg hv hcX3
  go_wp2_with ((with_reducible refine gate_builtin (b := .append) (xs := #[.tmp 44, .tmp 45]) rfl ?_); at_builtin; refine Kd.R_append_rows (Kd.int .u8) (w0 := wl) wl.heap.size rfl (.tmp 44) (.tmp 45) 22 5 (.int .u8 0) 1 rfl Try.underlying22 info5 rfl (by decide) (by omega) _ X3 l1 A1 l1.length c1 (fun _ => True) (fun _ => False) rfl rfl ?aO ?aR (fun _ _ h => h) (fun _ h => h.elim) (fun _ _ => trivial) ?aB ?aS ?aL ?_)
  case aO => exact HRX3.out
  case aR => exact Kd.C_below (Kd.C_below HR1.out HB11.out) HBwm.out
  case aB => exact HBwm.out
  case aS => exact (HBwm.out : Below wl.heap.size wl _).size
  case aL => omega
  intro vwn wn hR hB hg hv
  obtain ⟨X11, hY⟩ : ∃ Y, X3 ++ l1 = Y := ⟨_, rfl⟩
  try simp only [List.nil_append, List.cons_append] at hY
  rw [hY] at hR
  have HYX11 := Aside0.mk hY
  obtain ⟨AX11, cX11, rfl, hcX11, hC⟩ := Kd.R_reads hR
  have HRX11 := Aside0.mk hR
  have HCX11 := Aside0.mk hC
  have HBwn := Aside0.mk hB
  have HGX11 := Aside0.mk hcX11
  have hLX11 : X11.length ≤ 600 := by rw [← hY]; (try simp only [List.length_append, List.length_cons, List.length_nil]); omega
  clear hY hR hC hB hg hv hcX11
  have HB12 : Aside0 (Below w.heap.size w wn) := ⟨HB11.out.trans (HBwn.out.mono HB11.out.size)⟩
  have HC8 := Aside0.mk (Kd.C_below HC8'.out HBwn.out)
  have HC9 := Aside0.mk (Kd.C_below HC9'.out HBwn.out)
  clear HLb HRX3 HCX3 HBwm HRX11 HC8' HC9' HB11 HBwn
  have ex : crc X11 = x := by
    rw [← HYX11.out, ← HYX3.out, ← HYX9.out, ← HP9.out, ← HQ.out, ← HX.out, ← HYX10.out, ← HYX2.out, ← HYX8.out, ← HYX1.out, ← HP7.out, ← HN.out]
    exact HE2.out.symm
  have ey : crc X8 = crc X9 := by
    rw [← HYX9.out, ← HP9.out, ← HQ.out, ← HYX8.out, ← HYX1.out, ← HP7.out, ← HN.out]
    exact HE1.out
  obtain ⟨y, hy⟩ : ∃ y, crc X9 = y := ⟨_, rfl⟩
  rw [hy] at ey
  have hn := crc_bd l0
  rw [HN.out] at hn
  have HEX := Aside0.mk ex
  have HEY := Aside0.mk ey
  have HY' := Aside0.mk hy
  clear ex ey hy
  go_wp2_with fail
  refine (num_Sum.calls AX11 cX11 X11 x wn HCX11.out HGX11.out (by rw [← HEX.out]; exact sum_some (by omega))).mono ?_
  rintro e wo ⟨rfl, ⟨nd3, rfl⟩⟩
  have hn0 : decide (0 ≤ n) = true := by simp; omega
  have hn1 : decide (n ≤ 4294967295) = true := by simp; omega
  have hs0 := fun W => num_Sum.calls none 0 [] 0 W (Kd.C_nil _ _) (Nat.le_refl _) (by unfold num_Sum.f; rw [if_pos (by simp)]; decide +kernel)
  have HS0 := Aside0.mk hs0
  clear hs0
  go_wp2_with fail
  refine (HS0.out _).mono ?_
  rintro e wp ⟨rfl, ⟨nd4, rfl⟩⟩
  go_wp2_with fail
  refine (num_Sum.calls AX8 cX8 X8 y _ (Kd.C_drewN HC8.out _) HGX8.out (by rw [← HEY.out]; exact sum_some (by omega))).mono ?_
  rintro e wq ⟨rfl, ⟨nd5, rfl⟩⟩
  go_wp2_with fail
  refine (num_Sum.calls AX9 cX9 X9 y _ (Kd.C_drewN HC9.out _) HGX9.out (by rw [← HY'.out]; exact sum_some (by omega))).mono ?_
  rintro e wr ⟨rfl, ⟨nd6, rfl⟩⟩
  go_wp2
  go_ret
  exact ⟨rfl, pw_below_drewN HB12.out _⟩
set_option maxHeartbeats 8000000 in
set_option maxRecDepth 100000 in
theorem NumSums_long (A0 : Option Addr) (c0 : Nat) (l0 : List Int) (A1 : Option Addr) (c1 : Nat) (l1 : List Int) (w : World) (h : ¬ (l0.length ≤ 500 ∧ l1.length ≤ 500)) :
    Calls Try.prog 8 #[.slice A0 l0.length c0, .slice A1 l1.length c1] w fun e w' => e = .returned (.bool true) ∧ Below w.heap.size w w' := by
  by_cases h0 : 500 < l0.length
  · have d0 : decide ((500 : Int) < l0.length) = true := by simp; omega
    go_enter Try.func8, Try.ntmps8
    go_wp2_with fail
    refine (assartlaw01_shown.calls true w rfl).mono ?_
    rintro e wa ⟨rfl, hb⟩
    have HBa := Aside0.mk hb
    clear hb
    go_wp2
    go_ret
    exact ⟨rfl, HBa.out⟩
  · have d0 : decide ((500 : Int) < l0.length) = false := by simp; omega
    have d1 : decide ((500 : Int) < l1.length) = true := by simp; omega
    go_enter Try.func8, Try.ntmps8
    go_wp2_with fail
    refine (assartlaw01_shown.calls true w rfl).mono ?_
    rintro e wa ⟨rfl, hb⟩
    have HBa := Aside0.mk hb
    clear hb
    go_wp2
    go_ret
    exact ⟨rfl, HBa.out⟩
/-- What the law comes to: true, where the sums are as it says. -/
def assartlaw01_NumSums.f (l0 l1 : List Int) : Option Bool :=
  if l0.length ≤ 500 ∧ l1.length ≤ 500 then (if crc (l0 ++ le (crc l0) 4) = crc ([0] ++ le (crc [0]) 4) ∧ crc (l0 ++ le (crc l0) 4 ++ l1) = crc ([0] ++ le (crc [0]) 4 ++ l1) then some true else none) else some true
theorem assartlaw01_NumSums.calls (A0 : Option Addr) (c0 : Nat) (l0 : List Int) (A1 : Option Addr) (c1 : Nat) (l1 : List Int) (r : Bool) (w : World) (hr0 : Kd.C (Kd.int .u8) w A0 l0.length l0) (hc0 : l0.length ≤ c0) (hr1 : Kd.C (Kd.int .u8) w A1 l1.length l1) (hc1 : l1.length ≤ c1) (h : assartlaw01_NumSums.f l0 l1 = some r) :
    Calls Try.prog 8 #[.slice A0 l0.length c0, .slice A1 l1.length c1] w fun e w' => e = .returned (.bool r) ∧ Below w.heap.size w w' := by
  unfold assartlaw01_NumSums.f at h
  by_cases hl : l0.length ≤ 500 ∧ l1.length ≤ 500
  · rw [if_pos hl] at h
    by_cases he : crc (l0 ++ le (crc l0) 4) = crc ([0] ++ le (crc [0]) 4) ∧ crc (l0 ++ le (crc l0) 4 ++ l1) = crc ([0] ++ le (crc [0]) 4 ++ l1)
    · rw [if_pos he] at h
      injection h with h
      subst h
      exact NumSums_walk A0 c0 l0 A1 c1 l1 w hr0 hc0 hr1 hc1 hl.1 hl.2 he.1 he.2
    · rw [if_neg he] at h
      cases h
  · rw [if_neg hl] at h
    injection h with h
    subst h
    exact NumSums_long A0 c0 l0 A1 c1 l1 w hl
end Go.Proofs.Ytiklkokjoemokaa.P
