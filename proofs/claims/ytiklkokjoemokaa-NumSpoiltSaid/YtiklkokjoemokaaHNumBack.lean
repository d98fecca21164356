/- NumBack, walked by hand. -/
import Derived.Test.YtiklkokjoemokaaHNumSums
import Derived.Test.YtiklkokjoemokaaPRef
namespace Go.Proofs.Ytiklkokjoemokaa.P
open Go.RowKit Go.Proofs.YtiklkokjoemokaaW.PrintWords Go.Proofs.YtiklkokjoemokaaW.PrintLast Go.Proofs.YtiklkokjoemokaaW.PrintMore
set_option linter.unusedVariables false
set_option linter.unusedSimpArgs false
theorem seal_size {l : List Int} (h : l.length ≤ 36) : (strOfNums (pad l ++ le (crc (pad l)) 4)).size = 40 := by
  have hp := pad_len h
  simp [strOfNums, ByteArray.size, hp, le, le4]
theorem pad_lo {l : List Int} {k : Nat} (h : k < l.length) : rd (pad l) (k : Int) = rd l k := by
  simp [rd, pad, List.getD_eq_getElem?_getD, List.getElem?_append_left h]
theorem pad_hi {l : List Int} {k : Nat} (h : ¬ k < l.length) : rd (pad l) (k : Int) = 0 := by
  simp only [rd, pad, Int.toNat_natCast, List.getD_eq_getElem?_getD]
  rw [List.getElem?_append_right (by omega)]
  cases h2 : (List.replicate (36 - l.length) (0 : Int))[k - l.length]? with
  | none => rfl
  | some x =>
    have := List.mem_of_getElem? h2
    simp at this
    simp [this.2]
theorem lev_back {b : List Int} (hb : ∀ x ∈ b, 0 ≤ x ∧ x < 256) (hl : b.length = 40) : le (lev b 36 4) 4 = b.drop 36 := by
  have r := lt_of_all hb
  have r0 := r 36
  have r1 := r 37
  have r2 := r 38
  have r3 := r 39
  have hd : b.drop 36 = [rd b 36, rd b 37, rd b 38, rd b 39] := by
    apply List.ext_getElem
    · simp [hl]
    · intro i h1 h2
      simp at h2
      rcases (show i = 0 ∨ i = 1 ∨ i = 2 ∨ i = 3 by omega) with rfl | rfl | rfl | rfl <;> simp [rd, hl]
  rw [hd]
  simp only [le, le4, lev]
  simp
  omega
theorem str_bytesOf (s : ByteArray) : strOfNums (bytesOf s) = s := by
  unfold strOfNums bytesOf
  simp only [List.map_map]
  have : (s.data.toList.map ((fun n : Int => UInt8.ofNat n.toNat) ∘ fun b => (b.toNat : Int))) = s.data.toList := by
    conv => rhs; rw [← List.map_id s.data.toList]
    exact List.map_congr_left fun x _ => by simp
  rw [this]
theorem seal_of_sealed {s : ByteArray} (h : isSealed (bytesOf s) = true) : num_Seal.f ((bytesOf s).take 36) = some (s, 0) := by
  unfold isSealed at h
  simp only [Bool.and_eq_true, decide_eq_true_eq] at h
  obtain ⟨hl, hc⟩ := h
  have ht : ((bytesOf s).take 36).length = 36 := by rw [List.length_take]; omega
  have hp : pad ((bytesOf s).take 36) = (bytesOf s).take 36 := by unfold pad; rw [ht]; simp
  unfold num_Seal.f
  rw [if_neg (by omega), hp, ← hc, lev_back (bytesOf_bd s) hl, List.take_append_drop, str_bytesOf]
set_option maxHeartbeats 8000000 in
set_option maxRecDepth 100000 in
theorem NumBack_walk (n wd : Int) (A2 : Option Addr) (c2 : Nat) (l2 : List Int) (A3 : Option Addr) (c3 : Nat) (l3 : List Int) (a4 : ByteArray) (w : World) (hr2 : Kd.C (Kd.int .u8) w A2 l2.length l2) (hc2 : l2.length ≤ c2) (hr3 : Kd.C (Kd.int .u8) w A3 l3.length l3) (hc3 : l3.length ≤ c3)
    (p : List Int) (hp : num_Put.f 6 n wd = some p) (hpl : p.length ≤ 4) (hw0 : 0 < p.length → (p.length : Int) = wd ∧ num_Take.f 6 (l2 ++ p ++ l3) (l2.length : Int) wd = some (n, (l2.length : Int) + wd, 0))
    (hby : ∀ x ∈ l3, 0 ≤ x ∧ x < 256) (h2 : l2.length ≤ 500) (h3 : l3.length ≤ 500) (h4 : a4.size ≤ 1000) :
    Calls Try.prog 5 #[.agg #[.int .i64 n, .int .i64 wd, .slice A2 l2.length c2, .slice A3 l3.length c3, .string a4]] w fun e w' => e = .returned (.bool true) ∧ Below w.heap.size w w' := by
  have HR2 := Aside0.mk hr2
  have HR3 := Aside0.mk hr3
  have HC2 := Aside0.mk hc2
  have HC3 := Aside0.mk hc3
  have HP := Aside0.mk hp
  have HW := Aside0.mk hw0
  have HBY := Aside0.mk hby
  clear hr2 hr3 hc2 hc3 hp hw0 hby
  have d2 : decide ((500 : Int) < l2.length) = false := by simp; omega
  have d3 : decide ((500 : Int) < l3.length) = false := by simp; omega
  have d4 : decide ((1000 : Int) < a4.size) = false := by simp; omega
  go_enter Try.func5, Try.ntmps5
  go_wp2_with fail
  refine (assartlaw01_shown.calls true _ rfl).mono ?_
  rintro e wa ⟨rfl, hb⟩
  have HBa : Aside0 (Below w.heap.size w wa) := ⟨((Below.refl _ _).alloc (Nat.le_refl _) _).trans (hb.mono (by simp))⟩
  clear hb
  go_wp2_with fail
  refine (num_Put.calls 6 n wd p wa HP.out).mono ?_
  rintro e wc ⟨v9, rfl, hR9, hb9⟩
  obtain ⟨A9, c9, rfl, hc9, hC9⟩ := Kd.R_reads hR9
  have HC9 := Aside0.mk hC9
  have HBc : Aside0 (Below w.heap.size w wc) := ⟨HBa.out.trans (hb9.mono HBa.out.size)⟩
  clear hR9 hC9 hb9 HBa
  have st1 : ∃ W1 : World, Aside0 (Below w.heap.size w W1) := ⟨_, HBc⟩
  clear st1
  by_cases hp0 : 0 < p.length
  · have dp : decide ((0 : Int) < p.length) = true := by simp; omega
    have dp' : decide (0 < p.length) = true := by simp; omega
    obtain ⟨hpw, htk⟩ := HW.out hp0
    have HPW := Aside0.mk hpw
    have HTK := Aside0.mk htk
    clear hpw htk
    have HL0 := Aside0.mk (lit_R' wc 5 [] #[] rfl (by simp))
    go_wp2_with ((with_reducible refine gate_builtin (b := .append) (xs := #[.tmp 54, .tmp 55]) rfl ?_); at_builtin; refine Kd.R_append_rows (Kd.int .u8) (w0 := wc) wc.heap.size rfl (.tmp 54) (.tmp 55) 22 5 (.int .u8 0) 1 rfl Try.underlying22 info5 rfl (by decide) (by omega) _ ([] : List Int) l2 A2 l2.length c2 (fun _ => True) (fun _ => False) rfl rfl ?aO ?aR (fun _ _ h => h) (fun _ h => h.elim) (fun _ _ => trivial) ?aB ?aS ?aL ?_)
    case aO => exact HL0.out
    case aR => exact Kd.C_below (Kd.C_below HR2.out HBc.out) ((Below.refl _ _).alloc (Nat.le_refl _) _)
    case aB => exact (Below.refl _ _).alloc (Nat.le_refl _) _
    case aS => exact ((Below.refl _ _).alloc (Nat.le_refl _) _ : Below wc.heap.size wc _).size
    case aL => simp; omega
    intro vwx wx hR hB hg hv
    obtain ⟨X1, hY⟩ : ∃ Y, ([] : List Int) ++ l2 = Y := ⟨_, rfl⟩
    try simp only [List.nil_append, List.cons_append] at hY
    rw [hY] at hR
    have HYX1 := Aside0.mk hY
    obtain ⟨AX1, cX1, rfl, hcX1, hC⟩ := Kd.R_reads hR
    have HRX1 := Aside0.mk hR
    have HCX1 := Aside0.mk hC
    have HBwx := Aside0.mk hB
    have HGX1 := Aside0.mk hcX1
    have hLX1 : X1.length ≤ 500 := by rw [← hY]; (try simp only [List.length_append, List.length_cons, List.length_nil]); omega
    clear hY hR hC hB hg hv hcX1
    go_wp2_with ((with_reducible refine gate_builtin (b := .append) (xs := #[.tmp 56, .tmp 57]) rfl ?_); at_builtin; refine Kd.R_append_rows (Kd.int .u8) (w0 := wc) wc.heap.size rfl (.tmp 56) (.tmp 57) 22 5 (.int .u8 0) 1 rfl Try.underlying22 info5 rfl (by decide) (by omega) _ X1 p A9 p.length c9 (fun _ => True) (fun _ => False) rfl rfl ?aO ?aR (fun _ _ h => h) (fun _ h => h.elim) (fun _ _ => trivial) ?aB ?aS ?aL ?_)
    case aO => exact HRX1.out
    case aR => exact Kd.C_below HC9.out HBwx.out
    case aB => exact HBwx.out
    case aS => exact (HBwx.out : Below wc.heap.size wc _).size
    case aL => omega
    intro vwy wy hR hB hg hv
    obtain ⟨X2, hY⟩ : ∃ Y, X1 ++ p = Y := ⟨_, rfl⟩
    try simp only [List.nil_append, List.cons_append] at hY
    rw [hY] at hR
    have HYX2 := Aside0.mk hY
    obtain ⟨AX2, cX2, rfl, hcX2, hC⟩ := Kd.R_reads hR
    have HRX2 := Aside0.mk hR
    have HCX2 := Aside0.mk hC
    have HBwy := Aside0.mk hB
    have HGX2 := Aside0.mk hcX2
    have hLX2 : X2.length ≤ 504 := by rw [← hY]; (try simp only [List.length_append, List.length_cons, List.length_nil]); omega
    clear hY hR hC hB hg hv hcX2
    go_wp2_with ((with_reducible refine gate_builtin (b := .append) (xs := #[.tmp 58, .tmp 59]) rfl ?_); at_builtin; refine Kd.R_append_rows (Kd.int .u8) (w0 := wc) wc.heap.size rfl (.tmp 58) (.tmp 59) 22 5 (.int .u8 0) 1 rfl Try.underlying22 info5 rfl (by decide) (by omega) _ X2 l3 A3 l3.length c3 (fun _ => True) (fun _ => False) rfl rfl ?aO ?aR (fun _ _ h => h) (fun _ h => h.elim) (fun _ _ => trivial) ?aB ?aS ?aL ?_)
    case aO => exact HRX2.out
    case aR => exact Kd.C_below (Kd.C_below HR3.out HBc.out) HBwy.out
    case aB => exact HBwy.out
    case aS => exact (HBwy.out : Below wc.heap.size wc _).size
    case aL => omega
    intro vwz wz hR hB hg hv
    obtain ⟨X3, hY⟩ : ∃ Y, X2 ++ l3 = Y := ⟨_, rfl⟩
    try simp only [List.nil_append, List.cons_append] at hY
    rw [hY] at hR
    have HYX3 := Aside0.mk hY
    obtain ⟨AX3, cX3, rfl, hcX3, hC⟩ := Kd.R_reads hR
    have HRX3 := Aside0.mk hR
    have HCX3 := Aside0.mk hC
    have HBwz := Aside0.mk hB
    have HGX3 := Aside0.mk hcX3
    have hLX3 : X3.length ≤ 1004 := by rw [← hY]; (try simp only [List.length_append, List.length_cons, List.length_nil]); omega
    clear hY hR hC hB hg hv hcX3
    have HBz : Aside0 (Below w.heap.size w wz) := ⟨HBc.out.trans (HBwz.out.mono HBc.out.size)⟩
    have ht : num_Take.f 6 X3 (l2.length : Int) wd = some (n, (l2.length : Int) + wd, 0) := by rw [← HYX3.out, ← HYX2.out, ← HYX1.out]; exact HTK.out
    have HT := Aside0.mk ht
    clear ht HTK HYX1 HYX2 HYX3 HL0 HRX1 HCX1 HBwx HRX2 HCX2 HBwy HRX3 HBwz
    go_wp2_with fail
    refine (num_Take.calls 6 AX3 cX3 X3 (l2.length : Int) wd n ((l2.length : Int) + wd) 0 wz HCX3.out HGX3.out HT.out).mono ?_
    rintro e w1 ⟨rfl, ⟨nd, rfl⟩⟩
    have HB1 : Aside0 (Below w.heap.size w (wz.drewN nd)) := ⟨pw_below_drewN HBz.out nd⟩
    have en : (n != n) = false := by simp
    have ew : wrap64 ((l2.length : Int) + wd) = (l2.length : Int) + wd := by have := HPW.out; exact w64 (by omega) (by omega)
    have ew2 : IntKind.i64.wrap ((l2.length : Int) + wd) = (l2.length : Int) + wd := (i64_w _).trans ew
    have ex : (((l2.length : Int) + wd) != ((l2.length : Int) + wd)) = false := by simp
    have ey : ((p.length : Int) != wd) = false := by rw [HPW.out]; simp
    clear HCX3 HBz HT
    go_wp2_with fail
    obtain ⟨w5, hw5⟩ : ∃ W, wz.drewN nd = W := ⟨_, rfl⟩
    rw [hw5] at HB1 ⊢
    have HB5 : Aside0 (Below w.heap.size w w5) := HB1
    clear HB1 hw5
    by_cases hs3 : l3.length ≤ 36
    · obtain ⟨S, hS⟩ : ∃ S, strOfNums (pad l3 ++ le (crc (pad l3)) 4) = S := ⟨_, rfl⟩
      have hsl := num_Seal.calls A3 c3 l3 S 0 w5 (Kd.C_below HR3.out HB5.out) HC3.out (by unfold num_Seal.f; rw [if_neg (by omega), hS])
      have hop : num_Open.f S = some (pad l3, 0) := by rw [← hS]; exact open_seal hs3 HBY.out
      have hS40 : S.size = 40 := by rw [← hS]; exact seal_size hs3
      refine hsl.mono ?_
      rintro e w6 ⟨rfl, hb6⟩
      have HB6 : Aside0 (Below w.heap.size w w6) := ⟨HB5.out.trans (hb6.mono HB5.out.size)⟩
      have HOP := Aside0.mk hop
      have HS40 := Aside0.mk hS40
      clear hS hsl hb6 hop hS40 HB5
      go_wp2_with fail
      refine (num_Open.calls S _ _ w6 HOP.out).mono ?_
      rintro e w7 ⟨v15, rfl, hV, hb7⟩
      obtain ⟨A15, c15, rfl, hc15, hF⟩ := hV
      have HB7 : Aside0 (Below w.heap.size w w7) := ⟨HB6.out.trans (hb7.mono HB6.out.size)⟩
      have HC15 := Aside0.mk (Kd.F_now hF)
      have hpd := pad_len hs3
      rw [hpd] at hc15
      rw [hpd]
      have HPD := Aside0.mk hpd
      have d36 : decide ((l3.length : Int) ≤ 36) = true := by simp; omega
      have HR3' := Aside0.mk (Kd.C_below HR3.out HB7.out)
      clear hb7 hF hpd HB6 HOP
      go_wp2
      go_loopw [17] (fun i wr => ∃ k : Nat, k ≤ 36 ∧ i = .int .i64 k ∧ ∃ m, wr = w7.drewN m) (fun i _ => 36 - (intOf i).toNat)
      case atStart => exact ⟨0, Nat.zero_le _, rfl, 0, rfl⟩
      case round =>
        obtain ⟨k, hk, rfl, m, rfl⟩ := hrel
        by_cases hlt : k < 36
        · have dk : decide ((k : Int) < 36) = true := by simp; omega
          have p1 : (0 : Int) ≤ k := by omega
          have q1 : (k : Int) < (pad l3).length := by rw [HPD.out]; omega
          have q36 : (k : Int) < 36 := by omega
          obtain ⟨ad, hA, hx⟩ := Kd.at_int HC15.out (k : Int) p1 q1
          rw [Int.toNat_natCast] at hx
          cases hA
          by_cases hlb : k < l3.length
          · have q2 : (k : Int) < l3.length := by omega
            have dl : decide ((k : Int) < l3.length) = true := by simp; omega
            have dl' : decide (k < l3.length) = true := by simp; omega
            have dg : decide ((l3.length : Int) ≤ k) = false := by simp; omega
            have dg' : decide (l3.length ≤ k) = false := by simp; omega
            obtain ⟨ad3, hA3, hx3⟩ := Kd.at_int HR3'.out (k : Int) p1 q2
            rw [Int.toNat_natCast] at hx3
            cases hA3
            have er : rd (pad l3) k = rd l3 k := pad_lo hlb
            rw [er] at hx
            obtain ⟨z, hz⟩ : ∃ z, rd l3 (k : Int) = z := ⟨_, rfl⟩
            rw [hz] at hx hx3
            have ez : (z != z) = false := by simp
            clear er hz
            go_wp2_with fail
            go_quiet (fail)
            go_wp2
            go_roundw
            case rel => exact ⟨k + 1, by omega, by go_num, _, rfl⟩
            case measure => simp [intOf]; omega
          · have dl : decide ((k : Int) < l3.length) = false := by simp; omega
            have dl' : decide (k < l3.length) = false := by simp; omega
            have dg : decide ((l3.length : Int) ≤ k) = true := by simp; omega
            have dg' : decide (l3.length ≤ k) = true := by simp; omega
            have er : rd (pad l3) k = 0 := pad_hi hlb
            rw [er] at hx
            clear er
            go_wp2_with fail
            go_quiet (fail)
            go_wp2
            go_roundw
            case rel => exact ⟨k + 1, by omega, by go_num, _, rfl⟩
            case measure => simp [intOf]; omega
        · have dk : decide ((k : Int) < 36) = false := by simp; omega
          have HB8 : Aside0 (Below w.heap.size w (w7.drewN m)) := ⟨pw_below_drewN HB7.out m⟩
          have es40 : ((S.size : Int) == 40) = true := by rw [HS40.out]; rfl
          go_wp2_with fail
          by_cases hse : isSealed (bytesOf a4) = true
          · have hop : num_Open.f a4 = some ((bytesOf a4).take 36, 0) := by unfold num_Open.f; rw [if_pos hse]
            refine (num_Open.calls a4 _ _ _ hop).mono ?_
            rintro e w9 ⟨v18, rfl, hV, hb9⟩
            obtain ⟨A18, c18, rfl, hc18, hF⟩ := hV
            have HC18 := Aside0.mk (Kd.F_now hF)
            have HG18 := Aside0.mk hc18
            have HB9 : Aside0 (Below w.heap.size w w9) := ⟨HB8.out.trans (hb9.mono HB8.out.size)⟩
            have hsl := num_Seal.calls A18 c18 ((bytesOf a4).take 36) a4 0 w9 HC18.out HG18.out (seal_of_sealed hse)
            have HSL := Aside0.mk hsl
            obtain ⟨m18, hm18⟩ : ∃ m, ((bytesOf a4).take 36).length = m := ⟨_, rfl⟩
            have HSL' : Aside0 (Calls Try.prog 18 #[.slice A18 m18 c18] w9 fun e w' => e = .returned (.tuple #[.string a4, .int .i64 0]) ∧ Below w9.heap.size w9 w') := ⟨by rw [← hm18]; exact HSL.out⟩
            rw [hm18]
            clear hF hc18 hb9 hop hsl HSL hm18 HC18 HG18 hse
            go_wp2_with fail
            refine HSL'.out.mono ?_
            rintro e w10 ⟨rfl, hb10⟩
            have HB10 : Aside0 (Below w.heap.size w w10) := ⟨HB9.out.trans (hb10.mono HB9.out.size)⟩
            have es : (a4.toList == a4.toList) = true := by simp
            clear hb10 HSL'
            go_wp2
            go_ret
            exact ⟨rfl, HB10.out⟩
          · have hop : num_Open.f a4 = some ([], 2) := by unfold num_Open.f; rw [if_neg hse]
            refine (num_Open.calls a4 _ _ _ hop).mono ?_
            rintro e w9 ⟨v18, rfl, hV, hb9⟩
            obtain ⟨A18, c18, rfl, hc18, hF⟩ := hV
            have HB9 : Aside0 (Below w.heap.size w w9) := ⟨HB8.out.trans (hb9.mono HB8.out.size)⟩
            obtain ⟨S0, hS0⟩ : ∃ S, strOfNums (pad [] ++ le (crc (pad [])) 4) = S := ⟨_, rfl⟩
            have hsl := num_Seal.calls A18 c18 [] S0 0 w9 (Kd.F_now hF) hc18 (by unfold num_Seal.f; rw [if_neg (by simp), hS0])
            have HSL := Aside0.mk hsl
            clear hF hc18 hb9 hop hsl hS0 hse
            go_wp2_with fail
            refine HSL.out.mono ?_
            rintro e w10 ⟨rfl, hb10⟩
            have HB10 : Aside0 (Below w.heap.size w w10) := ⟨HB9.out.trans (hb10.mono HB9.out.size)⟩
            clear hb10 HSL
            go_wp2
            go_ret
            exact ⟨rfl, HB10.out⟩
    · have hsl := num_Seal.calls A3 c3 l3 ⟨#[]⟩ 1 w5 (Kd.C_below HR3.out HB5.out) HC3.out (by unfold num_Seal.f; rw [if_pos (by omega)])
      have hop : num_Open.f ⟨#[]⟩ = some ([], 2) := by decide +kernel
      refine hsl.mono ?_
      rintro e w6 ⟨rfl, hb6⟩
      have HB6 : Aside0 (Below w.heap.size w w6) := ⟨HB5.out.trans (hb6.mono HB5.out.size)⟩
      have HOP := Aside0.mk hop
      clear hsl hb6 hop HB5
      go_wp2_with fail
      refine (num_Open.calls ⟨#[]⟩ _ _ w6 HOP.out).mono ?_
      rintro e w7 ⟨v15, rfl, hV, hb7⟩
      obtain ⟨A15, c15, rfl, hc15, hF⟩ := hV
      have HB8 : Aside0 (Below w.heap.size w w7) := ⟨HB6.out.trans (hb7.mono HB6.out.size)⟩
      have d36 : decide ((l3.length : Int) ≤ 36) = false := by simp; omega
      clear hb7 hF HB6 HOP hc15
      go_wp2
      go_loopw [17] (fun i wr => i = .int .i64 0 ∧ wr = w7) (fun i _ => 0)
      case atStart => exact ⟨rfl, rfl⟩
      case round =>
        obtain ⟨rfl, rfl⟩ := hrel
        go_wp2_with fail
        by_cases hse : isSealed (bytesOf a4) = true
        · have hop : num_Open.f a4 = some ((bytesOf a4).take 36, 0) := by unfold num_Open.f; rw [if_pos hse]
          refine (num_Open.calls a4 _ _ _ hop).mono ?_
          rintro e w9 ⟨v18, rfl, hV, hb9⟩
          obtain ⟨A18, c18, rfl, hc18, hF⟩ := hV
          have HC18 := Aside0.mk (Kd.F_now hF)
          have HG18 := Aside0.mk hc18
          have HB9 : Aside0 (Below w.heap.size w w9) := ⟨HB8.out.trans (hb9.mono HB8.out.size)⟩
          have hsl := num_Seal.calls A18 c18 ((bytesOf a4).take 36) a4 0 w9 HC18.out HG18.out (seal_of_sealed hse)
          have HSL := Aside0.mk hsl
          obtain ⟨m18, hm18⟩ : ∃ m, ((bytesOf a4).take 36).length = m := ⟨_, rfl⟩
          have HSL' : Aside0 (Calls Try.prog 18 #[.slice A18 m18 c18] w9 fun e w' => e = .returned (.tuple #[.string a4, .int .i64 0]) ∧ Below w9.heap.size w9 w') := ⟨by rw [← hm18]; exact HSL.out⟩
          rw [hm18]
          clear hF hc18 hb9 hop hsl HSL hm18 HC18 HG18 hse
          go_wp2_with fail
          refine HSL'.out.mono ?_
          rintro e w10 ⟨rfl, hb10⟩
          have HB10 : Aside0 (Below w.heap.size w w10) := ⟨HB9.out.trans (hb10.mono HB9.out.size)⟩
          have es : (a4.toList == a4.toList) = true := by simp
          clear hb10 HSL'
          go_wp2
          go_ret
          exact ⟨rfl, HB10.out⟩
        · have hop : num_Open.f a4 = some ([], 2) := by unfold num_Open.f; rw [if_neg hse]
          refine (num_Open.calls a4 _ _ _ hop).mono ?_
          rintro e w9 ⟨v18, rfl, hV, hb9⟩
          obtain ⟨A18, c18, rfl, hc18, hF⟩ := hV
          have HB9 : Aside0 (Below w.heap.size w w9) := ⟨HB8.out.trans (hb9.mono HB8.out.size)⟩
          obtain ⟨S0, hS0⟩ : ∃ S, strOfNums (pad [] ++ le (crc (pad [])) 4) = S := ⟨_, rfl⟩
          have hsl := num_Seal.calls A18 c18 [] S0 0 w9 (Kd.F_now hF) hc18 (by unfold num_Seal.f; rw [if_neg (by simp), hS0])
          have HSL := Aside0.mk hsl
          clear hF hc18 hb9 hop hsl hS0 hse
          go_wp2_with fail
          refine HSL.out.mono ?_
          rintro e w10 ⟨rfl, hb10⟩
          have HB10 : Aside0 (Below w.heap.size w w10) := ⟨HB9.out.trans (hb10.mono HB9.out.size)⟩
          clear hb10 HSL
          go_wp2
          go_ret
          exact ⟨rfl, HB10.out⟩
  · have hpe : p = [] := List.length_eq_zero_iff.1 (by omega)
    subst hpe
    clear hp0 hpl HW
    simp only [List.length_nil] at hc9
    simp only [List.length_nil]
    go_wp2_with fail
    obtain ⟨w5, hw5⟩ : ∃ W, wc = W := ⟨_, rfl⟩
    rw [hw5] at HBc ⊢
    have HB5 : Aside0 (Below w.heap.size w w5) := HBc
    clear HBc hw5 HC9
    by_cases hs3 : l3.length ≤ 36
    · obtain ⟨S, hS⟩ : ∃ S, strOfNums (pad l3 ++ le (crc (pad l3)) 4) = S := ⟨_, rfl⟩
      have hsl := num_Seal.calls A3 c3 l3 S 0 w5 (Kd.C_below HR3.out HB5.out) HC3.out (by unfold num_Seal.f; rw [if_neg (by omega), hS])
      have hop : num_Open.f S = some (pad l3, 0) := by rw [← hS]; exact open_seal hs3 HBY.out
      have hS40 : S.size = 40 := by rw [← hS]; exact seal_size hs3
      refine hsl.mono ?_
      rintro e w6 ⟨rfl, hb6⟩
      have HB6 : Aside0 (Below w.heap.size w w6) := ⟨HB5.out.trans (hb6.mono HB5.out.size)⟩
      have HOP := Aside0.mk hop
      have HS40 := Aside0.mk hS40
      clear hS hsl hb6 hop hS40 HB5
      go_wp2_with fail
      refine (num_Open.calls S _ _ w6 HOP.out).mono ?_
      rintro e w7 ⟨v15, rfl, hV, hb7⟩
      obtain ⟨A15, c15, rfl, hc15, hF⟩ := hV
      have HB7 : Aside0 (Below w.heap.size w w7) := ⟨HB6.out.trans (hb7.mono HB6.out.size)⟩
      have HC15 := Aside0.mk (Kd.F_now hF)
      have hpd := pad_len hs3
      rw [hpd] at hc15
      rw [hpd]
      have HPD := Aside0.mk hpd
      have d36 : decide ((l3.length : Int) ≤ 36) = true := by simp; omega
      have HR3' := Aside0.mk (Kd.C_below HR3.out HB7.out)
      clear hb7 hF hpd HB6 HOP
      go_wp2
      go_loopw [17] (fun i wr => ∃ k : Nat, k ≤ 36 ∧ i = .int .i64 k ∧ ∃ m, wr = w7.drewN m) (fun i _ => 36 - (intOf i).toNat)
      case atStart => exact ⟨0, Nat.zero_le _, rfl, 0, rfl⟩
      case round =>
        obtain ⟨k, hk, rfl, m, rfl⟩ := hrel
        by_cases hlt : k < 36
        · have dk : decide ((k : Int) < 36) = true := by simp; omega
          have p1 : (0 : Int) ≤ k := by omega
          have q1 : (k : Int) < (pad l3).length := by rw [HPD.out]; omega
          have q36 : (k : Int) < 36 := by omega
          obtain ⟨ad, hA, hx⟩ := Kd.at_int HC15.out (k : Int) p1 q1
          rw [Int.toNat_natCast] at hx
          cases hA
          by_cases hlb : k < l3.length
          · have q2 : (k : Int) < l3.length := by omega
            have dl : decide ((k : Int) < l3.length) = true := by simp; omega
            have dl' : decide (k < l3.length) = true := by simp; omega
            have dg : decide ((l3.length : Int) ≤ k) = false := by simp; omega
            have dg' : decide (l3.length ≤ k) = false := by simp; omega
            obtain ⟨ad3, hA3, hx3⟩ := Kd.at_int HR3'.out (k : Int) p1 q2
            rw [Int.toNat_natCast] at hx3
            cases hA3
            have er : rd (pad l3) k = rd l3 k := pad_lo hlb
            rw [er] at hx
            obtain ⟨z, hz⟩ : ∃ z, rd l3 (k : Int) = z := ⟨_, rfl⟩
            rw [hz] at hx hx3
            have ez : (z != z) = false := by simp
            clear er hz
            go_wp2_with fail
            go_quiet (fail)
            go_wp2
            go_roundw
            case rel => exact ⟨k + 1, by omega, by go_num, _, rfl⟩
            case measure => simp [intOf]; omega
          · have dl : decide ((k : Int) < l3.length) = false := by simp; omega
            have dl' : decide (k < l3.length) = false := by simp; omega
            have dg : decide ((l3.length : Int) ≤ k) = true := by simp; omega
            have dg' : decide (l3.length ≤ k) = true := by simp; omega
            have er : rd (pad l3) k = 0 := pad_hi hlb
            rw [er] at hx
            clear er
            go_wp2_with fail
            go_quiet (fail)
            go_wp2
            go_roundw
            case rel => exact ⟨k + 1, by omega, by go_num, _, rfl⟩
            case measure => simp [intOf]; omega
        · have dk : decide ((k : Int) < 36) = false := by simp; omega
          have HB8 : Aside0 (Below w.heap.size w (w7.drewN m)) := ⟨pw_below_drewN HB7.out m⟩
          have es40 : ((S.size : Int) == 40) = true := by rw [HS40.out]; rfl
          go_wp2_with fail
          by_cases hse : isSealed (bytesOf a4) = true
          · have hop : num_Open.f a4 = some ((bytesOf a4).take 36, 0) := by unfold num_Open.f; rw [if_pos hse]
            refine (num_Open.calls a4 _ _ _ hop).mono ?_
            rintro e w9 ⟨v18, rfl, hV, hb9⟩
            obtain ⟨A18, c18, rfl, hc18, hF⟩ := hV
            have HC18 := Aside0.mk (Kd.F_now hF)
            have HG18 := Aside0.mk hc18
            have HB9 : Aside0 (Below w.heap.size w w9) := ⟨HB8.out.trans (hb9.mono HB8.out.size)⟩
            have hsl := num_Seal.calls A18 c18 ((bytesOf a4).take 36) a4 0 w9 HC18.out HG18.out (seal_of_sealed hse)
            have HSL := Aside0.mk hsl
            obtain ⟨m18, hm18⟩ : ∃ m, ((bytesOf a4).take 36).length = m := ⟨_, rfl⟩
            have HSL' : Aside0 (Calls Try.prog 18 #[.slice A18 m18 c18] w9 fun e w' => e = .returned (.tuple #[.string a4, .int .i64 0]) ∧ Below w9.heap.size w9 w') := ⟨by rw [← hm18]; exact HSL.out⟩
            rw [hm18]
            clear hF hc18 hb9 hop hsl HSL hm18 HC18 HG18 hse
            go_wp2_with fail
            refine HSL'.out.mono ?_
            rintro e w10 ⟨rfl, hb10⟩
            have HB10 : Aside0 (Below w.heap.size w w10) := ⟨HB9.out.trans (hb10.mono HB9.out.size)⟩
            have es : (a4.toList == a4.toList) = true := by simp
            clear hb10 HSL'
            go_wp2
            go_ret
            exact ⟨rfl, HB10.out⟩
          · have hop : num_Open.f a4 = some ([], 2) := by unfold num_Open.f; rw [if_neg hse]
            refine (num_Open.calls a4 _ _ _ hop).mono ?_
            rintro e w9 ⟨v18, rfl, hV, hb9⟩
            obtain ⟨A18, c18, rfl, hc18, hF⟩ := hV
            have HB9 : Aside0 (Below w.heap.size w w9) := ⟨HB8.out.trans (hb9.mono HB8.out.size)⟩
            obtain ⟨S0, hS0⟩ : ∃ S, strOfNums (pad [] ++ le (crc (pad [])) 4) = S := ⟨_, rfl⟩
            have hsl := num_Seal.calls A18 c18 [] S0 0 w9 (Kd.F_now hF) hc18 (by unfold num_Seal.f; rw [if_neg (by simp), hS0])
            have HSL := Aside0.mk hsl
            clear hF hc18 hb9 hop hsl hS0 hse
            go_wp2_with fail
            refine HSL.out.mono ?_
            rintro e w10 ⟨rfl, hb10⟩
            have HB10 : Aside0 (Below w.heap.size w w10) := ⟨HB9.out.trans (hb10.mono HB9.out.size)⟩
            clear hb10 HSL
            go_wp2
            go_ret
            exact ⟨rfl, HB10.out⟩
    · have hsl := num_Seal.calls A3 c3 l3 ⟨#[]⟩ 1 w5 (Kd.C_below HR3.out HB5.out) HC3.out (by unfold num_Seal.f; rw [if_pos (by omega)])
      have hop : num_Open.f ⟨#[]⟩ = some ([], 2) := by decide +kernel
      refine hsl.mono ?_
      rintro e w6 ⟨rfl, hb6⟩
      have HB6 : Aside0 (Below w.heap.size w w6) := ⟨HB5.out.trans (hb6.mono HB5.out.size)⟩
      have HOP := Aside0.mk hop
      clear hsl hb6 hop HB5
      go_wp2_with fail
      refine (num_Open.calls ⟨#[]⟩ _ _ w6 HOP.out).mono ?_
      rintro e w7 ⟨v15, rfl, hV, hb7⟩
      obtain ⟨A15, c15, rfl, hc15, hF⟩ := hV
      have HB8 : Aside0 (Below w.heap.size w w7) := ⟨HB6.out.trans (hb7.mono HB6.out.size)⟩
      have d36 : decide ((l3.length : Int) ≤ 36) = false := by simp; omega
      clear hb7 hF HB6 HOP hc15
      go_wp2
      go_loopw [17] (fun i wr => i = .int .i64 0 ∧ wr = w7) (fun i _ => 0)
      case atStart => exact ⟨rfl, rfl⟩
      case round =>
        obtain ⟨rfl, rfl⟩ := hrel
        go_wp2_with fail
        by_cases hse : isSealed (bytesOf a4) = true
        · have hop : num_Open.f a4 = some ((bytesOf a4).take 36, 0) := by unfold num_Open.f; rw [if_pos hse]
          refine (num_Open.calls a4 _ _ _ hop).mono ?_
          rintro e w9 ⟨v18, rfl, hV, hb9⟩
          obtain ⟨A18, c18, rfl, hc18, hF⟩ := hV
          have HC18 := Aside0.mk (Kd.F_now hF)
          have HG18 := Aside0.mk hc18
          have HB9 : Aside0 (Below w.heap.size w w9) := ⟨HB8.out.trans (hb9.mono HB8.out.size)⟩
          have hsl := num_Seal.calls A18 c18 ((bytesOf a4).take 36) a4 0 w9 HC18.out HG18.out (seal_of_sealed hse)
          have HSL := Aside0.mk hsl
          obtain ⟨m18, hm18⟩ : ∃ m, ((bytesOf a4).take 36).length = m := ⟨_, rfl⟩
          have HSL' : Aside0 (Calls Try.prog 18 #[.slice A18 m18 c18] w9 fun e w' => e = .returned (.tuple #[.string a4, .int .i64 0]) ∧ Below w9.heap.size w9 w') := ⟨by rw [← hm18]; exact HSL.out⟩
          rw [hm18]
          clear hF hc18 hb9 hop hsl HSL hm18 HC18 HG18 hse
          go_wp2_with fail
          refine HSL'.out.mono ?_
          rintro e w10 ⟨rfl, hb10⟩
          have HB10 : Aside0 (Below w.heap.size w w10) := ⟨HB9.out.trans (hb10.mono HB9.out.size)⟩
          have es : (a4.toList == a4.toList) = true := by simp
          clear hb10 HSL'
          go_wp2
          go_ret
          exact ⟨rfl, HB10.out⟩
        · have hop : num_Open.f a4 = some ([], 2) := by unfold num_Open.f; rw [if_neg hse]
          refine (num_Open.calls a4 _ _ _ hop).mono ?_
          rintro e w9 ⟨v18, rfl, hV, hb9⟩
          obtain ⟨A18, c18, rfl, hc18, hF⟩ := hV
          have HB9 : Aside0 (Below w.heap.size w w9) := ⟨HB8.out.trans (hb9.mono HB8.out.size)⟩
          obtain ⟨S0, hS0⟩ : ∃ S, strOfNums (pad [] ++ le (crc (pad [])) 4) = S := ⟨_, rfl⟩
          have hsl := num_Seal.calls A18 c18 [] S0 0 w9 (Kd.F_now hF) hc18 (by unfold num_Seal.f; rw [if_neg (by simp), hS0])
          have HSL := Aside0.mk hsl
          clear hF hc18 hb9 hop hsl hS0 hse
          go_wp2_with fail
          refine HSL.out.mono ?_
          rintro e w10 ⟨rfl, hb10⟩
          have HB10 : Aside0 (Below w.heap.size w w10) := ⟨HB9.out.trans (hb10.mono HB9.out.size)⟩
          clear hb10 HSL
          go_wp2
          go_ret
          exact ⟨rfl, HB10.out⟩
set_option maxHeartbeats 8000000 in
set_option maxRecDepth 100000 in
theorem NumBack_long (n wd : Int) (A2 : Option Addr) (c2 : Nat) (l2 : List Int) (A3 : Option Addr) (c3 : Nat) (l3 : List Int) (a4 : ByteArray) (w : World) (h : ¬ (l2.length ≤ 500 ∧ l3.length ≤ 500 ∧ a4.size ≤ 1000)) :
    Calls Try.prog 5 #[.agg #[.int .i64 n, .int .i64 wd, .slice A2 l2.length c2, .slice A3 l3.length c3, .string a4]] w fun e w' => e = .returned (.bool true) ∧ Below w.heap.size w w' := by
  by_cases h2 : 500 < l2.length
  · have d2 : decide ((500 : Int) < l2.length) = true := by simp; omega
    go_enter Try.func5, Try.ntmps5
    go_wp2_with fail
    refine (assartlaw01_shown.calls true _ rfl).mono ?_
    rintro e wa ⟨rfl, hb⟩
    have HBa : Aside0 (Below w.heap.size w wa) := ⟨((Below.refl _ _).alloc (Nat.le_refl _) _).trans (hb.mono (by simp))⟩
    clear hb
    go_wp2
    go_ret
    exact ⟨rfl, HBa.out⟩
  · have d2 : decide ((500 : Int) < l2.length) = false := by simp; omega
    by_cases h3 : 500 < l3.length
    · have d3 : decide ((500 : Int) < l3.length) = true := by simp; omega
      go_enter Try.func5, Try.ntmps5
      go_wp2_with fail
      refine (assartlaw01_shown.calls true _ rfl).mono ?_
      rintro e wa ⟨rfl, hb⟩
      have HBa : Aside0 (Below w.heap.size w wa) := ⟨((Below.refl _ _).alloc (Nat.le_refl _) _).trans (hb.mono (by simp))⟩
      clear hb
      go_wp2
      go_ret
      exact ⟨rfl, HBa.out⟩
    · have d3 : decide ((500 : Int) < l3.length) = false := by simp; omega
      have d4 : decide ((1000 : Int) < a4.size) = true := by simp; omega
      go_enter Try.func5, Try.ntmps5
      go_wp2_with fail
      refine (assartlaw01_shown.calls true _ rfl).mono ?_
      rintro e wa ⟨rfl, hb⟩
      have HBa : Aside0 (Below w.heap.size w wa) := ⟨((Below.refl _ _).alloc (Nat.le_refl _) _).trans (hb.mono (by simp))⟩
      clear hb
      go_wp2
      go_ret
      exact ⟨rfl, HBa.out⟩
/-- What is asked of the parts: what is put is taken, whatever stands around. -/
def NumBack_asks (n wd : Int) (l2 l3 : List Int) : Prop := (∀ x ∈ l3, 0 ≤ x ∧ x < 256) ∧ ∃ p : List Int, num_Put.f 6 n wd = some p ∧ p.length ≤ 4 ∧ (0 < p.length → (p.length : Int) = wd ∧ num_Take.f 6 (l2 ++ p ++ l3) (l2.length : Int) wd = some (n, (l2.length : Int) + wd, 0))
open Classical in
/-- What the law comes to. -/
noncomputable def assartlaw01_NumBack.f (n wd : Int) (l2 l3 : List Int) (a4 : ByteArray) : Option Bool :=
  if l2.length ≤ 500 ∧ l3.length ≤ 500 ∧ a4.size ≤ 1000 then (if NumBack_asks n wd l2 l3 then some true else none) else some true
theorem assartlaw01_NumBack.calls (n wd : Int) (A2 : Option Addr) (c2 : Nat) (l2 : List Int) (A3 : Option Addr) (c3 : Nat) (l3 : List Int) (a4 : ByteArray) (r : Bool) (w : World) (hr2 : Kd.C (Kd.int .u8) w A2 l2.length l2) (hc2 : l2.length ≤ c2) (hr3 : Kd.C (Kd.int .u8) w A3 l3.length l3) (hc3 : l3.length ≤ c3) (h : assartlaw01_NumBack.f n wd l2 l3 a4 = some r) :
    Calls Try.prog 5 #[.agg #[.int .i64 n, .int .i64 wd, .slice A2 l2.length c2, .slice A3 l3.length c3, .string a4]] w fun e w' => e = .returned (.bool r) ∧ Below w.heap.size w w' := by
  unfold assartlaw01_NumBack.f at h
  by_cases hl : l2.length ≤ 500 ∧ l3.length ≤ 500 ∧ a4.size ≤ 1000
  · rw [if_pos hl] at h
    by_cases he : NumBack_asks n wd l2 l3
    · rw [if_pos he] at h
      injection h with h
      subst h
      obtain ⟨hby, p, hp, hpl, hw⟩ := he
      exact NumBack_walk n wd A2 c2 l2 A3 c3 l3 a4 w hr2 hc2 hr3 hc3 p hp hpl hw hby hl.1 hl.2.1 hl.2.2
    · rw [if_neg he] at h
      cases h
  · rw [if_neg hl] at h
    injection h with h
    subst h
    exact NumBack_long n wd A2 c2 l2 A3 c3 l3 a4 w hl
end Go.Proofs.Ytiklkokjoemokaa.P
