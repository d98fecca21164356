import Derived.Test.YtiklkokjoemokaaHOpen
import Derived.Lib.SmallJoins
namespace Go.Proofs.Ytiklkokjoemokaa.P
open Go.RowKit Go.Proofs.YtiklkokjoemokaaW.PrintWords Go.Proofs.YtiklkokjoemokaaW.PrintLast Go.Proofs.YtiklkokjoemokaaW.PrintMore
set_option linter.unusedVariables false
set_option linter.unusedSimpArgs false
theorem bytesOf_str {l : List Int} (hb : ∀ x ∈ l, 0 ≤ x ∧ x < 256) : bytesOf (strOfNums l) = l := by
  unfold bytesOf strOfNums
  simp only [List.map_map]
  conv => rhs; rw [← List.map_id l]
  refine List.map_congr_left fun x hx => ?_
  have := hb x hx
  simp
  omega
theorem lit_C (W : World) (e : TypeId) (l : List Int) (m : Nat × Nat) (hl : l.length ≤ 9223372036854775807) : Kd.C (Kd.int .u8) (W.alloc (.cells (encs (Value.int .u8) l).toArray e m)) (some ⟨W.heap.size, 0, none⟩) l.length l := by
  refine Kd.C_of_reads (d := (0 : Int)) ⟨rfl, hl, fun h => ⟨⟨W.heap.size, 0, none⟩, rfl, fun j hj => ?_⟩⟩
  rw [add_plain, World.cell?_alloc_mark]
  have := encs_get (enc := Value.int .u8) (d := (0 : Int)) l j hj
  simpa using this
theorem sum_ex : crc [49, 50, 51, 52, 53, 54, 55, 56, 57] = 3421780262 := by decide +kernel
theorem put_ex : num_Put.f 6 258 2 = some [2, 1] := by decide +kernel
theorem take_ex : num_Take.f 6 [2, 1] 0 2 = some (258, 2, 0) := by decide +kernel
theorem seal_bytes {l : List Int} (hl : l.length ≤ 36) (hb : ∀ x ∈ l, 0 ≤ x ∧ x < 256) : bytesOf (strOfNums (pad l ++ le (crc (pad l)) 4)) = pad l ++ le (crc (pad l)) 4 := by
  refine bytesOf_str fun x hx => ?_
  rcases List.mem_append.1 hx with hx | hx
  · simp only [pad, List.mem_append, List.mem_replicate] at hx
    rcases hx with hx | ⟨_, rfl⟩
    · exact hb x hx
    · omega
  · have : x ∈ le4 (crc (pad l)) := List.mem_of_mem_take hx
    simp only [le4, List.mem_cons, List.not_mem_nil, or_false] at this
    rcases this with rfl | rfl | rfl | rfl <;> omega
theorem lev_le (l : List Int) (n : Int) (h0 : 0 ≤ n) (h1 : n < 4294967296) (hl : l.length = 36) : lev (l ++ le n 4) 36 4 = n := by
  have hr : ∀ j : Nat, j < 4 → rd (l ++ le n 4) (36 + (j : Int)) = (le4 n).getD j 0 := by
    intro j hj
    unfold rd
    rw [show (36 + (j : Int)).toNat = 36 + j by omega, List.getD_eq_getElem?_getD, List.getElem?_append_right (by omega), hl, List.getD_eq_getElem?_getD]
    simp [le, le4]
  have e0 := hr 0 (by omega)
  have e1 := hr 1 (by omega)
  have e2 := hr 2 (by omega)
  have e3 := hr 3 (by omega)
  simp [le4] at e0 e1 e2 e3
  simp only [lev]
  rw [e0, show (36 : Int) + 1 = 37 from rfl, show (36 : Int) + 2 = 38 from rfl, show (36 : Int) + 3 = 39 from rfl, e1, e2, e3]
  simp
  omega
theorem open_seal {l : List Int} (hl : l.length ≤ 36) (hb : ∀ x ∈ l, 0 ≤ x ∧ x < 256) : num_Open.f (strOfNums (pad l ++ le (crc (pad l)) 4)) = some (pad l, 0) := by
  have hp : (pad l).length = 36 := by simp [pad]; omega
  have ht : (pad l ++ le (crc (pad l)) 4).take 36 = pad l := by rw [List.take_append_of_le_length (by omega), List.take_of_length_le (by omega)]
  have hs : isSealed (pad l ++ le (crc (pad l)) 4) = true := by
    unfold isSealed
    rw [ht, lev_le _ _ (crc_bd _).1 (crc_bd _).2 hp]
    simp [hp]
    rfl
  unfold num_Open.f
  rw [seal_bytes hl hb, hs, ht]
  rfl
def assartlaw01_shown.f : Option Bool := some true
set_option maxHeartbeats 8000000 in
set_option maxRecDepth 100000 in
theorem assartlaw01_shown.calls (r : Bool) (w : World) (h : assartlaw01_shown.f = some r) :
    Calls Try.prog 10 #[] w fun e w' => e = .returned (.bool r) ∧ Below w.heap.size w w' := by
  injection h with h
  subst h
  go_enter Try.func10, Try.ntmps10
  go_wp2_with fail
  refine (num_Put.calls 6 258 2 _ _ put_ex).mono ?_
  rintro e w1 ⟨v1, rfl, hR1, hb1⟩
  obtain ⟨A1, c1, rfl, hc1, hC1⟩ := Kd.R_reads hR1
  have HB1 := Aside0.mk hb1
  have HC1 := Aside0.mk hC1
  clear hR1 hb1 hC1
  obtain ⟨ad, hA, hx⟩ := Kd.at_int HC1.out 0 (by omega) (by simp)
  cases hA
  have htk := num_Take.calls 6 (some ad) c1 [2, 1] 0 2 _ _ _ w1 HC1.out hc1 take_ex
  go_wp2_with fail
  refine htk.mono ?_
  rintro e w2 ⟨rfl, ⟨nd, rfl⟩⟩
  clear htk
  have kc := Joins.run_convert_bytes_const_at (P := Try.prog) (w1.drewN nd) 22 5 #[.int .u8 97, .int .u8 98] 2 2 w1.heap.size rfl Try.underlying22 Try.underlying5
  have HL := Aside0.mk (lit_C (w1.drewN nd) 5 [97, 98] (2, 3) (by simp))
  go_wp2_with fail
  clear kc
  have hsl := num_Seal.calls (some ⟨w1.heap.size, 0, none⟩) 2 [97, 98] _ _ _ HL.out (by simp) (show num_Seal.f [97, 98] = some (strOfNums (pad [97, 98] ++ le (crc (pad [97, 98])) 4), 0) from rfl)
  obtain ⟨S, hS⟩ : ∃ S, strOfNums (pad [97, 98] ++ le (crc (pad [97, 98])) 4) = S := ⟨_, rfl⟩
  rw [hS] at hsl
  have hop : num_Open.f S = some (pad [97, 98], 0) := by rw [← hS]; exact open_seal (by simp) (by simp)
  have hS40 : S.size = 40 := by rw [← hS]; rfl
  clear hS
  refine hsl.mono ?_
  rintro e w3 ⟨rfl, hb3⟩
  have HB3 := Aside0.mk hb3
  have HOP := Aside0.mk hop
  have HS40 := Aside0.mk hS40
  clear hsl hb3 hop hS40
  have HB3' : Aside0 (Below w1.heap.size w1 w3) := ⟨((pw_below_drewN (Below.refl _ _) nd).alloc (Nat.le_refl _) _).trans (HB3.out.mono (by simp))⟩
  have HX3 : Aside0 (w3.cell? (ad.add 0) = some (.int .u8 2)) := ⟨pw_cell_below HB3'.out hx⟩
  have HBw : Aside0 (Below w.heap.size w w3) := ⟨HB1.out.trans (HB3'.out.mono HB1.out.size)⟩
  clear hx HL HC1 HB3 hc1
  go_wp2_with fail
  refine (num_Open.calls S _ _ w3 HOP.out).mono ?_
  rintro e w4 ⟨v4, rfl, hV4, hb4⟩
  obtain ⟨A4, c4, rfl, hc4, _⟩ := hV4
  have hx4 : w4.cell? (ad.add 0) = some (.int .u8 2) := pw_cell_below hb4 HX3.out
  have HB4 : Aside0 (Below w.heap.size w w4) := ⟨HBw.out.trans (hb4.mono HBw.out.size)⟩
  have hp36 : (pad [97, 98]).length = 36 := rfl
  rw [hp36] at hc4
  rw [hp36]
  clear hb4 HX3 HBw hp36
  have kc := Joins.run_convert_bytes_const_at (P := Try.prog) w4 22 5 #[.int .u8 49, .int .u8 50, .int .u8 51, .int .u8 52, .int .u8 53, .int .u8 54, .int .u8 55, .int .u8 56, .int .u8 57] 9 9 w4.heap.size rfl Try.underlying22 Try.underlying5
  have HL := Aside0.mk (lit_C w4 5 [49, 50, 51, 52, 53, 54, 55, 56, 57] (9, 10) (by simp))
  go_wp2_with fail
  clear kc
  have hsm := num_Sum.calls (some ⟨w4.heap.size, 0, none⟩) 9 [49, 50, 51, 52, 53, 54, 55, 56, 57] 3421780262 _ HL.out (by simp) (by unfold num_Sum.f; rw [if_pos (by simp)]; exact congrArg some sum_ex)
  refine hsm.mono ?_
  rintro e w5 ⟨rfl, ⟨nd2, rfl⟩⟩
  clear hsm
  have hS40 := HS40.out
  have hs2 : ((S.size : Int) == 40) = true := by rw [hS40]; rfl
  have hx5 : (w4.alloc (.cells (encs (Value.int .u8) [49, 50, 51, 52, 53, 54, 55, 56, 57]).toArray 5 (9, 10))).cell? ad = some (.int .u8 2) := by
    have := pw_cell_below ((Below.refl w4.heap.size w4).alloc (Nat.le_refl _) (.cells (encs (Value.int .u8) [49, 50, 51, 52, 53, 54, 55, 56, 57]).toArray 5 (9, 10))) hx4
    have ha : ad.add 0 = ad := by unfold Addr.add; split <;> simp_all
    rw [ha] at this
    exact this
  clear hS40 hx4
  go_wp2
  go_ret
  exact ⟨rfl, pw_below_drewN (HB4.out.alloc HB4.out.size _) _⟩
end Go.Proofs.Ytiklkokjoemokaa.P
