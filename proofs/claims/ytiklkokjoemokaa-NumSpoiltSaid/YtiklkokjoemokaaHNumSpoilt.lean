import Derived.Test.YtiklkokjoemokaaHNumBack
import Derived.Outline
namespace Go.Proofs.Ytiklkokjoemokaa.P
open Go.RowKit Go.Proofs.YtiklkokjoemokaaW.PrintWords Go.Proofs.YtiklkokjoemokaaW.PrintLast Go.Proofs.YtiklkokjoemokaaW.PrintMore
set_option linter.unusedVariables false
set_option linter.unusedSimpArgs false
/-- A bit of a row turned. -/
def flip (l : List Int) (k : Nat) : List Int := l.set (k / 8) (Go.bits .xor .u8 (rd l ((k / 8 : Nat) : Int)) (2 ^ (k % 8)))
/-- The row behind i bits. -/
def spoil (f t : Nat) (l : List Int) : Nat → List Int
  | 0 => l
  | i + 1 => if t / 2 ^ i % 2 = 1 then flip (spoil f t l i) (f + i) else spoil f t l i
theorem spoil_len (f t : Nat) (l : List Int) : ∀ i, (spoil f t l i).length = l.length
  | 0 => rfl
  | i + 1 => by
    unfold spoil
    split
    · simp [flip, spoil_len f t l i]
    · exact spoil_len f t l i
/-- Block g holds this row of bytes first; none of its places is frozen. -/
def RowAt (w : World) (g : Nat) (l : List Int) : Prop := ∃ X m m', w.heap[g]? = some (.cells (encs (Value.int .u8) l ++ X).toArray 5 (m, m')) ∧ l.length ≤ m
theorem RowAt.cell {w : World} {g : Nat} {l : List Int} (h : RowAt w g l) (j : Nat) (hj : j < l.length) : w.cell? ⟨g, j, none⟩ = some (.int .u8 (rd l j)) := by
  obtain ⟨X, m, m', hg, hm⟩ := h
  have he := encs_get (enc := Value.int .u8) (d := (0 : Int)) l j hj
  have hl : j < (encs (Value.int .u8) l).length := by simpa [encs] using hj
  simp [World.cell?, hg, List.getElem?_append_left hl, he, rd]
theorem RowAt.free {w : World} {g : Nat} {l : List Int} (h : RowAt w g l) (j : Nat) (hj : j < l.length) : w.frozen? ⟨g, j, none⟩ = false := by
  obtain ⟨X, m, m', hg, hm⟩ := h
  simp [World.frozen?, hg]
  omega
theorem RowAt.set {w : World} {g : Nat} {l : List Int} (h : RowAt w g l) (j : Nat) (x : Int) (hj : j < l.length) : RowAt (w.setCell ⟨g, j, none⟩ (.int .u8 x)) g (l.set j x) := by
  obtain ⟨X, m, m', hg, hm⟩ := h
  refine ⟨X, m, m', ?_, by simpa using hm⟩
  have hl : j < (encs (Value.int .u8) l).length := by simpa [encs] using hj
  simp only [World.setCell, Array.getElem?_modify, if_true, hg]
  have e : (encs (Value.int .u8) l ++ X).set j (.int .u8 x) = encs (Value.int .u8) (l.set j x) ++ X := by
    rw [List.set_append_left _ _ hl]
    simp [encs, List.map_set]
  simp [List.setIfInBounds_toArray, e]
theorem RowAt.C {w : World} {g : Nat} {l : List Int} (h : RowAt w g l) (hl : l.length ≤ 9223372036854775807) : Kd.C (Kd.int .u8) w (some ⟨g, 0, none⟩) l.length l := by
  refine Kd.C_of_reads (d := (0 : Int)) ⟨rfl, hl, fun _ => ⟨⟨g, 0, none⟩, rfl, fun j hj => ?_⟩⟩
  rw [add_plain, h.cell j hj]
  simp [rd]
theorem rowAt_bytes (W : World) (s : ByteArray) : RowAt (Lib.bytesWorld W 5 s) W.heap.size (bytesOf s) := by
  refine ⟨List.replicate (grownCap W s.size 0 5 - s.size) (.int .u8 0), (Lib.bytesCells W 5 s).size, (Lib.bytesCells W 5 s).size + 1, ?_, ?_⟩
  · rw [Lib.bytesWorld_at_new]
    congr 2
    simp [Lib.bytesCells, encs, bytesOf, Function.comp_def]
  · have := grownCap_ge W s.size 0 5
    simp [Lib.bytesCells, bytesOf_length]
theorem size_of_str (l : List Int) : (strOfNums l).size = l.length := by simp [strOfNums, ByteArray.size]
set_option maxHeartbeats 8000000 in
set_option maxRecDepth 100000 in
theorem NumSpoilt_walk (A0 : Option Addr) (c0 : Nat) (l0 : List Int) (a t : Nat) (w : World) (hr0 : Kd.C (Kd.int .u8) w A0 l0.length l0) (hc0 : l0.length ≤ c0) (hl : l0.length ≤ 36) (ha : a < 65536) (ht : t < 4294967296) (ht0 : t ≠ 0) (hby : ∀ x ∈ l0, 0 ≤ x ∧ x < 256)
    (S : ByteArray) (hS : strOfNums (pad l0 ++ le (crc (pad l0)) 4) = S) (hop : num_Open.f (strOfNums (spoil (a % 289) t (bytesOf S) 32)) = some ([], 2)) :
    Calls Try.prog 6 #[.slice A0 l0.length c0, .int .u16 a, .int .u32 t] w fun e w' => e = .returned (.bool true) ∧ Below w.heap.size w w' := by
  have HR0 := Aside0.mk hr0
  have HC0 := Aside0.mk hc0
  have HOP := Aside0.mk hop
  have hS40 : S.size = 40 := by rw [← hS]; exact seal_size hl
  have HS40 := Aside0.mk hS40
  have hsl := fun W hr => num_Seal.calls A0 c0 l0 S 0 W hr HC0.out (by unfold num_Seal.f; rw [if_neg (by omega), hS])
  have HSL := Aside0.mk hsl
  clear hr0 hc0 hop hS40 hS hsl hby
  have d0 : decide ((36 : Int) < l0.length) = false := by simp; omega
  have d1 : ((t : Int) == 0) = false := by simp; omega
  go_enter Try.func6, Try.ntmps6
  go_wp2_with fail
  refine (assartlaw01_shown.calls true _ rfl).mono ?_
  rintro e wa ⟨rfl, hb⟩
  have HBa := Aside0.mk hb
  clear hb
  go_wp2_with fail
  refine (HSL.out wa (Kd.C_below HR0.out HBa.out)).mono ?_
  rintro e wb ⟨rfl, hb⟩
  have HBb : Aside0 (Below w.heap.size w wb) := ⟨HBa.out.trans (hb.mono HBa.out.size)⟩
  have es40 : ((S.size : Int) != 40) = false := by rw [HS40.out]; rfl
  clear hb HBa
  have hm : S.size ≤ 9223372036854775807 := by rw [HS40.out]; omega
  have HRA := Aside0.mk (rowAt_bytes wb S)
  have HBc : Aside0 (Below w.heap.size w (Lib.bytesWorld wb 5 S)) := ⟨bytes_below 5 S HBb.out HBb.out.size⟩
  have HBg : Aside0 (w.heap.size ≤ wb.heap.size) := ⟨HBb.out.size⟩
  have kc := Lib.run_convert_string_bytes (P := Try.prog) wb 9 22 5 S Try.underlying9 Try.underlying22 Try.underlying5
  rw [HS40.out] at kc
  have hcap : 40 ≤ grownCap wb 40 0 5 := grownCap_ge _ _ _ _
  obtain ⟨cap, hcp⟩ : ∃ c, grownCap wb 40 0 5 = c := ⟨_, rfl⟩
  rw [hcp] at kc hcap
  obtain ⟨wc, hwc⟩ : ∃ W, Lib.bytesWorld wb 5 S = W := ⟨_, rfl⟩
  rw [hwc] at kc HRA HBc
  obtain ⟨g, hg⟩ : ∃ g, wb.heap.size = g := ⟨_, rfl⟩
  rw [hg] at kc HRA HBg
  clear hcp hwc hg HBb
  go_wp2
  clear kc es40
  obtain ⟨f, hf⟩ : ∃ f : Nat, a % 289 = f := ⟨_, rfl⟩
  have hf2 : (a : Int) % 289 = (f : Int) := by omega
  have hf3 : f ≤ 288 := by omega
  rw [hf2]
  rw [hf] at HOP
  clear hf hf2 ha ht0 hm
  go_loopw [2, 12] (fun v2 v12 wr => ∃ i : Nat, i ≤ 32 ∧ v12 = .int .i64 i ∧ (∃ u : Nat, v2 = .int .u32 u ∧ Aside0 (u = t / 2 ^ i) ∧ u < 4294967296) ∧ Aside0 (RowAt wr g (spoil f t (bytesOf S) i)) ∧ Aside0 (Below w.heap.size w wr)) (fun _ i _ => 32 - (intOf i).toNat)
  case atStart => exact ⟨0, by omega, rfl, ⟨t, rfl, ⟨by simp⟩, ht⟩, HRA, HBc⟩
  case round =>
    obtain ⟨i, hi, rfl, ⟨u, rfl, HU, hu⟩, HRi, HBi⟩ := hrel
    by_cases hlt : i < 32
    · have di : decide ((i : Int) < 32) = true := by simp; omega
      have HU2 : Aside0 (u / 2 = t / 2 ^ (i + 1)) := ⟨by rw [HU.out, Nat.div_div_eq_div_mul, Nat.pow_succ]⟩
      by_cases hodd : u % 2 = 1
      · have do1 : (((u : Int) % 2) == 1) = true := by rw [beq_iff_eq]; omega
        have HRn : Aside0 (spoil f t (bytesOf S) (i + 1) = flip (spoil f t (bytesOf S) i) (f + i)) := ⟨by rw [spoil, ← HU.out, if_pos hodd]⟩
        have hk : (((f : Int) + i) % 8) = (((f + i) % 8 : Nat) : Int) := by omega
        obtain ⟨K, hK⟩ : ∃ K, (f + i) % 8 = K := ⟨_, rfl⟩
        have hK8 : K ≤ 7 := by omega
        obtain ⟨wo, rfl⟩ : ∃ wo : World, wo = wr := ⟨_, rfl⟩
        clear hodd
        go_wp2
        go_loopw [14, 15] (fun b n wi => ∃ (j : Nat) (y : Int), j ≤ K ∧ n = .int .i64 j ∧ b = .int .u8 y ∧ Aside0 (y = 2 ^ j) ∧ 0 ≤ y ∧ y ≤ 128 ∧ wi = wo) (fun _ n _ => K - (intOf n).toNat)
        case atStart => exact ⟨0, 1, by omega, rfl, rfl, ⟨rfl⟩, by omega, by omega, rfl⟩
        case round =>
          obtain ⟨j, y, hj, rfl, rfl, HY, hy0, hy1, rfl⟩ := hrel
          by_cases hjk : j < K
          · have dj : decide ((j : Int) < ((f : Int) + i) % 8) = true := by simp; omega
            have hy2 : y ≤ 64 := by
              rw [HY.out]
              have h6 : (2:Nat) ^ j ≤ 2 ^ 6 := Nat.pow_le_pow_right (by omega) (by omega)
              have h7 : ((2:Nat) ^ j : Int) ≤ ((2 ^ 6 : Nat) : Int) := by exact_mod_cast h6
              simpa using h7
            have HY1 : Aside0 (2 * y = 2 ^ (j + 1)) := ⟨by rw [HY.out, Int.pow_succ]; omega⟩
            have hym : y * 2 % 256 = 2 * y := by omega
            clear HY
            go_wp2
            refine ⟨⟨j + 1, 2 * y, by omega, ?_, ?_, HY1, by omega, by omega, trivial⟩, ?_⟩
            · simp
            · simp [hym]
              omega
            · simp [intOf]
              omega
          · have ejk : j = K := by omega
            have dj : decide ((j : Int) < ((f : Int) + i) % 8) = false := by simp; omega
            subst ejk
            have hlen : (f + i) / 8 < (spoil f t (bytesOf S) i).length := by rw [spoil_len, bytesOf_length, HS40.out]; omega
            have hcell := HRi.out.cell _ hlen
            have hfree := HRi.out.free _ hlen
            obtain ⟨v, hv⟩ : ∃ v, rd (spoil f t (bytesOf S) i) (((f + i) / 8 : Nat) : Int) = v := ⟨_, rfl⟩
            rw [hv] at hcell
            have HV := Aside0.mk hv
            have HLN := Aside0.mk hlen
            clear hv hlen
            go_wp2
            have hne : (bits BinOp.xor IntKind.u8 v y) = Go.bits .xor .u8 v y := rfl
            have HR2 : Aside0 (RowAt (wr.setCell { block := g, off := (f + i) / 8 } (Value.int IntKind.u8 (bits BinOp.xor IntKind.u8 v y))) g (spoil f t (bytesOf S) (i + 1))) := by
              refine ⟨?_⟩
              rw [HRn.out, flip, HV.out, hK, ← HY.out]
              exact HRi.out.set _ _ HLN.out
            refine ⟨⟨i + 1, by omega, ?_, ⟨u / 2, ?_, HU2, by omega⟩, HR2, ⟨HBi.out.setCell (p := ⟨g, (f + i) / 8, none⟩) HBg.out _⟩⟩, ?_⟩
            · simp
            · simp
            · simp [intOf]
              omega
      · have do1 : (((u : Int) % 2) == 1) = false := by rw [beq_eq_false_iff_ne]; omega
        have HRn : Aside0 (spoil f t (bytesOf S) (i + 1) = spoil f t (bytesOf S) i) := ⟨by rw [spoil, ← HU.out, if_neg hodd]⟩
        clear hodd
        go_wp2
        refine ⟨⟨i + 1, by omega, ?_, ⟨u / 2, ?_, HU2, by omega⟩, ⟨by rw [HRn.out]; exact HRi.out⟩, HBi⟩, ?_⟩
        · simp
        · simp
        · simp [intOf]
          omega
    · have ei : i = 32 := by omega
      subst ei
      have di : decide (((32 : Nat) : Int) < 32) = false := by simp
      obtain ⟨r, hrr⟩ : ∃ r, spoil f t (bytesOf S) 32 = r := ⟨_, rfl⟩
      rw [hrr] at HRi HOP
      have hrl : r.length = 40 := by rw [← hrr, spoil_len, bytesOf_length, HS40.out]
      have hC := HRi.out.C (by omega)
      rw [hrl] at hC
      have HC := Aside0.mk hC
      have hcv := Kd.C_string (P := Try.prog) (c := cap) Try.underlying22 Try.underlying5 Try.underlying9 hC
      clear hC hrr
      go_wp2_with fail
      refine (num_Open.calls _ _ _ wr HOP.out).mono ?_
      rintro e we ⟨v0, rfl, -, hbe⟩
      have HBe : Aside0 (Below w.heap.size w we) := ⟨HBi.out.trans (hbe.mono HBi.out.size)⟩
      clear hbe
      go_wp2
      go_ret
      exact ⟨rfl, HBe.out⟩
set_option maxHeartbeats 2000000 in
set_option maxRecDepth 100000 in
theorem NumSpoilt_early (A0 : Option Addr) (c0 : Nat) (l0 : List Int) (a t : Int) (w : World) (h : 36 < l0.length ∨ t = 0) :
    Calls Try.prog 6 #[.slice A0 l0.length c0, .int .u16 a, .int .u32 t] w fun e w' => e = .returned (.bool true) ∧ Below w.heap.size w w' := by
  by_cases hl : 36 < l0.length
  · have d0 : decide ((36 : Int) < l0.length) = true := by simp; omega
    go_enter Try.func6, Try.ntmps6
    go_wp2_with fail
    refine (assartlaw01_shown.calls true _ rfl).mono ?_
    rintro e wa ⟨rfl, hb⟩
    have HBa := Aside0.mk hb
    clear hb
    go_wp2
    go_ret
    exact ⟨rfl, HBa.out⟩
  · have d0 : decide ((36 : Int) < l0.length) = false := by simp; omega
    have ht : t = 0 := by omega
    subst ht
    clear h
    go_enter Try.func6, Try.ntmps6
    go_wp2_with fail
    refine (assartlaw01_shown.calls true _ rfl).mono ?_
    rintro e wa ⟨rfl, hb⟩
    have HBa := Aside0.mk hb
    clear hb
    go_wp2
    go_ret
    exact ⟨rfl, HBa.out⟩
/-- What is asked of the parts: the spoilt row is none. -/
def NumSpoilt_asks (l : List Int) (a t : Int) : Prop := (∀ x ∈ l, 0 ≤ x ∧ x < 256) ∧ 0 ≤ a ∧ a < 65536 ∧ 0 ≤ t ∧ t < 4294967296 ∧ num_Open.f (strOfNums (spoil (a.toNat % 289) t.toNat (bytesOf (strOfNums (pad l ++ le (crc (pad l)) 4))) 32)) = some ([], 2)
open Classical in
/-- What the law comes to. -/
noncomputable def assartlaw01_NumSpoilt.f (l : List Int) (a t : Int) : Option Bool :=
  if 36 < l.length ∨ t = 0 then some true else if NumSpoilt_asks l a t then some true else none
theorem assartlaw01_NumSpoilt.calls (A0 : Option Addr) (c0 : Nat) (l0 : List Int) (a t : Int) (r : Bool) (w : World) (hr0 : Kd.C (Kd.int .u8) w A0 l0.length l0) (hc0 : l0.length ≤ c0) (h : assartlaw01_NumSpoilt.f l0 a t = some r) :
    Calls Try.prog 6 #[.slice A0 l0.length c0, .int .u16 a, .int .u32 t] w fun e w' => e = .returned (.bool r) ∧ Below w.heap.size w w' := by
  unfold assartlaw01_NumSpoilt.f at h
  by_cases hl : 36 < l0.length ∨ t = 0
  · rw [if_pos hl] at h
    injection h with h
    subst h
    exact NumSpoilt_early A0 c0 l0 a t w hl
  · rw [if_neg hl] at h
    by_cases he : NumSpoilt_asks l0 a t
    · rw [if_pos he] at h
      injection h with h
      subst h
      obtain ⟨hby, h1, h2, h3, h4, h5⟩ := he
      obtain ⟨a, rfl⟩ := Int.eq_ofNat_of_zero_le h1
      obtain ⟨t, rfl⟩ := Int.eq_ofNat_of_zero_le h3
      exact NumSpoilt_walk A0 c0 l0 a t w hr0 hc0 (by omega) (by omega) (by omega) (by omega) hby _ rfl h5
    · rw [if_neg he] at h
      cases h
end Go.Proofs.Ytiklkokjoemokaa.P
