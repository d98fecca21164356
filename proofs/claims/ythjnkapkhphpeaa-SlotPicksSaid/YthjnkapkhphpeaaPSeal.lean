import Derived.Test.YthjnkapkhphpeaaHOpen
import Derived.Test.YthjnkapkhphpeaaPRef
import Derived.Lib.SmallJoins
namespace Go.Proofs.Ythjnkapkhphpeaa.P
open Go.RowKit Go.Proofs.YthjnkapkhphpeaaW.PrintWords Go.Proofs.YthjnkapkhphpeaaW.PrintLast Go.Proofs.YthjnkapkhphpeaaW.PrintMore
set_option linter.unusedVariables false
set_option linter.unusedSimpArgs false
theorem bytesOf_str {l : List Int} (hb : ∀ x ∈ l, 0 ≤ x ∧ x < 256) : bytesOf (strOfNums l) = l := by
  unfold bytesOf strOfNums
  simp only [List.map_map]
  conv => rhs; rw [← List.map_id l]
  refine List.map_congr_left fun x hx => ?_
  have := hb x hx
  simp
  omega
theorem lit_C (W : World) (e : TypeId) (l : List Int) (m : Nat × Nat) (hl : l.length ≤ 9223372036854775807) : Kd.C (Kd.int .u8) (W.alloc (.cells (encs (Value.int .u8) l).toArray e m)) (some ⟨W.heap.size, 0, none⟩) l.length l := by
  refine Kd.C_of_reads (d := (0 : Int)) ⟨rfl, hl, fun h => ⟨⟨W.heap.size, 0, none⟩, rfl, fun j hj => ?_⟩⟩
  rw [add_plain, World.cell?_alloc_mark]
  have := encs_get (enc := Value.int .u8) (d := (0 : Int)) l j hj
  simpa using this
theorem sum_ex : crc [49, 50, 51, 52, 53, 54, 55, 56, 57] = 3421780262 := by decide +kernel
theorem put_ex : num_Put.f 6 258 2 = some [2, 1] := by decide +kernel
theorem take_ex : num_Take.f 6 [2, 1] 0 2 = some (258, 2, 0) := by decide +kernel
theorem seal_bytes {l : List Int} (hl : l.length ≤ 36) (hb : ∀ x ∈ l, 0 ≤ x ∧ x < 256) : bytesOf (strOfNums (pad l ++ le (crc (pad l)) 4)) = pad l ++ le (crc (pad l)) 4 := by
  refine bytesOf_str fun x hx => ?_
  rcases List.mem_append.1 hx with hx | hx
  · simp only [pad, List.mem_append, List.mem_replicate] at hx
    rcases hx with hx | ⟨_, rfl⟩
    · exact hb x hx
    · omega
  · have : x ∈ le4 (crc (pad l)) := List.mem_of_mem_take hx
    simp only [le4, List.mem_cons, List.not_mem_nil, or_false] at this
    rcases this with rfl | rfl | rfl | rfl <;> omega
theorem lev_le (l : List Int) (n : Int) (h0 : 0 ≤ n) (h1 : n < 4294967296) (hl : l.length = 36) : lev (l ++ le n 4) 36 4 = n := by
  have hr : ∀ j : Nat, j < 4 → rd (l ++ le n 4) (36 + (j : Int)) = (le4 n).getD j 0 := by
    intro j hj
    unfold rd
    rw [show (36 + (j : Int)).toNat = 36 + j by omega, List.getD_eq_getElem?_getD, List.getElem?_append_right (by omega), hl, List.getD_eq_getElem?_getD]
    simp [le, le4]
  have e0 := hr 0 (by omega)
  have e1 := hr 1 (by omega)
  have e2 := hr 2 (by omega)
  have e3 := hr 3 (by omega)
  simp [le4] at e0 e1 e2 e3
  simp only [lev]
  rw [e0, show (36 : Int) + 1 = 37 from rfl, show (36 : Int) + 2 = 38 from rfl, show (36 : Int) + 3 = 39 from rfl, e1, e2, e3]
  simp
  omega
theorem open_seal {l : List Int} (hl : l.length ≤ 36) (hb : ∀ x ∈ l, 0 ≤ x ∧ x < 256) : num_Open.f (strOfNums (pad l ++ le (crc (pad l)) 4)) = some (pad l, 0) := by
  have hp : (pad l).length = 36 := by simp [pad]; omega
  have ht : (pad l ++ le (crc (pad l)) 4).take 36 = pad l := by rw [List.take_append_of_le_length (by omega), List.take_of_length_le (by omega)]
  have hs : isSealed (pad l ++ le (crc (pad l)) 4) = true := by
    unfold isSealed
    rw [ht, lev_le _ _ (crc_bd _).1 (crc_bd _).2 hp]
    simp [hp]
    rfl
  unfold num_Open.f
  rw [seal_bytes hl hb, hs, ht]
  rfl
theorem seal_size {l : List Int} (h : l.length ≤ 36) : (strOfNums (pad l ++ le (crc (pad l)) 4)).size = 40 := by
  have hp := pad_len h
  simp [strOfNums, ByteArray.size, hp, le, le4]
theorem pad_lo {l : List Int} {k : Nat} (h : k < l.length) : rd (pad l) (k : Int) = rd l k := by
  simp [rd, pad, List.getD_eq_getElem?_getD, List.getElem?_append_left h]
theorem pad_hi {l : List Int} {k : Nat} (h : ¬ k < l.length) : rd (pad l) (k : Int) = 0 := by
  simp only [rd, pad, Int.toNat_natCast, List.getD_eq_getElem?_getD]
  rw [List.getElem?_append_right (by omega)]
  cases h2 : (List.replicate (36 - l.length) (0 : Int))[k - l.length]? with
  | none => rfl
  | some x =>
    have := List.mem_of_getElem? h2
    simp at this
    simp [this.2]
theorem lev_back {b : List Int} (hb : ∀ x ∈ b, 0 ≤ x ∧ x < 256) (hl : b.length = 40) : le (lev b 36 4) 4 = b.drop 36 := by
  have r := lt_of_all hb
  have r0 := r 36
  have r1 := r 37
  have r2 := r 38
  have r3 := r 39
  have hd : b.drop 36 = [rd b 36, rd b 37, rd b 38, rd b 39] := by
    apply List.ext_getElem
    · simp [hl]
    · intro i h1 h2
      simp at h2
      rcases (show i = 0 ∨ i = 1 ∨ i = 2 ∨ i = 3 by omega) with rfl | rfl | rfl | rfl <;> simp [rd, hl]
  rw [hd]
  simp only [le, le4, lev]
  simp
  omega
theorem str_bytesOf (s : ByteArray) : strOfNums (bytesOf s) = s := by
  unfold strOfNums bytesOf
  simp only [List.map_map]
  have : (s.data.toList.map ((fun n : Int => UInt8.ofNat n.toNat) ∘ fun b => (b.toNat : Int))) = s.data.toList := by
    conv => rhs; rw [← List.map_id s.data.toList]
    exact List.map_congr_left fun x _ => by simp
  rw [this]
theorem seal_of_sealed {s : ByteArray} (h : isSealed (bytesOf s) = true) : num_Seal.f ((bytesOf s).take 36) = some (s, 0) := by
  unfold isSealed at h
  simp only [Bool.and_eq_true, decide_eq_true_eq] at h
  obtain ⟨hl, hc⟩ := h
  have ht : ((bytesOf s).take 36).length = 36 := by rw [List.length_take]; omega
  have hp : pad ((bytesOf s).take 36) = (bytesOf s).take 36 := by unfold pad; rw [ht]; simp
  unfold num_Seal.f
  rw [if_neg (by omega), hp, ← hc, lev_back (bytesOf_bd s) hl, List.take_append_drop, str_bytesOf]
end Go.Proofs.Ythjnkapkhphpeaa.P
