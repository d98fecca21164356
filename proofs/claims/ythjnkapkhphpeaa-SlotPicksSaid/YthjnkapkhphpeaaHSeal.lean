import Derived.Test.YthjnkapkhphpeaaHSum
import Derived.Test.YthjnkapkhphpeaaF43
import Derived.Test.YthjnkapkhphpeaaPNum
import Derived.Laws.CopyOwn
namespace Go.Proofs.Ythjnkapkhphpeaa.P
open Go.RowKit Go.Proofs.YthjnkapkhphpeaaW.PrintWords Go.Proofs.YthjnkapkhphpeaaW.PrintLast Go.Proofs.YthjnkapkhphpeaaW.PrintMore
set_option linter.unusedVariables false
set_option linter.unusedSimpArgs false
def crc (l : List Int) : Int := wrap64 (Go.bits .xor .u32 IntKind.u32.max (regI l))
def pad (l : List Int) : List Int := l ++ List.replicate (36 - l.length) 0
def zs40 : List Value := List.replicate 40 (.int .u8 0)
theorem splice_pad (l0 : List Int) (h : l0.length ≤ 36) : (splice zs40 0 (encs (Value.int .u8) l0)).take 36 = encs (Value.int .u8) (pad l0) := by
  simp only [splice, List.take_zero, List.nil_append, Nat.zero_add, zs40, encs, pad, List.length_map, List.drop_replicate, List.map_append, List.map_replicate]
  rw [List.take_append, List.length_map, List.take_of_length_le (by simpa using h), List.take_replicate]
  congr 2
  omega
theorem crc_bd (l : List Int) : 0 ≤ crc l ∧ crc l < 4294967296 := by
  unfold crc
  have := xor_bd IntKind.u32.max (regI l)
  rw [w64 (by omega) (by omega)]
  exact this
def num_Seal.f (l0 : List Int) : Option (ByteArray × Int) := if 36 < l0.length then some (⟨#[]⟩, 1) else some (strOfNums (pad l0 ++ le (crc (pad l0)) 4), 0)
set_option maxHeartbeats 4000000 in
set_option maxRecDepth 100000 in
theorem num_Seal.calls (A0 : Option Addr) (c0 : Nat) (l0 : List Int) (r1 : ByteArray) (r2 : Int) (w : World) (hr0 : Kd.C (Kd.int .u8) w A0 l0.length l0) (hc0 : l0.length ≤ c0) (h : num_Seal.f l0 = some (r1, r2)) :
    Calls Try.prog 44 #[.slice A0 l0.length c0] w fun e w' => e = .returned (.tuple #[.string r1, .int .i64 r2]) ∧ Below w.heap.size w w' := by
  have HR0 := Aside0.mk hr0
  have HC0 := Aside0.mk hc0
  have HH := Aside0.mk h
  clear hr0 hc0 h
  by_cases hl : 36 < l0.length
  · go_enter Try.func44, Try.ntmps44
    go_wp2
    go_ret2
    have H := HH.out
    simp [num_Seal.f, hl] at H
    obtain ⟨rfl, rfl⟩ := H
    exact ⟨rfl, Below.refl _ _⟩
  · have hmk : ∀ w, (Instr.makeSlice 24 (.int .i64 36) (.int .i64 40)).run Try.prog w = .ok (.slice (some ⟨w.heap.size, 0, none⟩) 36 40) (w.alloc (.cells zs40.toArray 5)) := fun _ => by kernel_rfl
    have hlz : zs40.length = 40 := rfl
    go_enter Try.func44, Try.ntmps44
    go_wp2_with (with_reducible refine wpList_copy_splice rfl (.tmp 9) (.tmp 10) 24 24 rfl 5 Try.underlying24 (by kernel_rfl) _ _ 36 40 l0.length c0 rfl rfl w.heap.size 0 zs40 5 ?c1 (encs (Value.int .u8) l0) ?c2 ?c3 ?c4 ?c5 w.heap.size w ?c6 (Nat.le_refl _) ?_)
    case c1 =>
      show (w.heap.push (.cells zs40.toArray 5))[w.heap.size]? = _
      simp
    case c2 =>
      show _ = min l0.length 36
      simp [encs]
      omega
    case c3 =>
      intro hp
      have hp2 : 0 < l0.length := by simpa [encs] using hp
      have hp' : (0 : Int) < l0.length := by omega
      obtain ⟨ad, hA, _⟩ := Kd.at_int HR0.out 0 (by omega) hp'
      refine ⟨ad, hA, fun j v hv => ?_⟩
      have hj : j < l0.length := by have := (List.getElem?_eq_some_iff.1 hv).1; simpa [encs] using this
      obtain ⟨ad', hA', hc⟩ := Kd.at_int HR0.out j (by omega) (by omega)
      rw [hA] at hA'
      injection hA' with hA'
      subst hA'
      rw [Int.toNat_natCast] at hc
      have he := encs_get (enc := Value.int .u8) (d := (0 : Int)) l0 j hj
      rw [he] at hv
      injection hv with hv
      rw [← hv]
      have hlt := World.block_lt_of_cell? w _ hc
      rw [World.cell?_alloc_lt _ _ _ hlt, hc]
      simp [rd]
    case c4 => rw [hlz]; simp [encs]; omega
    case c5 => intro v hv; simp [encs] at hv; obtain ⟨a, _, rfl⟩ := hv; rfl
    case c6 => exact (Below.refl _ _).alloc (Nat.le_refl _) _
    intro w1 hg1 hb1
    have HB1 := Aside0.mk hb1
    have HO : Aside0 (Kd.R (Kd.int .u8) 5 w1 w.heap.size (fun _ => True) (.slice (some ⟨w.heap.size, 0, none⟩) 36 40) (pad l0)) := by
      refine ⟨?_⟩
      have hp : (pad l0).length = 36 := by simp [pad]; omega
      refine Kd.R_of_own ?_ (fun _ _ => trivial)
      rw [hp]
      refine ⟨by simp [encs, hp], .inr ⟨w.heap.size, 40, _, rfl, Nat.le_refl _, hg1.out, by omega, by simp [maxLen], ?_, ?_⟩⟩
      · simp [length_splice, splice, zs40, encs]; omega
      · rw [Nat.mul_one]
        exact splice_pad l0 (by omega)
    clear hg1 hb1
    have hpl : (pad l0).length = 36 := by simp [pad]; omega
    obtain ⟨A1, c1, hv1, hc1, hC1⟩ := Kd.R_reads HO.out
    rw [hpl] at hv1 hC1 hc1
    injection hv1 with hA1 _ hcc1
    subst hA1; subst hcc1
    have hs := sum_walk (some ⟨w.heap.size, 0, none⟩) 40 (pad l0) w1 (by rw [hpl]; exact hC1) (by omega) (by omega)
    rw [hpl] at hs
    go_wp2_with fail
    refine hs.mono ?_
    rintro e w2 ⟨rfl, ⟨nd, rfl⟩⟩
    have hcb := crc_bd (pad l0)
    have hput := num_Put.calls 6 (crc (pad l0)) 4 _ (w1.drewN nd) (Put_val 0 _ 4 (by omega) (by omega) hcb.1 (by simpa using hcb.2))
    go_wp2_with fail
    refine hput.mono ?_
    rintro e w3 ⟨v3, rfl, hR3, hb3⟩
    obtain ⟨A3, c3, rfl, hc3, hC3⟩ := Kd.R_reads hR3
    have HR3 := Aside0.mk hR3
    have HB3 := Aside0.mk hb3
    have HC3 := Aside0.mk hC3
    have HO3 := Aside0.mk (Kd.R_below (Kd.R_drewN HO.out nd) hb3)
    clear hR3 hb3 hC3 hcb hput hs
    have hll : (le (crc (pad l0)) 4).length = 4 := rfl
    go_wp2_with (at_builtin; refine Kd.R_append_rows (Kd.int .u8) (w0 := w) w.heap.size rfl (.tmp 12) (.tmp 15) 24 5 (.int .u8 0) 1 rfl Try.underlying24 info5 rfl (by decide) (by omega) (.slice (some ⟨w.heap.size, 0, none⟩) 36 40) (pad l0) (le (crc (pad l0)) 4) A3 (le (crc (pad l0)) 4).length c3 (fun _ => True) (fun _ => False) rfl rfl ?aO ?aR (fun _ _ h => h) (fun _ h => h.elim) (fun _ _ => trivial) ?aB ?aS ?aL ?_)
    case aO => exact HO3.out
    case aR => exact HC3.out
    case aB => exact (HB1.out.trans (pw_below_drewN (Below.refl _ _) nd)).trans (HB3.out.mono HB1.out.size)
    case aS => exact Nat.le_trans HB1.out.size HB3.out.size
    case aL => rw [hpl, hll]; omega
    intro v4 w4 hR4 hB4 hg4 hv4
    obtain ⟨L, hL⟩ : ∃ L, pad l0 ++ le (crc (pad l0)) 4 = L := ⟨_, rfl⟩
    rw [hL] at hR4
    have HL := Aside0.mk hL
    clear hL
    obtain ⟨A4, c4, rfl, hc4, hC4⟩ := Kd.R_reads hR4
    have hcv := Kd.C_string (P := Try.prog) (A := A4) (c := c4) Try.underlying24 Try.underlying5 Try.underlying9 hC4
    have HB4 := Aside0.mk hB4
    clear hR4 hg4 hv4 hB4 hC4
    go_wp2
    go_ret2
    have H := HH.out
    simp only [num_Seal.f, if_neg hl, Option.some.injEq, Prod.mk.injEq] at H
    obtain ⟨rfl, rfl⟩ := H
    exact ⟨by rw [HL.out]; rfl, HB4.out⟩
end Go.Proofs.Ythjnkapkhphpeaa.P
