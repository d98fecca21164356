import Derived.Test.YthjnkapkhphpeaaHSeal
import Derived.Test.YthjnkapkhphpeaaHBytes
namespace Go.Proofs.Ythjnkapkhphpeaa.P
open Go.RowKit Go.Proofs.YthjnkapkhphpeaaW.PrintWords Go.Proofs.YthjnkapkhphpeaaW.PrintLast Go.Proofs.YthjnkapkhphpeaaW.PrintMore
set_option linter.unusedVariables false
set_option linter.unusedSimpArgs false
/-- Is it a sealed block? -/
def isSealed (b : List Int) : Bool := decide (b.length = 40) && decide (lev b 36 4 = crc (b.take 36))
def num_Open.f (a0 : ByteArray) : Option (List Int × Int) := if isSealed (bytesOf a0) = true then some ((bytesOf a0).take 36, 0) else some ([], 2)
theorem bytesOf_bd (s : ByteArray) : ∀ x ∈ bytesOf s, 0 ≤ x ∧ x < 256 := by
  intro x hx
  simp only [bytesOf, List.mem_map] at hx
  obtain ⟨b, _, rfl⟩ := hx
  have := b.toNat_lt
  omega
set_option maxHeartbeats 4000000 in
set_option maxRecDepth 100000 in
theorem num_Open.calls (a0 : ByteArray) (r1 : List Int) (r2 : Int) (w : World) (h : num_Open.f a0 = some (r1, r2)) :
    Calls Try.prog 47 #[.string a0] w fun e w' => ∃ v0_ : Value, e = .returned (.tuple #[v0_, .int .i64 r2]) ∧ Kd.V (Kd.int .u8) 5 w' w.heap.size (fun k_ => w.heap.size ≤ k_) v0_ r1 ∧ Below w.heap.size w w' := by
  have HH := Aside0.mk h
  clear h
  by_cases h40 : a0.size = 40
  · have hb : (bytesOf a0).length = 40 := by rw [bytesOf_length]; exact h40
    have h40b : ((a0.size : Int) != 40) = false := by rw [h40]; rfl
    go_enter Try.func47, Try.ntmps47
    go_wp2_with ((with_reducible refine gate_dst (N := 12) rfl ?_); refine V_conv (w0 := w) w.heap.size rfl 9 24 5 (.tmp 11) rfl a0 rfl Try.underlying9 Try.underlying24 Try.underlying5 (by omega) (Below.refl _ _) (Nat.le_refl _) ?_)
    intro v1 w1 hV hB hg
    clear hg
    obtain ⟨A1, c1, rfl, hc1, hF⟩ := hV
    have HF := Aside0.mk hF
    have HB := Aside0.mk hB
    clear hF hB
    rw [hb] at hc1
    have HC := Aside0.mk (Kd.F_now HF.out)
    have hbd := bytesOf_bd a0
    have htk := num_Take.calls 6 A1 c1 (bytesOf a0) 36 4 _ _ _ w1 HC.out (by omega) (Take_val 0 _ 36 4 (by omega) hbd (by omega) (by omega) (by omega) (by omega))
    obtain ⟨x, hx⟩ : ∃ x, lev (bytesOf a0) 36 4 = x := ⟨_, rfl⟩
    rw [hx] at htk
    have HX := Aside0.mk hx
    clear hx hbd
    rw [hb]
    rw [hb] at htk
    go_wp2_with fail
    refine htk.mono ?_
    rintro e w2 ⟨rfl, ⟨nd, rfl⟩⟩
    clear htk
    have hlt : ((bytesOf a0).take 36).length = 36 := by rw [List.length_take, hb]; rfl
    have hsm := sum_walk A1 c1 ((bytesOf a0).take 36) (w1.drewN nd) (Kd.C_drewN (Kd.C_take HC.out (by omega)) nd) (by omega) (by omega)
    rw [hlt] at hsm
    obtain ⟨y, hy⟩ : ∃ y, crc ((bytesOf a0).take 36) = y := ⟨_, rfl⟩
    have HY := Aside0.mk hy
    have hsm' : Calls Try.prog 52 #[.slice A1 36 c1] (w1.drewN nd) fun e w' => e = .returned (.int .i64 y) ∧ Drawn0 (w1.drewN nd) w' := by rw [← hy]; exact hsm
    clear hsm hy hlt hb
    go_wp2_with fail
    refine hsm'.mono ?_
    rintro e w2 ⟨rfl, ⟨nd2, rfl⟩⟩
    clear hsm'
    by_cases hxy : x = y
    · have hxb : (x != y) = false := by rw [hxy]; simp
      have HXY := Aside0.mk hxy
      clear hxy
      go_wp2
      have H := HH.out
      have hb : (bytesOf a0).length = 40 := by rw [bytesOf_length]; exact h40
      have hlt : ((bytesOf a0).take 36).length = 36 := by rw [List.length_take, hb]; rfl
      have hns : isSealed (bytesOf a0) = true := by simp [isSealed, HX.out, HY.out, HXY.out, hb]
      simp only [num_Open.f, hns, if_true, Option.some.injEq, Prod.mk.injEq] at H
      obtain ⟨rfl, rfl⟩ := H
      have hV : Kd.V (Kd.int .u8) 5 w1 w.heap.size (fun k_ => w.heap.size ≤ k_) (.slice A1 ((bytesOf a0).take 36).length 36) ((bytesOf a0).take 36) := Kd.V_mk (by omega) (Kd.F_take HF.out (by omega))
      rw [hlt] at hV
      go_ret2
      exact ⟨_, rfl, Kd.V_drewN hV _, pw_below_drewN HB.out _⟩
    · have hxb : (x != y) = true := by rw [bne_iff_ne]; exact hxy
      have HXY := Aside0.mk hxy
      clear hxy
      go_wp2
      have H := HH.out
      have hns : isSealed (bytesOf a0) = false := by simp [isSealed, HX.out, HY.out, HXY.out]
      simp only [num_Open.f, hns, Bool.false_eq_true, if_false, Option.some.injEq, Prod.mk.injEq] at H
      obtain ⟨rfl, rfl⟩ := H
      go_ret2
      exact ⟨_, rfl, Kd.V_nil _ _ _ _ _, pw_below_drewN HB.out _⟩
  · have h40b : ((a0.size : Int) != 40) = true := by rw [bne_iff_ne]; omega
    go_enter Try.func47, Try.ntmps47
    go_wp2
    have H := HH.out
    have hns : isSealed (bytesOf a0) = false := by simp [isSealed, bytesOf_length, h40]
    simp only [num_Open.f, hns, Bool.false_eq_true, if_false, Option.some.injEq, Prod.mk.injEq] at H
    obtain ⟨rfl, rfl⟩ := H
    go_ret2
    exact ⟨_, rfl, Kd.V_nil _ _ _ _ _, Below.refl _ _⟩
end Go.Proofs.Ythjnkapkhphpeaa.P
