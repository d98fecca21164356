/- '[]byte(s)': the row that it lays, as a row that is read. -/
import Derived.Test.YthjnkapkhphpeaaP0
import Derived.Lib.ConvBytes
namespace Go.Proofs.Ythjnkapkhphpeaa.P
set_option linter.unusedVariables false
set_option linter.unusedSimpArgs false
open Go.RowKit Go.Proofs.YthjnkapkhphpeaaW.PrintWords Go.Proofs.YthjnkapkhphpeaaW.PrintLast Go.Proofs.YthjnkapkhphpeaaW.PrintMore
section
variable {P : Program} {ops : Array Oper} {rest : List Oper} {o : Oper} {a : Act} {Q : Exit → Act → World → Prop}
theorem bytes_below {base : Nat} {w0 W : World} (e : TypeId) (s : ByteArray) (HB : Below base w0 W) (hbase : base ≤ W.heap.size) : Below base w0 (Lib.bytesWorld W e s) :=
  HB.trans ⟨by simp [Lib.bytesWorld, World.freeze]; rfl, by simp [Lib.bytesWorld, World.freeze], by simp [Lib.bytesWorld, World.freeze]; rfl, by rw [Lib.bytesWorld_size]; omega, fun k hk => Lib.bytesWorld_at_old W e s k (by omega)⟩
theorem bytes_foot (W : World) (e : TypeId) (s : ByteArray) (hm : s.size ≤ 9223372036854775807) : Kd.F (Kd.int .u8) (Lib.bytesWorld W e s) (fun k => W.heap.size ≤ k) (some ⟨W.heap.size, 0, none⟩) (bytesOf s).length (bytesOf s) := by
  intro W' hW'
  have hb := hW' W.heap.size (Nat.le_refl _) (by rw [Lib.bytesWorld_size]; omega)
  refine Kd.C_of_reads (d := (0 : Int)) ?_
  refine ⟨rfl, by rw [bytesOf_length]; exact hm, fun h => ⟨⟨W.heap.size, 0, none⟩, rfl, fun j hj => ?_⟩⟩
  rw [bytesOf_length] at hj
  rw [add_plain]
  have h1 : W'.cell? ⟨W.heap.size, j, none⟩ = (Lib.bytesWorld W e s).cell? ⟨W.heap.size, j, none⟩ := World.cell?_of_block (a := ⟨W.heap.size, j, none⟩) hb
  rw [h1, Lib.bytesWorld_cell W e s j hj]
  have hj' : j < s.data.toList.length := by rw [data_length]; exact hj
  have hj2 : j < s.data.size := hj
  simp [bytesOf, List.getD_eq_getElem?_getD]
  rw [Array.getElem?_eq_getElem hj2]
  rfl
theorem V_conv {w0 W : World} (base : Nat) (hgd : o.guard = none) (src dst e : TypeId) (x : Operand) (ho : o.op = .convert src dst x) (s : ByteArray) (hx : a.eval x = .string s) {u : TypeDesc}
    (hs : P.underlying src = some u) (hd : P.underlying dst = some (.slice e)) (he : P.underlying e = some (.int .u8)) (hm : s.size ≤ 9223372036854775807) (HB : Below base w0 W) (hbase : base ≤ W.heap.size)
    (h : ∀ v1 w1, Kd.V (Kd.int .u8) e w1 base (fun k => W.heap.size ≤ k) v1 (bytesOf s) → Below base w0 w1 → W.grownBy w1 none → wpList P ops Q rest (a.put o.dst v1) w1) : wpList P ops Q (o :: rest) a W := by
  refine Go.Proofs.YthjnkapkhphpeaaW.PrintWords.Kd.event_run (w1 := Lib.bytesWorld W e s) (v := .slice (some ⟨W.heap.size, 0, none⟩) (bytesOf s).length (grownCap W s.size 0 e)) hgd ?_ (h _ _ ?_ (bytes_below e s HB hbase) ?_)
  · rw [bytesOf_length]
    simp [execOp, ho, hx, Lib.run_convert_string_bytes W src dst e s hs hd he]
  · exact Kd.V_mk (by rw [bytesOf_length]; exact grownCap_ge _ _ _ _) (bytes_foot W e s hm)
  · have := bytes_below (base := W.heap.size) e s (Below.refl _ W) (Nat.le_refl _)
    exact ⟨this.os, this.tape, this.output, this.size, fun k hk _ => this.block k hk⟩
end
end Go.Proofs.Ythjnkapkhphpeaa.P
