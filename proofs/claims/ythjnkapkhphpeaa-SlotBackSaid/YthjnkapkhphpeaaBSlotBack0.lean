/- Texts of this claim's proof put together: P0, HSum, F60, F43, F49, PNum, HSeal, HBytes, HOpen, F51, F61, F45, F63, F53, F46, PRef, PSeal, HRight, HSPrint, F62, F48, HSParse. -/
import Derived.Test.YthjnkapkhphpeaaProg
import Derived.Below
import Derived.Deep.Draws
import Derived.Deep.AppendLies
import Derived.Maps.AppendAt
import Derived.OwnWalk
import Derived.Laws.BytesArg
import Derived.Laws.MakeOwn
import Derived.Laws.OwnMore
import Derived.Deep.OwnRows
import Derived.Tactics
import Derived.Lib.ConvBytes
import Derived.Laws.Slices
import Derived.WalkKit
import Derived.KernelRfl
import Derived.RowKit3
import Derived.Deep.LoopGhost
import Derived.Deep.QuietTactic
import Derived.BigQuiet
import Derived.WideLaws
import Derived.Deep.DeepCutAuto
import Derived.Deep.CutBlock
import Derived.Deep.RegionHeld3
import Derived.Laws.Rows
import Derived.Lib.AppendStr
import Derived.ArgAppend
import Derived.Laws.IdiomCopy
import Derived.OrdersHeld
import Derived.Laws.BitsLemmas
import Derived.RowKit
import Derived.Test.YthjnkapkhphpeaaWWords
import Derived.Test.YthjnkapkhphpeaaWLast
import Derived.Test.YthjnkapkhphpeaaWTab
import Derived.Test.YthjnkapkhphpeaaWFour
import Derived.Test.YthjnkapkhphpeaaWQPut
import Derived.Test.YthjnkapkhphpeaaWApart
import Derived.Test.YthjnkapkhphpeaaWArr
import Derived.Test.YthjnkapkhphpeaaWZeros
import Derived.Test.YthjnkapkhphpeaaWFoot
import Derived.Test.YthjnkapkhphpeaaWKept
import Derived.Test.YthjnkapkhphpeaaWShare
import Derived.Test.YthjnkapkhphpeaaWN
import Derived.Test.YthjnkapkhphpeaaWFootNe
import Derived.Test.YthjnkapkhphpeaaWAt
import Derived.Test.YthjnkapkhphpeaaWEqStruct
import Derived.Test.YthjnkapkhphpeaaWRepsOne
import Derived.Test.YthjnkapkhphpeaaWInv
import Derived.Test.YthjnkapkhphpeaaWInvWords
import Derived.Test.YthjnkapkhphpeaaWGuard
import Derived.Test.YthjnkapkhphpeaaWNEv
import Derived.Test.YthjnkapkhphpeaaWMore
import Derived.ScopeJumps
import Derived.Scope
import Derived.WalkMore
import Derived.Laws.CopyOwn
import Derived.Lib.SmallJoins
import Derived.Laws.Cover3
section
-- Written by a program of this session (xprint.py, over the kit's print). Not trusted: Lean checks it.
namespace Go.Proofs.Ythjnkapkhphpeaa.P
open Go.RowKit Go.Proofs.YthjnkapkhphpeaaW.PrintWords Go.Proofs.YthjnkapkhphpeaaW.PrintLast Go.Proofs.YthjnkapkhphpeaaW.PrintMore
attribute [local go_sem] max2_int min2_int max_two min_two max_three min_three max_four min_four   -- for this text's walks alone
set_option linter.unusedVariables false
set_option linter.unusedSimpArgs false



def errW : Option Int → Value
  | none => .nilIface
  | some c => .iface 0 (.int .i64 c)
theorem errW_none : errW none = .nilIface := rfl
theorem errW_some (c : Int) : errW (some c) = .iface 0 (.int .i64 c) := rfl

theorem info5 : (Try.prog.info? 5).map (fun i => (i.zero, i.size, i.bytes)) = some (some (.int .u8 0), 1, 1) := by kernel_rfl
-- the values' own types
/-! #### struct type 23 -/
structure S23 where
  f0 : Int
  f1 : Int
  f2 : Int
def z23 : S23 := ⟨(0 : Int), (0 : Int), (0 : Int)⟩
def k23 : Kd S23 := Kd.iso (Kd.pair (Kd.int .i64) (Kd.pair (Kd.int .i64) (Kd.int .i64))) (fun x : S23 => (x.f0, x.f1, x.f2))
theorem k23_open {w : World} {x : S23} {cs : List Value} (h : k23.K w x cs) : cs = [.int .i64 x.f0, .int .i64 x.f1, .int .i64 x.f2] := by
  obtain ⟨_, _, rfl, rfl, ⟨_, _, rfl, rfl, rfl⟩⟩ := h
  exact rfl
theorem k23_openM {w : World} {base : Nat} {ok : Nat → Prop} {x : S23} {cs : List Value} (h : k23.M w base ok x cs) : cs = [.int .i64 x.f0, .int .i64 x.f1, .int .i64 x.f2] := by
  obtain ⟨_, _, rfl, rfl, ⟨_, _, rfl, rfl, rfl⟩⟩ := h
  exact rfl
theorem k23_mk (w : World) (x : S23)  : k23.K w x [.int .i64 x.f0, .int .i64 x.f1, .int .i64 x.f2] := ⟨[.int .i64 x.f0], [.int .i64 x.f1, .int .i64 x.f2], rfl, rfl, ⟨[.int .i64 x.f1], [.int .i64 x.f2], rfl, rfl, rfl⟩⟩
theorem k23_mkM (w : World) (base : Nat) (ok : Nat → Prop) (x : S23)  : k23.M w base ok x [.int .i64 x.f0, .int .i64 x.f1, .int .i64 x.f2] := ⟨[.int .i64 x.f0], [.int .i64 x.f1, .int .i64 x.f2], rfl, rfl, ⟨[.int .i64 x.f1], [.int .i64 x.f2], rfl, rfl, rfl⟩⟩
theorem k23_mkF (W : World) (ok : Nat → Prop) (x : S23) : Kd.FK k23 W ok x [.int .i64 x.f0, .int .i64 x.f1, .int .i64 x.f2] := fun W2 _ => k23_mk W2 x
def rd_T23 (xs : List S23) (i : Int) : S23 := xs.getD i.toNat z23
theorem at_T23 {w : World} {A : Option Addr} {n : Nat} {xs : List S23} (h : Kd.C k23 w A n xs) (i : Int) (h0 : 0 ≤ i) (h1 : i < n) : ∃ ad , A = some ad ∧ w.cell? (ad.add (i.toNat * 3)) = some (.int .i64 (rd_T23 xs i).f0) ∧ w.cell? ⟨(ad.add (i.toNat * 3)).block, (ad.add (i.toNat * 3)).off + 1, none⟩ = some (.int .i64 (rd_T23 xs i).f1) ∧ w.cell? ⟨(ad.add (i.toNat * 3)).block, (ad.add (i.toNat * 3)).off + 2, none⟩ = some (.int .i64 (rd_T23 xs i).f2) := by
  obtain ⟨ad, c, e, _, hK, hc0⟩ := Kd.C_get h z23 i h0 h1
  have hc : ∀ j u, c[j]? = some u → w.cell? (ad.add (i.toNat * 3 + j)) = some u := hc0
  obtain rfl := k23_open hK
  exact ⟨ad, e, hc 0 _ rfl, by rw [← add_field _ _ 1 (by omega)]; exact hc 1 _ rfl, by rw [← add_field _ _ 2 (by omega)]; exact hc 2 _ rfl⟩

def rd_L4 (xs : List (List Int)) (i : Int) : (List Int) := xs.getD i.toNat ([] : List Int)
theorem at_L4 {w : World} {A : Option Addr} {n : Nat} {xs : List (List Int)} (h : Kd.C (Kd.slice 5 (Kd.int .u8)) w A n xs) (i : Int) (h0 : 0 ≤ i) (h1 : i < n) : ∃ ad A0 c0, A = some ad ∧ w.cell? (ad.add i.toNat) = some (.slice A0 (rd_L4 xs i).length c0) ∧ (rd_L4 xs i).length ≤ c0 ∧ (Kd.int .u8).C w A0 (rd_L4 xs i).length (rd_L4 xs i) := by
  obtain ⟨ad, c, e, _, hK, hc0⟩ := Kd.C_get h ([] : List Int) i h0 h1
  have hc : ∀ j u, c[j]? = some u → w.cell? (ad.add (i.toNat * 1 + j)) = some u := hc0
  obtain ⟨A0, c0, rfl, l0, g0⟩ := hK
  exact ⟨ad, A0, c0, e, by have hq := hc 0 _ rfl; rwa [Nat.mul_one, Nat.add_zero] at hq, l0, g0⟩

/-! #### struct type 26 -/
structure S26 where
  f0 : S23
  f1 : ByteArray
  f2 : ByteArray
  f3 : (List Int)
def z26 : S26 := ⟨z23, (⟨#[]⟩ : ByteArray), (⟨#[]⟩ : ByteArray), ([] : List Int)⟩
def k26 : Kd S26 := Kd.iso (Kd.pair k23 (Kd.pair Kd.string (Kd.pair Kd.string (Kd.slice 5 (Kd.int .u8))))) (fun x : S26 => (x.f0, x.f1, x.f2, x.f3))
theorem k26_open {w : World} {x : S26} {cs : List Value} (h : k26.K w x cs) : ∃ A5 c5, cs = [.int .i64 x.f0.f0, .int .i64 x.f0.f1, .int .i64 x.f0.f2, .string x.f1, .string x.f2, .slice A5 x.f3.length c5] ∧ x.f3.length ≤ c5 ∧ (Kd.int .u8).C w A5 x.f3.length x.f3 := by
  obtain ⟨_, _, rfl, s0, ⟨_, _, rfl, rfl, ⟨_, _, rfl, rfl, ⟨A5, c5, rfl, l5, g5⟩⟩⟩⟩ := h
  obtain rfl := k23_open s0
  exact ⟨A5, c5, rfl, l5, g5⟩
theorem k26_openM {w : World} {base : Nat} {ok : Nat → Prop} {x : S26} {cs : List Value} (h : k26.M w base ok x cs) : ∃ v5, cs = [.int .i64 x.f0.f0, .int .i64 x.f0.f1, .int .i64 x.f0.f2, .string x.f1, .string x.f2, v5] ∧ (Kd.int .u8).R 5 w base ok v5 x.f3 := by
  obtain ⟨_, _, rfl, s0, ⟨_, _, rfl, rfl, ⟨_, _, rfl, rfl, ⟨v5, rfl, g5⟩⟩⟩⟩ := h
  obtain rfl := k23_openM s0
  exact ⟨v5, rfl, g5⟩
theorem k26_mk (w : World) (x : S26) {A5 : Option Addr} {c5 : Nat} (l5 : x.f3.length ≤ c5) (g5 : (Kd.int .u8).C w A5 x.f3.length x.f3) : k26.K w x [.int .i64 x.f0.f0, .int .i64 x.f0.f1, .int .i64 x.f0.f2, .string x.f1, .string x.f2, .slice A5 x.f3.length c5] := ⟨[.int .i64 x.f0.f0, .int .i64 x.f0.f1, .int .i64 x.f0.f2], [.string x.f1, .string x.f2, .slice A5 x.f3.length c5], rfl, (k23_mk w x.f0 ), ⟨[.string x.f1], [.string x.f2, .slice A5 x.f3.length c5], rfl, rfl, ⟨[.string x.f2], [.slice A5 x.f3.length c5], rfl, rfl, ⟨A5, c5, rfl, l5, g5⟩⟩⟩⟩
theorem k26_mkM (w : World) (base : Nat) (ok : Nat → Prop) (x : S26) {v5 : Value} (g5 : (Kd.int .u8).R 5 w base ok v5 x.f3) : k26.M w base ok x [.int .i64 x.f0.f0, .int .i64 x.f0.f1, .int .i64 x.f0.f2, .string x.f1, .string x.f2, v5] := ⟨[.int .i64 x.f0.f0, .int .i64 x.f0.f1, .int .i64 x.f0.f2], [.string x.f1, .string x.f2, v5], rfl, (k23_mkM w base ok x.f0 ), ⟨[.string x.f1], [.string x.f2, v5], rfl, rfl, ⟨[.string x.f2], [v5], rfl, rfl, ⟨v5, rfl, g5⟩⟩⟩⟩
theorem k26_openF {W : World} {ok : Nat → Prop} {x : S26} {cs : List Value} (h : Kd.FK k26 W ok x cs) : ∃ A5 c5, cs = [.int .i64 x.f0.f0, .int .i64 x.f0.f1, .int .i64 x.f0.f2, .string x.f1, .string x.f2, .slice A5 x.f3.length c5] ∧ x.f3.length ≤ c5 ∧ Kd.F (Kd.int .u8) W ok A5 x.f3.length x.f3 := by
  obtain ⟨A5, c5, rfl, l5, _⟩ := k26_open (Kd.FK_now h)
  exact ⟨A5, c5, rfl, l5, (fun W' hW => by obtain ⟨A5_, c5_, he, l5_, g5_⟩ := k26_open (h W' hW); injection (Option.some.inj (show some (Value.slice A5 x.f3.length c5) = some (Value.slice A5_ x.f3.length c5_) from congrArg (fun l => l[5]?) he)) with ha_ _ _; rw [ha_]; exact g5_)⟩
theorem k26_mkF (W : World) (ok : Nat → Prop) (x : S26) {A5 : Option Addr} {c5 : Nat} (l5 : x.f3.length ≤ c5) (g5 : Kd.F (Kd.int .u8) W ok A5 x.f3.length x.f3) : Kd.FK k26 W ok x [.int .i64 x.f0.f0, .int .i64 x.f0.f1, .int .i64 x.f0.f2, .string x.f1, .string x.f2, .slice A5 x.f3.length c5] := fun W2 hW => k26_mk W2 x l5 (g5 W2 hW)
def rd_T26 (xs : List S26) (i : Int) : S26 := xs.getD i.toNat z26
theorem at_T26 {w : World} {A : Option Addr} {n : Nat} {xs : List S26} (h : Kd.C k26 w A n xs) (i : Int) (h0 : 0 ≤ i) (h1 : i < n) : ∃ ad A5 c5, A = some ad ∧ w.cell? (ad.add (i.toNat * 6)) = some (.int .i64 (rd_T26 xs i).f0.f0) ∧ w.cell? ⟨(ad.add (i.toNat * 6)).block, (ad.add (i.toNat * 6)).off + 1, none⟩ = some (.int .i64 (rd_T26 xs i).f0.f1) ∧ w.cell? ⟨(ad.add (i.toNat * 6)).block, (ad.add (i.toNat * 6)).off + 2, none⟩ = some (.int .i64 (rd_T26 xs i).f0.f2) ∧ w.cell? ⟨(ad.add (i.toNat * 6)).block, (ad.add (i.toNat * 6)).off + 3, none⟩ = some (.string (rd_T26 xs i).f1) ∧ w.cell? ⟨(ad.add (i.toNat * 6)).block, (ad.add (i.toNat * 6)).off + 4, none⟩ = some (.string (rd_T26 xs i).f2) ∧ w.cell? ⟨(ad.add (i.toNat * 6)).block, (ad.add (i.toNat * 6)).off + 5, none⟩ = some (.slice A5 (rd_T26 xs i).f3.length c5) ∧ (rd_T26 xs i).f3.length ≤ c5 ∧ (Kd.int .u8).C w A5 (rd_T26 xs i).f3.length (rd_T26 xs i).f3 := by
  obtain ⟨ad, c, e, _, hK, hc0⟩ := Kd.C_get h z26 i h0 h1
  have hc : ∀ j u, c[j]? = some u → w.cell? (ad.add (i.toNat * 6 + j)) = some u := hc0
  obtain ⟨A5, c5, rfl, l5, g5⟩ := k26_open hK
  exact ⟨ad, A5, c5, e, hc 0 _ rfl, by rw [← add_field _ _ 1 (by omega)]; exact hc 1 _ rfl, by rw [← add_field _ _ 2 (by omega)]; exact hc 2 _ rfl, by rw [← add_field _ _ 3 (by omega)]; exact hc 3 _ rfl, by rw [← add_field _ _ 4 (by omega)]; exact hc 4 _ rfl, by rw [← add_field _ _ 5 (by omega)]; exact hc 5 _ rfl, l5, g5⟩

/-! #### struct type 46 -/
structure S46 where
  f0 : S23
  f1 : ByteArray
  f2 : Int
  f3 : Int
def z46 : S46 := ⟨z23, (⟨#[]⟩ : ByteArray), (0 : Int), (0 : Int)⟩
def k46 : Kd S46 := Kd.iso (Kd.pair k23 (Kd.pair Kd.string (Kd.pair (Kd.int .u8) (Kd.int .u8)))) (fun x : S46 => (x.f0, x.f1, x.f2, x.f3))
theorem k46_open {w : World} {x : S46} {cs : List Value} (h : k46.K w x cs) : cs = [.int .i64 x.f0.f0, .int .i64 x.f0.f1, .int .i64 x.f0.f2, .string x.f1, .int .u8 x.f2, .int .u8 x.f3] := by
  obtain ⟨_, _, rfl, s0, ⟨_, _, rfl, rfl, ⟨_, _, rfl, rfl, rfl⟩⟩⟩ := h
  obtain rfl := k23_open s0
  exact rfl
theorem k46_openM {w : World} {base : Nat} {ok : Nat → Prop} {x : S46} {cs : List Value} (h : k46.M w base ok x cs) : cs = [.int .i64 x.f0.f0, .int .i64 x.f0.f1, .int .i64 x.f0.f2, .string x.f1, .int .u8 x.f2, .int .u8 x.f3] := by
  obtain ⟨_, _, rfl, s0, ⟨_, _, rfl, rfl, ⟨_, _, rfl, rfl, rfl⟩⟩⟩ := h
  obtain rfl := k23_openM s0
  exact rfl
theorem k46_mk (w : World) (x : S46)  : k46.K w x [.int .i64 x.f0.f0, .int .i64 x.f0.f1, .int .i64 x.f0.f2, .string x.f1, .int .u8 x.f2, .int .u8 x.f3] := ⟨[.int .i64 x.f0.f0, .int .i64 x.f0.f1, .int .i64 x.f0.f2], [.string x.f1, .int .u8 x.f2, .int .u8 x.f3], rfl, (k23_mk w x.f0 ), ⟨[.string x.f1], [.int .u8 x.f2, .int .u8 x.f3], rfl, rfl, ⟨[.int .u8 x.f2], [.int .u8 x.f3], rfl, rfl, rfl⟩⟩⟩
theorem k46_mkM (w : World) (base : Nat) (ok : Nat → Prop) (x : S46)  : k46.M w base ok x [.int .i64 x.f0.f0, .int .i64 x.f0.f1, .int .i64 x.f0.f2, .string x.f1, .int .u8 x.f2, .int .u8 x.f3] := ⟨[.int .i64 x.f0.f0, .int .i64 x.f0.f1, .int .i64 x.f0.f2], [.string x.f1, .int .u8 x.f2, .int .u8 x.f3], rfl, (k23_mkM w base ok x.f0 ), ⟨[.string x.f1], [.int .u8 x.f2, .int .u8 x.f3], rfl, rfl, ⟨[.int .u8 x.f2], [.int .u8 x.f3], rfl, rfl, rfl⟩⟩⟩
theorem k46_mkF (W : World) (ok : Nat → Prop) (x : S46) : Kd.FK k46 W ok x [.int .i64 x.f0.f0, .int .i64 x.f0.f1, .int .i64 x.f0.f2, .string x.f1, .int .u8 x.f2, .int .u8 x.f3] := fun W2 _ => k46_mk W2 x
def rd_T46 (xs : List S46) (i : Int) : S46 := xs.getD i.toNat z46
theorem at_T46 {w : World} {A : Option Addr} {n : Nat} {xs : List S46} (h : Kd.C k46 w A n xs) (i : Int) (h0 : 0 ≤ i) (h1 : i < n) : ∃ ad , A = some ad ∧ w.cell? (ad.add (i.toNat * 6)) = some (.int .i64 (rd_T46 xs i).f0.f0) ∧ w.cell? ⟨(ad.add (i.toNat * 6)).block, (ad.add (i.toNat * 6)).off + 1, none⟩ = some (.int .i64 (rd_T46 xs i).f0.f1) ∧ w.cell? ⟨(ad.add (i.toNat * 6)).block, (ad.add (i.toNat * 6)).off + 2, none⟩ = some (.int .i64 (rd_T46 xs i).f0.f2) ∧ w.cell? ⟨(ad.add (i.toNat * 6)).block, (ad.add (i.toNat * 6)).off + 3, none⟩ = some (.string (rd_T46 xs i).f1) ∧ w.cell? ⟨(ad.add (i.toNat * 6)).block, (ad.add (i.toNat * 6)).off + 4, none⟩ = some (.int .u8 (rd_T46 xs i).f2) ∧ w.cell? ⟨(ad.add (i.toNat * 6)).block, (ad.add (i.toNat * 6)).off + 5, none⟩ = some (.int .u8 (rd_T46 xs i).f3) := by
  obtain ⟨ad, c, e, _, hK, hc0⟩ := Kd.C_get h z46 i h0 h1
  have hc : ∀ j u, c[j]? = some u → w.cell? (ad.add (i.toNat * 6 + j)) = some u := hc0
  obtain rfl := k46_open hK
  exact ⟨ad, e, hc 0 _ rfl, by rw [← add_field _ _ 1 (by omega)]; exact hc 1 _ rfl, by rw [← add_field _ _ 2 (by omega)]; exact hc 2 _ rfl, by rw [← add_field _ _ 3 (by omega)]; exact hc 3 _ rfl, by rw [← add_field _ _ 4 (by omega)]; exact hc 4 _ rfl, by rw [← add_field _ _ 5 (by omega)]; exact hc 5 _ rfl⟩

end Go.Proofs.Ythjnkapkhphpeaa.P
end
section
/- num.Sum, walked: the loop over the bytes, and the goto over the bits. -/
namespace Go.Proofs.Ythjnkapkhphpeaa.P
set_option linter.unusedVariables false
set_option linter.unusedSimpArgs false
open Go.RowKit Go.Proofs.YthjnkapkhphpeaaW.PrintWords Go.Proofs.YthjnkapkhphpeaaW.PrintLast Go.Proofs.YthjnkapkhphpeaaW.PrintMore
/-- One step of the register, as Go tells it. -/
def st (n : Int) : Int := if (Go.bits .and .u32 n 1 == 1) = true then Go.bits .xor .u32 (n / 2) 3988292384 else n / 2
def stN : Nat → Int → Int
  | 0, n => n
  | k + 1, n => stN k (st n)
theorem xor_bd (a b : Int) : 0 ≤ Go.bits .xor .u32 a b ∧ Go.bits .xor .u32 a b < 4294967296 := by
  unfold Go.bits
  simp [IntKind.wrap, IntKind.bits, IntKind.signed]
  omega
theorem st_bd {n : Int} (h0 : 0 ≤ n) (h1 : n < 4294967296) : 0 ≤ st n ∧ st n < 4294967296 := by
  unfold st
  split
  · exact xor_bd _ _
  · omega
theorem stN_bd : ∀ k {n : Int}, 0 ≤ n → n < 4294967296 → 0 ≤ stN k n ∧ stN k n < 4294967296
  | 0, _, h0, h1 => ⟨h0, h1⟩
  | k + 1, _, h0, h1 => stN_bd k (st_bd h0 h1).1 (st_bd h0 h1).2
def byteI (n c : Int) : Int := stN 8 (Go.bits .xor .u32 n (c % 4294967296))
def regI (l : List Int) : Int := l.foldl byteI 4294967295
theorem byteI_bd (n c : Int) : 0 ≤ byteI n c ∧ byteI n c < 4294967296 := stN_bd 8 (xor_bd _ _).1 (xor_bd _ _).2
theorem regI_snoc (l : List Int) (k : Nat) (h : k < l.length) : regI (l.take (k + 1)) = byteI (regI (l.take k)) (rd l k) := by
  unfold regI
  rw [List.take_succ_eq_append_getElem h, List.foldl_append]
  simp only [List.foldl_cons, List.foldl_nil]
  congr 1
  simp [rd, h]
theorem step_yes {m : Nat} {z : Int} (h : (Go.bits .and .u32 z 1 == 1) = true) : stN m (Go.bits .xor .u32 (z / 2) 3988292384) = stN (m + 1) z := by
  rw [stN, st, if_pos h]
theorem step_no {m : Nat} {z : Int} (h : (Go.bits .and .u32 z 1 == 1) = false) : stN m (z / 2) = stN (m + 1) z := by
  rw [stN, st, if_neg (by rw [h]; decide)]
theorem half_bd {y : Int} (h0 : 0 ≤ y) (h1 : y < 4294967296) : 0 ≤ y / 2 ∧ y / 2 < 4294967296 := by omega
theorem regI_bd : ∀ l, 0 ≤ regI l ∧ regI l < 4294967296 := by
  intro l
  rcases List.eq_nil_or_concat l with rfl | ⟨l, x, rfl⟩
  · simp [regI]
  · simp only [List.concat_eq_append, regI, List.foldl_append, List.foldl_cons, List.foldl_nil]
    exact byteI_bd _ _
/-- The check sum, as Go tells it. -/
def num_Sum.f (l0 : List Int) : Option Int := if l0.length ≤ 140737488355328 then some (wrap64 (Go.bits .xor .u32 IntKind.u32.max (regI l0))) else none
set_option maxHeartbeats 4000000 in
set_option maxRecDepth 100000 in
theorem sum_walk (A0 : Option Addr) (c0 : Nat) (l0 : List Int) (w : World) (hr0 : Kd.C (Kd.int .u8) w A0 l0.length l0) (hc0 : l0.length ≤ c0) (hl : l0.length ≤ 140737488355328) :
    Calls Try.prog 52 #[.slice A0 l0.length c0] w fun e w' => e = .returned (.int .i64 (wrap64 (Go.bits .xor .u32 IntKind.u32.max (regI l0)))) ∧ Drawn0 w w' := by
  have HR0 := Aside0.mk hr0
  clear hr0
  go_enter Try.func52, Try.ntmps52
  go_wp2
  go_loopw [3, 9] (fun s i wr => ∃ k : Nat, k ≤ l0.length ∧ i = .int .i64 k ∧ wr = w ∧ ∃ x : Int, Aside0 (x = regI (l0.take k)) ∧ 0 ≤ x ∧ x < 4294967296 ∧ s = .int .u32 x) (fun _ i _ => l0.length - (intOf i).toNat)
  case atStart => exact ⟨0, Nat.zero_le _, rfl, rfl, 4294967295, ⟨rfl⟩, by omega, by omega, rfl⟩
  case round =>
    obtain ⟨k, hk, rfl, rfl, x, hx, hx0, hx1, rfl⟩ := hrel
    by_cases hlt : k < l0.length
    · have p1 : (0 : Int) ≤ k := by omega
      have q1 : (k : Int) < l0.length := by omega
      have HX : Aside0 (regI (l0.take (k + 1)) = stN 8 (Go.bits .xor .u32 x (rd l0 k % 4294967296))) := ⟨by rw [regI_snoc l0 k hlt, ← hx.out]; rfl⟩
      obtain ⟨ad, hA, hx⟩ := Kd.at_int HR0.out (k : Int) p1 q1
      cases hA
      rw [Int.toNat_natCast] at hx
      go_wp2
      refine wp_scope_jumps 0 (fun a' w' => w' = wr ∧ ∃ (m : Nat) (y : Int) (v13 v14 v15 v16 v17 v18 v19 v20 v21 v22 v23 v24 v25 v26 v27 v28 : Value), m ≤ 7 ∧ 1 ≤ m ∧ 0 ≤ y ∧ y < 4294967296 ∧ a' = { tmps := #[.slice (some ad) l0.length c0, undef, .int .i64 0, .int .u32 y, undef, .int .u8 (rd l0 ↑k), .int .i64 m, .slice (some ad) l0.length c0, .int .i64 ↑l0.length, .int .i64 ↑k, .bool true, .pointer (some (ad.add k)), .int .u8 (rd l0 ↑k), v13, v14, v15, v16, v17, v18, v19, v20, v21, v22, v23, v24, v25, v26, v27, v28, u29, undef, undef, undef], defers := [] } ∧ stN m y = stN 8 (Go.bits .xor .u32 x (rd l0 ↑k % 4294967296))) (fun a' _ => (intOf (a'.tmps.getD 6 undef)).toNat) rfl ?_ ?_
      · go_wp2
        go_step3
        go_wp2
        all_goals (go_step3; refine ⟨rfl, rfl, 7, _, _, _, _, _, _, _, _, _, _, _, _, _, _, _, _, _, by omega, by omega, ?_, ?_, rfl, ?_⟩)
        · exact (xor_bd _ _).1
        · exact (xor_bd _ _).2
        · exact step_yes (by assumption)
        · have := xor_bd x (rd l0 ↑k % 4294967296); omega
        · have := xor_bd x (rd l0 ↑k % 4294967296); omega
        · exact step_no (by assumption)
      · rintro a' w' ⟨rfl, m, y, v13, v14, v15, v16, v17, v18, v19, v20, v21, v22, v23, v24, v25, v26, v27, v28, hm, hm1, hy0, hy1, rfl, hs⟩
        have HS := Aside0.mk hs
        clear hs
        by_cases hm2 : m = 1
        · subst hm2
          go_wp2
          all_goals simp only [Exit.jump]
          all_goals simp only [Exit.inBlock, Exit.then]
          all_goals go_at_K
          all_goals go_wp2
          · go_roundw
            case rel => exact ⟨k + 1, by omega, by go_num, trivial, _, ⟨(step_yes (by assumption)).trans (HS.out.trans HX.out.symm)⟩, (xor_bd _ _).1, (xor_bd _ _).2, rfl⟩
            case measure => simp [intOf]; omega
          · go_roundw
            case rel => exact ⟨k + 1, by omega, by go_num, trivial, _, ⟨(step_no (by assumption)).trans (HS.out.trans HX.out.symm)⟩, (half_bd hy0 hy1).1, (half_bd hy0 hy1).2, rfl⟩
            case measure => simp [intOf]; omega
        · obtain ⟨j, rfl⟩ : ∃ j, m = j + 2 := ⟨m - 2, by omega⟩
          go_wp2
          all_goals (go_step3; rw [show ((j : Int) + 2 - 1) = ((j + 1 : Nat) : Int) from by omega]; refine ⟨rfl, ⟨rfl, j + 1, _, ⟨_, _, _, _, _, _, _, _, _, _, _, _, _, _, _, _, by omega, by omega, ?_, ?_, rfl, ?_⟩⟩, ?_⟩)
          · exact (xor_bd _ _).1
          · exact (xor_bd _ _).2
          · exact (step_yes (by assumption)).trans HS.out
          · simp [intOf]
          · omega
          · omega
          · exact (step_no (by assumption)).trans HS.out
          · simp [intOf]
    · obtain rfl : k = l0.length := by omega
      rw [List.take_length] at hx
      go_wp2
      go_ret
      exact ⟨by rw [← hx.out]; rfl, Drawn0.refl _⟩
theorem num_Sum.calls (A0 : Option Addr) (c0 : Nat) (l0 : List Int) (r : Int) (w : World) (hr0 : Kd.C (Kd.int .u8) w A0 l0.length l0) (hc0 : l0.length ≤ c0) (h : num_Sum.f l0 = some r) :
    Calls Try.prog 52 #[.slice A0 l0.length c0] w fun e w' => e = .returned (.int .i64 r) ∧ Drawn0 w w' := by
  unfold num_Sum.f at h
  by_cases hl : l0.length ≤ 140737488355328
  · rw [if_pos hl] at h
    injection h with h
    subst h
    exact sum_walk A0 c0 l0 w hr0 hc0 hl
  · rw [if_neg hl] at h
    cases h
end Go.Proofs.Ythjnkapkhphpeaa.P
end
section
-- Written by a program of this session (xprint.py, over the kit's print). Not trusted: Lean checks it.
namespace Go.Proofs.Ythjnkapkhphpeaa.P
open Go.RowKit Go.Proofs.YthjnkapkhphpeaaW.PrintWords Go.Proofs.YthjnkapkhphpeaaW.PrintLast Go.Proofs.YthjnkapkhphpeaaW.PrintMore
attribute [local go_sem] max2_int min2_int max_two min_two max_three min_three max_four min_four   -- for this text's walks alone
set_option linter.unusedVariables false
set_option linter.unusedSimpArgs false

/-! ### num_isWide: function 60 -/
def num_isWide.f (a0 : Int) : Option (Bool) := if a0 ≥ 1 then (some (decide (a0 ≤ 4))) else (some false)
set_option maxHeartbeats 8000000 in
set_option maxRecDepth 100000 in
theorem num_isWide.calls (a0 : Int) (r : Bool) (w : World) (h : num_isWide.f a0 = some r) :
    Calls Try.prog 60 #[.int .i64 a0] w fun e w' => e = .returned (.bool r) ∧ Drawn0 w w' := by
  have H : (if a0 ≥ 1 then (some (decide (a0 ≤ 4))) else (some false)) = some r := h
  clear h
  by_cases c2 : a0 ≥ 1
  · rw [if_pos c2] at H
    have c2b0 : decide (1 ≤ a0) = true := decide_eq_true c2
    clear c2
    obtain rfl := Option.some.inj H
    go_enter Try.func60, Try.ntmps60
    go_wp2
    go_ret
    exact ⟨by first | rfl | (simp; done) | (simp [*]; done), by repeat (first | exact Drawn0.refl _ | apply Drawn0.step)⟩
  · rw [if_neg c2] at H
    have c2b0 : decide (1 ≤ a0) = false := decide_eq_false c2
    clear c2
    obtain rfl := Option.some.inj H
    go_enter Try.func60, Try.ntmps60
    go_wp2
    go_ret
    exact ⟨by first | rfl | (simp; done) | (simp [*]; done), by repeat (first | exact Drawn0.refl _ | apply Drawn0.step)⟩

end Go.Proofs.Ythjnkapkhphpeaa.P
end
section
-- Written by a program of this session (xprint.py, over the kit's print). Not trusted: Lean checks it.
namespace Go.Proofs.Ythjnkapkhphpeaa.P
open Go.RowKit Go.Proofs.YthjnkapkhphpeaaW.PrintWords Go.Proofs.YthjnkapkhphpeaaW.PrintLast Go.Proofs.YthjnkapkhphpeaaW.PrintMore
attribute [local go_sem] max2_int min2_int max_two min_two max_three min_three max_four min_four   -- for this text's walks alone
set_option linter.unusedVariables false
set_option linter.unusedSimpArgs false

/-! ### num_Put: function 43 -/
mutual
def num_Put.j0 : Nat → Int → Int → Bool → Option (List Int)
  | 0, _, _, _ => none
  | k + 1, x0, x1, x20 => if x20 = true then (some ([] : List Int)) else (if 0 ≤ x1 then (if (x1 : Int).toNat ≤ 281474976710656 then (num_Put.l0 k x0 (List.replicate (x1 : Int).toNat 0) x1 0) else (none)) else (none))
def num_Put.l0 : Nat → Int → List Int → Int → Int → Option (List Int)
  | 0, _, _, _, _ => none
  | k + 1, x0, x5, x23, x24 => if x24 < x23 then (if 0 ≤ (wrap64 (8 * x24)) then (if 0 ≤ x24 then (if x24 < (x5.length : Int) then (num_Put.l0 k x0 (x5.set (x24 : Int).toNat ((shr .i64 x0 (wrap64 (8 * x24))) % 256)) x23 (wrap64 (x24 + 1))) else (none)) else (none)) else (none)) else (some x5)
end
def num_Put.f (k : Nat) (a0 : Int) (a1 : Int) : Option (List Int) := (num_isWide.f a1).bind fun t101 => (if t101 = true then (if a0 < 0 then (num_Put.j0 k a0 a1 true) else (if 0 ≤ (wrap64 (8 * a1)) then (num_Put.j0 k a0 a1 (decide ((shr .i64 a0 (wrap64 (8 * a1))) > 0))) else (none))) else (num_Put.j0 k a0 a1 true))
theorem num_Put.mono_l : ∀ k, (∀ y0 y1 y2, LeO (num_Put.j0 k y0 y1 y2) (num_Put.j0 (k + 1) y0 y1 y2)) ∧ (∀ y0 y1 y2 y3, LeO (num_Put.l0 k y0 y1 y2 y3) (num_Put.l0 (k + 1) y0 y1 y2 y3))
  | 0 => ⟨fun _ _ _ r h => by simp [num_Put.j0] at h, fun _ _ _ _ r h => by simp [num_Put.l0] at h⟩
  | k + 1 => by
    obtain ⟨ih0, ih1⟩ := num_Put.mono_l k
    refine ⟨?_, ?_⟩
    · intro y0 y1 y2
      unfold num_Put.j0
      repeat' first
      | (with_reducible exact ih0 _ _ _)
      | (with_reducible exact ih1 _ _ _ _)
      | (with_reducible exact LeO.refl _)
      | (with_reducible exact LeO.none _)
      | (with_reducible refine LeO.ite ?_ ?_)
      | (with_reducible refine LeO.bind ?_ (fun _ => ?_))
      | exact ih0 _ _ _
      | exact ih1 _ _ _ _
      | exact LeO.none _
      | refine LeO.ite ?_ ?_
      | refine LeO.bind ?_ (fun _ => ?_)
    · intro y0 y1 y2 y3
      unfold num_Put.l0
      repeat' first
      | (with_reducible exact ih0 _ _ _)
      | (with_reducible exact ih1 _ _ _ _)
      | (with_reducible exact LeO.refl _)
      | (with_reducible exact LeO.none _)
      | (with_reducible refine LeO.ite ?_ ?_)
      | (with_reducible refine LeO.bind ?_ (fun _ => ?_))
      | exact ih0 _ _ _
      | exact ih1 _ _ _ _
      | exact LeO.none _
      | refine LeO.ite ?_ ?_
      | refine LeO.bind ?_ (fun _ => ?_)
theorem num_Put.mono : ∀ a0 a1 k, LeO (num_Put.f k a0 a1) (num_Put.f (k + 1) a0 a1) := by
  intro a0 a1 k
  obtain ⟨ih0, ih1⟩ := num_Put.mono_l k
  unfold num_Put.f
  repeat' first
      | (with_reducible exact ih0 _ _ _)
      | (with_reducible exact ih1 _ _ _ _)
      | (with_reducible exact LeO.refl _)
      | (with_reducible exact LeO.none _)
      | (with_reducible refine LeO.ite ?_ ?_)
      | (with_reducible refine LeO.bind ?_ (fun _ => ?_))
      | exact ih0 _ _ _
      | exact ih1 _ _ _ _
      | exact LeO.none _
      | refine LeO.ite ?_ ?_
      | refine LeO.bind ?_ (fun _ => ?_)
set_option maxHeartbeats 8000000 in
set_option maxRecDepth 100000 in
theorem num_Put.calls (k : Nat) (a0 : Int) (a1 : Int) (r : List Int) (w : World) (h : num_Put.f k a0 a1 = some r) :
    Calls Try.prog 43 #[.int .i64 a0, .int .i64 a1] w fun e w' => ∃ v0_ : Value, e = .returned (v0_) ∧ Kd.R (Kd.int .u8) 5 w' w.heap.size (fun _ => True) v0_ r ∧ Below w.heap.size w w' := by
  have HB := Aside0.mk (Below.refl w.heap.size w)
  have H : ((num_isWide.f a1).bind fun t101 => (if t101 = true then (if a0 < 0 then (num_Put.j0 k a0 a1 true) else (if 0 ≤ (wrap64 (8 * a1)) then (num_Put.j0 k a0 a1 (decide ((shr .i64 a0 (wrap64 (8 * a1))) > 0))) else (none))) else (num_Put.j0 k a0 a1 true))) = some r := h
  clear h
  have HC3 := Aside0.mk H
  clear H
  go_enter Try.func43, Try.ntmps43
  go_upto_region 1 with (fail)
  go_cut [20] (fun v20 wc => ∃ (kq : Nat) (x20_2 : Bool), v20 = .bool x20_2 ∧ Aside0 (num_Put.j0 kq a0 a1 x20_2 = some r) ∧ Aside0 (kq ≤ k) ∧ Aside0 (Below w.heap.size w wc))
  case first =>
    have H := HC3.out
    clear HC3
    replace H := Option.bind_eq_some_iff.mp H
    obtain ⟨t101, A40, H⟩ := H
    replace H : (if t101 = true then (if a0 < 0 then (num_Put.j0 k a0 a1 true) else (if 0 ≤ (wrap64 (8 * a1)) then (num_Put.j0 k a0 a1 (decide ((shr .i64 a0 (wrap64 (8 * a1))) > 0))) else (none))) else (num_Put.j0 k a0 a1 true)) = some r := H
    have A4 := Aside0.mk A40
    clear A40
    by_cases c5 : t101 = true
    · subst c5
      have H1 : (if a0 < 0 then (num_Put.j0 k a0 a1 true) else (if 0 ≤ (wrap64 (8 * a1)) then (num_Put.j0 k a0 a1 (decide ((shr .i64 a0 (wrap64 (8 * a1))) > 0))) else (none))) = some r := by rw [if_pos rfl] at H; exact H
      clear H
      have H := H1
      clear H1
      by_cases c6 : a0 < 0
      · rw [if_pos c6] at H
        have c6b0 : decide (a0 < 0) = true := decide_eq_true c6
        clear c6
        (first | rw [c6b0] | (simp only [i64_w, i32_w]; rw [c6b0]) | skip)
        have H' := Aside0.mk H
        clear H
        go_wp2_with (first | ((with_reducible refine gate_callee (f := 60) rfl ?_); refine goesL_ (some 8) rfl rfl Try.func60 (by kernel_rfl) rfl #[.int .i64 a1] rfl (by (try simp only [List.map_toArray, List.map_cons, List.map_nil]); first | done | rfl | (simp only [List.length_drop, List.length_take]; rfl)) ?_; (with_reducible refine (num_isWide.calls a1 true _ A4.out).mono ?_); rintro e w' ⟨rfl, ⟨nd, rfl⟩⟩; refine ⟨_, rfl, ?_⟩))
        go_meet
        case rel => exact ⟨_, (true), (by first | rfl | (simp; done) | (simp [*]; done)), H', ⟨by first | omega | exact Nat.le_refl _⟩, ⟨by repeat (first | (with_reducible first | exact HB.out | apply below_alloc | apply pw_below_drewN | apply below_drew1) | exact HB.out)⟩⟩
      · rw [if_neg c6] at H
        have c6b0 : decide (a0 < 0) = false := decide_eq_false c6
        clear c6
        (first | rw [c6b0] | (simp only [i64_w, i32_w]; rw [c6b0]) | skip)
        obtain ⟨ji7, hji7⟩ : ∃ j_ : Int, (wrap64 (8 * a1)) = j_ := ⟨_, rfl⟩
        replace H : (if 0 ≤ (ji7) then (num_Put.j0 k a0 a1 (decide ((shr .i64 a0 (ji7)) > 0))) else (none)) = some r := by first | (rw [hji7] at H; exact H) | (simp only [hji7] at H ⊢; exact H)
        (try rw [hji7] at A4)
        have hji7w : (IntKind.i64.wrap (8 * a1)) = ji7 := (i64_w _).trans hji7
        by_cases c8 : 0 ≤ (ji7)
        · rw [if_pos c8] at H
          have c8b0 := eq_true c8
          have c8b1 : decide (0 ≤ (ji7)) = true := decide_eq_true c8
          clear c8
          obtain ⟨ji9, hji9⟩ : ∃ j_ : Int, (shr .i64 a0 (ji7)) = j_ := ⟨_, rfl⟩
          replace H : (num_Put.j0 k a0 a1 (decide ((ji9) > 0))) = some r := by first | (rw [hji9] at H; exact H) | (simp only [hji9] at H ⊢; exact H)
          (try rw [hji9] at A4)
          have hji9_ : (a0 / 2 ^ min (ji7).toNat 64) = ji9 := hji9
          have hji9z : (ji7) ≤ 64 → (a0 / 2 ^ (ji7).toNat) = ji9 := shr_small hji9
          have H' := Aside0.mk H
          clear H
          go_wp2_with (first | ((with_reducible refine gate_callee (f := 60) rfl ?_); refine goesL_ (some 8) rfl rfl Try.func60 (by kernel_rfl) rfl #[.int .i64 a1] rfl (by (try simp only [List.map_toArray, List.map_cons, List.map_nil]); first | done | rfl | (simp only [List.length_drop, List.length_take]; rfl)) ?_; (with_reducible refine (num_isWide.calls a1 true _ A4.out).mono ?_); rintro e w' ⟨rfl, ⟨nd, rfl⟩⟩; refine ⟨_, rfl, ?_⟩))
          go_meet
          case rel => exact ⟨_, (decide ((ji9) > 0)), (by first | rfl | (simp; done) | (simp only [← hji9] <;> (first | rfl | simp)) | (simp [*]; done)), H', ⟨by first | omega | exact Nat.le_refl _⟩, ⟨by repeat (first | (with_reducible first | exact HB.out | apply below_alloc | apply pw_below_drewN | apply below_drew1) | exact HB.out)⟩⟩
        · rw [if_neg c8] at H
          exact absurd H (by simp)
    · replace c5 := Bool.eq_false_iff.mpr c5
      subst c5
      have H1 : (num_Put.j0 k a0 a1 true) = some r := by rw [if_neg (show ¬ (false = true) by decide)] at H; exact H
      clear H
      have H := H1
      clear H1
      have H' := Aside0.mk H
      clear H
      go_wp2_with (first | ((with_reducible refine gate_callee (f := 60) rfl ?_); refine goesL_ (some 8) rfl rfl Try.func60 (by kernel_rfl) rfl #[.int .i64 a1] rfl (by (try simp only [List.map_toArray, List.map_cons, List.map_nil]); first | done | rfl | (simp only [List.length_drop, List.length_take]; rfl)) ?_; (with_reducible refine (num_isWide.calls a1 false _ A4.out).mono ?_); rintro e w' ⟨rfl, ⟨nd, rfl⟩⟩; refine ⟨_, rfl, ?_⟩))
      go_meet
      case rel => exact ⟨_, (true), (by first | rfl | (simp; done) | (simp [*]; done)), H', ⟨by first | omega | exact Nat.le_refl _⟩, ⟨by repeat (first | (with_reducible first | exact HB.out | apply below_alloc | apply pw_below_drewN | apply below_drew1) | exact HB.out)⟩⟩
  case rest =>
    clear HC3
    try clear p2
    try clear c4
    try clear c5
    try clear c6
    try clear c6b0
    try clear p6
    try clear c8
    try clear c8b0
    try clear c8b1
    obtain ⟨kq, x20_2, rfl, HA, HJ2, HB⟩ := hcut
    cases kq with
    | zero => exact absurd HA.out (by simp [num_Put.j0])
    | succ kj2 =>
      have H := HA.out
      clear HA
      simp only [num_Put.j0] at H
      by_cases c10 : x20_2 = true
      · subst c10
        have H1 : (some ([] : List Int)) = some r := by rw [if_pos rfl] at H; exact H
        clear H
        have H := H1
        clear H1
        obtain rfl := Option.some.inj H
        go_wp2
        go_ret
        exact ⟨_, by first | rfl | (simp [errW_none, errW_some] <;> rfl) | (simp [*, errW_none, errW_some] <;> rfl), by first | exact Kd.R_nil _ _ _ _ _ | exact Kd.N_nil _ _ _ _ _ | exact Kd.V_nil _ _ _ _ _ | exact Kd.Q_nil _ _ _ _ _ | exact Kd.S_nil _ _ _ _ _, by repeat (first | (with_reducible first | exact HB.out | apply below_alloc | apply pw_below_drewN | apply below_drew1) | exact HB.out)⟩
      · replace c10 := Bool.eq_false_iff.mpr c10
        subst c10
        have H1 : (if 0 ≤ a1 then (if (a1 : Int).toNat ≤ 281474976710656 then (num_Put.l0 kj2 a0 (List.replicate (a1 : Int).toNat 0) a1 0) else (none)) else (none)) = some r := by rw [if_neg (show ¬ (false = true) by decide)] at H; exact H
        clear H
        have H := H1
        clear H1
        by_cases c11 : 0 ≤ a1
        · rw [if_pos c11] at H
          have c11b0 := eq_true c11
          have c11b1 : decide (0 ≤ a1) = true := decide_eq_true c11
          clear c11
          by_cases c12 : (a1 : Int).toNat ≤ 281474976710656
          · rw [if_pos c12] at H
            have c12b0 := eq_true c12
            have c12b1 : decide ((a1 : Int).toNat ≤ 281474976710656) = true := decide_eq_true c12
            clear c12
            obtain ⟨y102, hy102⟩ : ∃ y_ : List Int, y_ = (List.replicate (a1 : Int).toNat 0) := ⟨_, rfl⟩
            replace H : (num_Put.l0 kj2 a0 y102 a1 0) = some r := by first | (rw [hy102]; with_reducible exact H) | (have H2_ := (Option.bind_some _ _).symm.trans H; rw [hy102]; with_reducible exact H2_) | (have H2_ := (Option.bind_some _ _).symm.trans H; with_reducible exact H2_) | with_reducible exact H | (rw [hy102]; exact H) | exact H
            have Ny102 := Aside0.mk hy102
            clear hy102
            have H' := Aside0.mk H
            clear H
            go_wp2_with (first | ((with_reducible refine gate_dst (N := 22) rfl ?_); refine Kd.R_make (Kd.int .u8) _ 5 rfl (N := 22) rfl 24 _ _ rfl a1 rfl rfl Try.underlying24 (.int .u8 0) 1 info5 rfl (by decide) (by omega) 0 (ok := fun _ => True) (okp := fun _ => True) rfl (fun _ hk => hk) trivial (of_decide_eq_true (by first | (with_reducible assumption) | assumption)) (Nat.le_trans (Nat.mul_le_mul_right _ (of_decide_eq_true (by first | (with_reducible assumption) | assumption) : a1.toNat ≤ 281474976710656)) (by omega)) (Below.refl _ _) (Nat.le_refl _) ?_; intro v103 w13 ho14 hb hg_ hnew_; clear hg_ hnew_; (first | rw [← Ny102.out] at ho14 | (simp only [Int.reduceToNat] at ho14; rw [← Ny102.out] at ho14)); have n0_ := Aside0.mk (Kd.R_lower ho14 (below_size (by repeat (first | (with_reducible first | exact HB.out | apply below_alloc | apply pw_below_drewN | apply below_drew1) | exact HB.out)))); have n1_ := Aside0.mk (below_step (by repeat (first | (with_reducible first | exact HB.out | apply below_alloc | apply pw_below_drewN | apply below_drew1) | exact HB.out)) hb); clear HB; have HO104 := n0_; have HB := n1_; clear n0_ n1_; clear hb ho14))
            go_loopg [24] kj2 (fun kq v24 w' => ∃ (x5_2 : List Int) (x24_2 : Int), v24 = .int .i64 x24_2 ∧ Aside0 (num_Put.l0 kq a0 x5_2 a1 x24_2 = some r) ∧ Aside0 (kq ≤ kj2) ∧ Aside0 (Kd.R (Kd.int .u8) 5 w' w.heap.size (fun _ => True) v103 x5_2) ∧ Aside0 (Below w.heap.size w w'))
            case atStart => exact ⟨(y102), (0), (by first | rfl | (simp; done) | (simp [*]; done)), H', ⟨Nat.le_refl _⟩, ⟨by (with_reducible repeat (first | apply Kd.R_alloc | apply Kd.R_drewN | apply Kd.R_drew)); exact HO104.out⟩, ⟨by repeat (first | (with_reducible first | exact HB.out | apply below_alloc | apply pw_below_drewN | apply below_drew1) | exact HB.out)⟩⟩
            case round =>
              clear H'
              try clear c1
              try clear p2
              try clear c4
              try clear c5
              try clear c6
              try clear c6b0
              try clear p6
              try clear c8
              try clear c8b0
              try clear c8b1
              try clear c10
              try clear c11
              try clear c11b0
              try clear c11b1
              try clear c12
              try clear c12b0
              try clear c12b1
              try clear p2
              try clear p6
              obtain ⟨x5_2, x24_2, rfl, HA, HK2, HO_5, HB⟩ := hrel
              cases gk with
              | zero => exact absurd HA.out (by simp [num_Put.l0])
              | succ k2 =>
                have H := HA.out
                clear HA
                simp only [num_Put.l0] at H
                by_cases c15 : x24_2 < a1
                · rw [if_pos c15] at H
                  have c15b0 : decide (x24_2 < a1) = true := decide_eq_true c15
                  clear c15
                  obtain ⟨ji16, hji16⟩ : ∃ j_ : Int, (wrap64 (8 * x24_2)) = j_ := ⟨_, rfl⟩
                  replace H : (if 0 ≤ (ji16) then (if 0 ≤ x24_2 then (if x24_2 < (x5_2.length : Int) then (num_Put.l0 k2 a0 (x5_2.set (x24_2 : Int).toNat ((shr .i64 a0 (ji16)) % 256)) a1 (wrap64 (x24_2 + 1))) else (none)) else (none)) else (none)) = some r := by first | (rw [hji16] at H; exact H) | (simp only [hji16] at H ⊢; exact H)
                  have hji16w : (IntKind.i64.wrap (8 * x24_2)) = ji16 := (i64_w _).trans hji16
                  by_cases c17 : 0 ≤ (ji16)
                  · rw [if_pos c17] at H
                    have c17b0 := eq_true c17
                    have c17b1 : decide (0 ≤ (ji16)) = true := decide_eq_true c17
                    clear c17
                    obtain ⟨ji18, hji18⟩ : ∃ j_ : Int, (shr .i64 a0 (ji16)) = j_ := ⟨_, rfl⟩
                    replace H : (if 0 ≤ x24_2 then (if x24_2 < (x5_2.length : Int) then (num_Put.l0 k2 a0 (x5_2.set (x24_2 : Int).toNat ((ji18) % 256)) a1 (wrap64 (x24_2 + 1))) else (none)) else (none)) = some r := by first | (rw [hji18] at H; exact H) | (simp only [hji18] at H ⊢; exact H)
                    have hji18_ : (a0 / 2 ^ min (ji16).toNat 64) = ji18 := hji18
                    have hji18z : (ji16) ≤ 64 → (a0 / 2 ^ (ji16).toNat) = ji18 := shr_small hji18
                    by_cases c19 : 0 ≤ x24_2
                    · rw [if_pos c19] at H
                      have c19b0 : decide (0 ≤ x24_2) = true := decide_eq_true c19
                      clear c19
                      by_cases c20 : x24_2 < (x5_2.length : Int)
                      · rw [if_pos c20] at H
                        have c20b0 : decide (x24_2 < (x5_2.length : Int)) = true := decide_eq_true c20
                        clear c20
                        obtain ⟨y105, hy105⟩ : ∃ y_ : List Int, y_ = (x5_2.set (x24_2 : Int).toNat ((ji18) % 256)) := ⟨_, rfl⟩
                        replace H : (num_Put.l0 k2 a0 y105 a1 (wrap64 (x24_2 + 1))) = some r := by first | (rw [hy105]; with_reducible exact H) | (have H2_ := (Option.bind_some _ _).symm.trans H; rw [hy105]; with_reducible exact H2_) | (have H2_ := (Option.bind_some _ _).symm.trans H; with_reducible exact H2_) | with_reducible exact H | (rw [hy105]; exact H) | exact H
                        have Ny105 := Aside0.mk hy105
                        clear hy105
                        have H' := Aside0.mk H
                        clear H
                        have p21 : 0 ≤ (x24_2 : Int) := of_decide_eq_true (by first | (with_reducible assumption) | assumption)
                        have q21 : (x24_2 : Int) < ((x5_2.length : Int) : Int) := of_decide_eq_true (by first | (with_reducible assumption) | assumption)
                        obtain ⟨go21, co21, eo21, gb21, gl21, cl21, HG21⟩ := Kd.R_form HO_5.out (by omega)
                        (first | cases eo21 | (injection eo21 with ea_ en_ ec_; (first | subst ea_ | (injection ea_ with ea_; subst ea_)); subst ec_; clear en_))
                        have GB21 := Aside0.mk gb21
                        have GG21 := Aside0.mk HG21
                        clear gb21 gl21 HG21
                        obtain ⟨hx21_0, hf21_0⟩ := Kd.R_celln 0 HO_5.out (x24_2 : Int) p21 q21
                        replace p21 := eq_true p21
                        replace q21 := eq_true q21
                        have HP22 := Kd.R_putg HO_5.out (x24_2 : Int) ((ji18) % 256)
                        go_wp2_with (first | ((with_reducible refine gate_store (t := 5) (p := 34) rfl ?_); refine store_event (t := 5) (p := 34) (v := ?vo_w23) (w1 := (wr.setCell ⟨go21, (x24_2 : Int).toNat, none⟩ (.int .u8 ((ji18) % 256)))) ?hg ?ho ?hn ?hr ?_; (case ho => rfl); (case hg => rfl); (case hn => rfl); (case hr => first | (go_simp; done) | (go_simp; rfl)); intro w23 hw; have hg : wr.grownBy w23 (some go21) := (by rw [hw]; exact HP22.2); have hp_ : Kd.R (Kd.int .u8) 5 w23 w.heap.size (fun _ => True) (.slice (some ⟨go21, 0, none⟩) x5_2.length co21) y105 := (by rw [hw, Ny105.out]; exact HP22.1); clear HP22; have n0_ := Aside0.mk (hp_); have n1_ := Aside0.mk ((by rw [hw]; exact below_set (HB.out) GB21.out : Below w.heap.size w w23)); clear HO_5; clear HB; have HO_5 := n0_; have HB := n1_; clear n0_ n1_; clear hg hw hp_))
                        go_roundg k2
                        case measure => have := HJ2.out; have := HK2.out; omega
                        case rel => exact ⟨(y105), (wrap64 (x24_2 + 1)), (by first | rfl | (simp; done) | (simp [*]; done)), H', ⟨by have := HJ2.out; have := HK2.out; omega⟩, ⟨by (with_reducible repeat (first | apply Kd.R_alloc | apply Kd.R_drewN | apply Kd.R_drew)); exact HO_5.out⟩, ⟨by repeat (first | (with_reducible first | exact HB.out | apply below_alloc | apply pw_below_drewN | apply below_drew1) | exact HB.out)⟩⟩
                      · rw [if_neg c20] at H
                        exact absurd H (by simp)
                    · rw [if_neg c19] at H
                      exact absurd H (by simp)
                  · rw [if_neg c17] at H
                    exact absurd H (by simp)
                · rw [if_neg c15] at H
                  have c15b0 : decide (x24_2 < a1) = false := decide_eq_false c15
                  clear c15
                  obtain rfl := Option.some.inj H
                  go_wp2
                  go_ret
                  exact ⟨_, by first | rfl | (simp [errW_none, errW_some] <;> rfl) | (simp [*, errW_none, errW_some] <;> rfl), by (with_reducible repeat (first | apply Kd.R_alloc | apply Kd.R_drewN | apply Kd.R_drew)); exact HO_5.out, by repeat (first | (with_reducible first | exact HB.out | apply below_alloc | apply pw_below_drewN | apply below_drew1) | exact HB.out)⟩
          · rw [if_neg c12] at H
            exact absurd H (by simp)
        · rw [if_neg c11] at H
          exact absurd H (by simp)

end Go.Proofs.Ythjnkapkhphpeaa.P
end
section
-- Written by a program of this session (xprint.py, over the kit's print). Not trusted: Lean checks it.
namespace Go.Proofs.Ythjnkapkhphpeaa.P
open Go.RowKit Go.Proofs.YthjnkapkhphpeaaW.PrintWords Go.Proofs.YthjnkapkhphpeaaW.PrintLast Go.Proofs.YthjnkapkhphpeaaW.PrintMore
attribute [local go_sem] max2_int min2_int max_two min_two max_three min_three max_four min_four   -- for this text's walks alone
set_option linter.unusedVariables false
set_option linter.unusedSimpArgs false

/-! ### num_Take: function 49 -/
mutual
def num_Take.j0 : Nat → List Int → Int → Int → Bool → Option (Int × Int × Int)
  | 0, _, _, _, _ => none
  | k + 1, x0, x1, x2, x31 => if x31 = true then (some (0, 0, 2)) else (num_Take.l0 k x0 x1 x2 0 x2 0)
def num_Take.l0 : Nat → List Int → Int → Int → Int → Int → Int → Option (Int × Int × Int)
  | 0, _, _, _, _, _, _ => none
  | k + 1, x0, x1, x2, x9, x32, x33 => if x33 < x32 then (if 0 ≤ (wrap64 (x1 + x33)) then (if (wrap64 (x1 + x33)) < (x0.length : Int) then (if 0 ≤ (wrap64 (8 * x33)) then (num_Take.l0 k x0 x1 x2 (Go.bits .or .i64 x9 (shl .i64 (wrap64 (rd x0 (wrap64 (x1 + x33)))) (wrap64 (8 * x33)))) x32 (wrap64 (x33 + 1))) else (none)) else (none)) else (none)) else (some (x9, wrap64 (x1 + x2), 0))
end
def num_Take.f (k : Nat) (l0 : List Int) (a1 : Int) (a2 : Int) : Option (Int × Int × Int) := (num_isWide.f a2).bind fun t106 => (if t106 = true then (if a1 < 0 then (num_Take.j0 k l0 a1 a2 true) else (if a1 > (l0.length : Int) then (num_Take.j0 k l0 a1 a2 true) else (num_Take.j0 k l0 a1 a2 (decide (a2 > (wrap64 ((l0.length : Int) - a1))))))) else (num_Take.j0 k l0 a1 a2 true))
theorem num_Take.mono_l : ∀ k, (∀ y0 y1 y2 y3, LeO (num_Take.j0 k y0 y1 y2 y3) (num_Take.j0 (k + 1) y0 y1 y2 y3)) ∧ (∀ y0 y1 y2 y3 y4 y5, LeO (num_Take.l0 k y0 y1 y2 y3 y4 y5) (num_Take.l0 (k + 1) y0 y1 y2 y3 y4 y5))
  | 0 => ⟨fun _ _ _ _ r h => by simp [num_Take.j0] at h, fun _ _ _ _ _ _ r h => by simp [num_Take.l0] at h⟩
  | k + 1 => by
    obtain ⟨ih0, ih1⟩ := num_Take.mono_l k
    refine ⟨?_, ?_⟩
    · intro y0 y1 y2 y3
      unfold num_Take.j0
      repeat' first
      | (with_reducible exact ih0 _ _ _ _)
      | (with_reducible exact ih1 _ _ _ _ _ _)
      | (with_reducible exact LeO.refl _)
      | (with_reducible exact LeO.none _)
      | (with_reducible refine LeO.ite ?_ ?_)
      | (with_reducible refine LeO.bind ?_ (fun _ => ?_))
      | exact ih0 _ _ _ _
      | exact ih1 _ _ _ _ _ _
      | exact LeO.none _
      | refine LeO.ite ?_ ?_
      | refine LeO.bind ?_ (fun _ => ?_)
    · intro y0 y1 y2 y3 y4 y5
      unfold num_Take.l0
      repeat' first
      | (with_reducible exact ih0 _ _ _ _)
      | (with_reducible exact ih1 _ _ _ _ _ _)
      | (with_reducible exact LeO.refl _)
      | (with_reducible exact LeO.none _)
      | (with_reducible refine LeO.ite ?_ ?_)
      | (with_reducible refine LeO.bind ?_ (fun _ => ?_))
      | exact ih0 _ _ _ _
      | exact ih1 _ _ _ _ _ _
      | exact LeO.none _
      | refine LeO.ite ?_ ?_
      | refine LeO.bind ?_ (fun _ => ?_)
theorem num_Take.mono : ∀ a0 a1 a2 k, LeO (num_Take.f k a0 a1 a2) (num_Take.f (k + 1) a0 a1 a2) := by
  intro a0 a1 a2 k
  obtain ⟨ih0, ih1⟩ := num_Take.mono_l k
  unfold num_Take.f
  repeat' first
      | (with_reducible exact ih0 _ _ _ _)
      | (with_reducible exact ih1 _ _ _ _ _ _)
      | (with_reducible exact LeO.refl _)
      | (with_reducible exact LeO.none _)
      | (with_reducible refine LeO.ite ?_ ?_)
      | (with_reducible refine LeO.bind ?_ (fun _ => ?_))
      | exact ih0 _ _ _ _
      | exact ih1 _ _ _ _ _ _
      | exact LeO.none _
      | refine LeO.ite ?_ ?_
      | refine LeO.bind ?_ (fun _ => ?_)
set_option maxHeartbeats 8000000 in
set_option maxRecDepth 100000 in
theorem num_Take.calls (k : Nat) (A0 : Option Addr) (c0 : Nat) (l0 : List Int) (a1 : Int) (a2 : Int) (r1 : Int) (r2 : Int) (r3 : Int) (w : World) (hr0 : Kd.C (Kd.int .u8) w A0 l0.length l0) (hc0 : l0.length ≤ c0) (h : num_Take.f k l0 a1 a2 = some (r1, r2, r3)) :
    Calls Try.prog 49 #[.slice A0 l0.length c0, .int .i64 a1, .int .i64 a2] w fun e w' => e = .returned (.tuple #[.int .i64 r1, .int .i64 r2, .int .i64 r3]) ∧ Drawn0 w w' := by
  have HR0 := Aside0.mk hr0
  have HC0 := Aside0.mk hc0
  clear hr0 hc0
  have H : ((num_isWide.f a2).bind fun t106 => (if t106 = true then (if a1 < 0 then (num_Take.j0 k l0 a1 a2 true) else (if a1 > (l0.length : Int) then (num_Take.j0 k l0 a1 a2 true) else (num_Take.j0 k l0 a1 a2 (decide (a2 > (wrap64 ((l0.length : Int) - a1))))))) else (num_Take.j0 k l0 a1 a2 true))) = some (r1, r2, r3) := h
  clear h
  have HC4 := Aside0.mk H
  clear H
  go_enter Try.func49, Try.ntmps49
  go_upto_region 1 with (fail)
  go_cut [31] (fun v31 wc => ∃ (kq : Nat) (x31_3 : Bool), v31 = .bool x31_3 ∧ Aside0 (num_Take.j0 kq l0 a1 a2 x31_3 = some (r1, r2, r3)) ∧ Aside0 (kq ≤ k) ∧ Drawn0 w wc)
  case first =>
    have H := HC4.out
    clear HC4
    replace H := Option.bind_eq_some_iff.mp H
    obtain ⟨t106, A50, H⟩ := H
    replace H : (if t106 = true then (if a1 < 0 then (num_Take.j0 k l0 a1 a2 true) else (if a1 > (l0.length : Int) then (num_Take.j0 k l0 a1 a2 true) else (num_Take.j0 k l0 a1 a2 (decide (a2 > (wrap64 ((l0.length : Int) - a1))))))) else (num_Take.j0 k l0 a1 a2 true)) = some (r1, r2, r3) := H
    have A5 := Aside0.mk A50
    clear A50
    by_cases c6 : t106 = true
    · subst c6
      have H1 : (if a1 < 0 then (num_Take.j0 k l0 a1 a2 true) else (if a1 > (l0.length : Int) then (num_Take.j0 k l0 a1 a2 true) else (num_Take.j0 k l0 a1 a2 (decide (a2 > (wrap64 ((l0.length : Int) - a1))))))) = some (r1, r2, r3) := by rw [if_pos rfl] at H; exact H
      clear H
      have H := H1
      clear H1
      by_cases c7 : a1 < 0
      · rw [if_pos c7] at H
        have c7b0 : decide (a1 < 0) = true := decide_eq_true c7
        clear c7
        (first | rw [c7b0] | (simp only [i64_w, i32_w]; rw [c7b0]) | skip)
        have H' := Aside0.mk H
        clear H
        go_wp2_with (first | ((with_reducible refine gate_callee (f := 60) rfl ?_); refine goesL_ (some 12) rfl rfl Try.func60 (by kernel_rfl) rfl #[.int .i64 a2] rfl (by (try simp only [List.map_toArray, List.map_cons, List.map_nil]); first | done | rfl | (simp only [List.length_drop, List.length_take]; rfl)) ?_; (with_reducible refine (num_isWide.calls a2 true _ A5.out).mono ?_); rintro e w' ⟨rfl, ⟨nd, rfl⟩⟩; refine ⟨_, rfl, ?_⟩))
        go_meet
        case rel => exact ⟨_, (true), (by first | rfl | (simp; done) | (simp [*]; done)), H', ⟨by first | omega | exact Nat.le_refl _⟩, by repeat (first | exact Drawn0.refl _ | apply Drawn0.step)⟩
      · rw [if_neg c7] at H
        have c7b0 : decide (a1 < 0) = false := decide_eq_false c7
        clear c7
        (first | rw [c7b0] | (simp only [i64_w, i32_w]; rw [c7b0]) | skip)
        by_cases c8 : a1 > (l0.length : Int)
        · rw [if_pos c8] at H
          have c8b0 : decide ((l0.length : Int) < a1) = true := decide_eq_true c8
          clear c8
          have H' := Aside0.mk H
          clear H
          go_wp2_with (first | ((with_reducible refine gate_callee (f := 60) rfl ?_); refine goesL_ (some 12) rfl rfl Try.func60 (by kernel_rfl) rfl #[.int .i64 a2] rfl (by (try simp only [List.map_toArray, List.map_cons, List.map_nil]); first | done | rfl | (simp only [List.length_drop, List.length_take]; rfl)) ?_; (with_reducible refine (num_isWide.calls a2 true _ A5.out).mono ?_); rintro e w' ⟨rfl, ⟨nd, rfl⟩⟩; refine ⟨_, rfl, ?_⟩))
          go_meet
          case rel => exact ⟨_, (true), (by first | rfl | (simp; done) | (simp [*]; done)), H', ⟨by first | omega | exact Nat.le_refl _⟩, by repeat (first | exact Drawn0.refl _ | apply Drawn0.step)⟩
        · rw [if_neg c8] at H
          have c8b0 : decide ((l0.length : Int) < a1) = false := decide_eq_false c8
          clear c8
          have H' := Aside0.mk H
          clear H
          go_wp2_with (first | ((with_reducible refine gate_callee (f := 60) rfl ?_); refine goesL_ (some 12) rfl rfl Try.func60 (by kernel_rfl) rfl #[.int .i64 a2] rfl (by (try simp only [List.map_toArray, List.map_cons, List.map_nil]); first | done | rfl | (simp only [List.length_drop, List.length_take]; rfl)) ?_; (with_reducible refine (num_isWide.calls a2 true _ A5.out).mono ?_); rintro e w' ⟨rfl, ⟨nd, rfl⟩⟩; refine ⟨_, rfl, ?_⟩))
          go_meet
          case rel => exact ⟨_, (decide (a2 > (wrap64 ((l0.length : Int) - a1)))), (by first | rfl | (simp; done) | (simp [*]; done)), H', ⟨by first | omega | exact Nat.le_refl _⟩, by repeat (first | exact Drawn0.refl _ | apply Drawn0.step)⟩
    · replace c6 := Bool.eq_false_iff.mpr c6
      subst c6
      have H1 : (num_Take.j0 k l0 a1 a2 true) = some (r1, r2, r3) := by rw [if_neg (show ¬ (false = true) by decide)] at H; exact H
      clear H
      have H := H1
      clear H1
      have H' := Aside0.mk H
      clear H
      go_wp2_with (first | ((with_reducible refine gate_callee (f := 60) rfl ?_); refine goesL_ (some 12) rfl rfl Try.func60 (by kernel_rfl) rfl #[.int .i64 a2] rfl (by (try simp only [List.map_toArray, List.map_cons, List.map_nil]); first | done | rfl | (simp only [List.length_drop, List.length_take]; rfl)) ?_; (with_reducible refine (num_isWide.calls a2 false _ A5.out).mono ?_); rintro e w' ⟨rfl, ⟨nd, rfl⟩⟩; refine ⟨_, rfl, ?_⟩))
      go_meet
      case rel => exact ⟨_, (true), (by first | rfl | (simp; done) | (simp [*]; done)), H', ⟨by first | omega | exact Nat.le_refl _⟩, by repeat (first | exact Drawn0.refl _ | apply Drawn0.step)⟩
  case rest =>
    clear HC4
    try clear p2
    try clear c4
    try clear c6
    try clear p6
    try clear c7
    try clear c7b0
    try clear c8
    try clear c8b0
    obtain ⟨kq, x31_3, rfl, HA, HJ3, ⟨mc3, rfl⟩⟩ := hcut
    cases kq with
    | zero => exact absurd HA.out (by simp [num_Take.j0])
    | succ kj3 =>
      have H := HA.out
      clear HA
      simp only [num_Take.j0] at H
      by_cases c9 : x31_3 = true
      · subst c9
        have H1 : (some (0, 0, 2)) = some (r1, r2, r3) := by rw [if_pos rfl] at H; exact H
        clear H
        have H := H1
        clear H1
        simp only [Option.some.injEq, Prod.mk.injEq] at H
        obtain ⟨rfl, rfl, rfl⟩ := H
        go_wp2
        go_ret3
        exact ⟨by first | rfl | (simp; done) | (simp [*]; done), by repeat (first | exact Drawn0.refl _ | apply Drawn0.step)⟩
      · replace c9 := Bool.eq_false_iff.mpr c9
        subst c9
        have H1 : (num_Take.l0 kj3 l0 a1 a2 0 a2 0) = some (r1, r2, r3) := by rw [if_neg (show ¬ (false = true) by decide)] at H; exact H
        clear H
        have H := H1
        clear H1
        have H' := Aside0.mk H
        clear H
        go_wp2
        go_loopg [9, 33] kj3 (fun kq v9 v33 w' => ∃ (x9_2 : Int) (x33_2 : Int), v9 = .int .i64 x9_2 ∧ v33 = .int .i64 x33_2 ∧ Aside0 (num_Take.l0 kq l0 a1 a2 x9_2 a2 x33_2 = some (r1, r2, r3)) ∧ Aside0 (kq ≤ kj3) ∧ Drawn0 w w')
        case atStart => exact ⟨(0), (0), (by first | rfl | (simp; done) | (simp [*]; done)), (by first | rfl | (simp; done) | (simp [*]; done)), H', ⟨Nat.le_refl _⟩, by repeat (first | exact Drawn0.refl _ | apply Drawn0.step)⟩
        case round =>
          clear H'
          try clear p2
          try clear c3
          try clear c4
          try clear c6
          try clear p6
          try clear c7
          try clear c7b0
          try clear c8
          try clear c8b0
          try clear c9
          try clear p2
          try clear p6
          obtain ⟨x9_2, x33_2, rfl, rfl, HA, HK2, ⟨m2, rfl⟩⟩ := hrel
          cases gk with
          | zero => exact absurd HA.out (by simp [num_Take.l0])
          | succ k2 =>
            have H := HA.out
            clear HA
            simp only [num_Take.l0] at H
            by_cases c10 : x33_2 < a2
            · rw [if_pos c10] at H
              have c10b0 : decide (x33_2 < a2) = true := decide_eq_true c10
              clear c10
              obtain ⟨ji11, hji11⟩ : ∃ j_ : Int, (wrap64 (a1 + x33_2)) = j_ := ⟨_, rfl⟩
              replace H : (if 0 ≤ (ji11) then (if (ji11) < (l0.length : Int) then (if 0 ≤ (wrap64 (8 * x33_2)) then (num_Take.l0 k2 l0 a1 a2 (Go.bits .or .i64 x9_2 (shl .i64 (wrap64 (rd l0 (ji11))) (wrap64 (8 * x33_2)))) a2 (wrap64 (x33_2 + 1))) else (none)) else (none)) else (none)) = some (r1, r2, r3) := by first | (rw [hji11] at H; exact H) | (simp only [hji11] at H ⊢; exact H)
              have hji11w : (IntKind.i64.wrap (a1 + x33_2)) = ji11 := (i64_w _).trans hji11
              by_cases c12 : 0 ≤ (ji11)
              · rw [if_pos c12] at H
                have c12b0 : decide (0 ≤ (ji11)) = true := decide_eq_true c12
                clear c12
                by_cases c13 : (ji11) < (l0.length : Int)
                · rw [if_pos c13] at H
                  have c13b0 : decide ((ji11) < (l0.length : Int)) = true := decide_eq_true c13
                  clear c13
                  obtain ⟨ji14, hji14⟩ : ∃ j_ : Int, (wrap64 (8 * x33_2)) = j_ := ⟨_, rfl⟩
                  replace H : (if 0 ≤ (ji14) then (num_Take.l0 k2 l0 a1 a2 (Go.bits .or .i64 x9_2 (shl .i64 (wrap64 (rd l0 (ji11))) (ji14))) a2 (wrap64 (x33_2 + 1))) else (none)) = some (r1, r2, r3) := by first | (rw [hji14] at H; exact H) | (simp only [hji14] at H ⊢; exact H)
                  have hji14w : (IntKind.i64.wrap (8 * x33_2)) = ji14 := (i64_w _).trans hji14
                  by_cases c15 : 0 ≤ (ji14)
                  · rw [if_pos c15] at H
                    have c15b0 := eq_true c15
                    have c15b1 : decide (0 ≤ (ji14)) = true := decide_eq_true c15
                    clear c15
                    obtain ⟨ji16, hji16⟩ : ∃ j_ : Int, (shl .i64 (wrap64 (rd l0 (ji11))) (ji14)) = j_ := ⟨_, rfl⟩
                    replace H : (num_Take.l0 k2 l0 a1 a2 (Go.bits .or .i64 x9_2 (ji16)) a2 (wrap64 (x33_2 + 1))) = some (r1, r2, r3) := by first | (rw [hji16] at H; exact H) | (simp only [hji16] at H ⊢; exact H)
                    have hji16_ : (IntKind.i64.wrap ((wrap64 (rd l0 (ji11))) * 2 ^ min (ji14).toNat 64)) = ji16 := hji16
                    have hji16z : (ji14) ≤ 64 → (IntKind.i64.wrap ((wrap64 (rd l0 (ji11))) * 2 ^ (ji14).toNat)) = ji16 := shl_small hji16
                    have hji16y : (wrap64 ((wrap64 (rd l0 (ji11))) * 2 ^ min (ji14).toNat 64)) = ji16 := (i64_w _).symm.trans hji16_
                    have hji16x : (ji14) ≤ 64 → (wrap64 ((wrap64 (rd l0 (ji11))) * 2 ^ (ji14).toNat)) = ji16 := fun h_ => (i64_w _).symm.trans (hji16z h_)
                    have H' := Aside0.mk H
                    clear H
                    have p107 : 0 ≤ ((ji11) : Int) := of_decide_eq_true (by first | (with_reducible assumption) | assumption)
                    have q107 : (ji11) < (l0.length : Int) := of_decide_eq_true (by first | (with_reducible assumption) | assumption)
                    obtain ⟨ad107, e107, hx107_0⟩ := Kd.at_int HR0.out (ji11) p107 q107
                    cases e107
                    replace p107 := eq_true p107
                    replace q107 := eq_true q107
                    go_wp2
                    go_roundg k2
                    case measure => have := HJ3.out; have := HK2.out; omega
                    case rel => exact ⟨(Go.bits .or .i64 x9_2 (ji16)), (wrap64 (x33_2 + 1)), (by first | rfl | (simp; done) | (simp only [← hji16] <;> (first | rfl | simp)) | (simp [*]; done)), (by first | rfl | (simp; done) | (simp [*]; done)), H', ⟨by have := HJ3.out; have := HK2.out; omega⟩, by repeat (first | exact Drawn0.refl _ | apply Drawn0.step)⟩
                  · rw [if_neg c15] at H
                    exact absurd H (by simp)
                · rw [if_neg c13] at H
                  exact absurd H (by simp)
              · rw [if_neg c12] at H
                exact absurd H (by simp)
            · rw [if_neg c10] at H
              have c10b0 : decide (x33_2 < a2) = false := decide_eq_false c10
              clear c10
              simp only [Option.some.injEq, Prod.mk.injEq] at H
              obtain ⟨rfl, rfl, rfl⟩ := H
              go_wp2
              go_ret3
              exact ⟨by first | rfl | (simp; done) | (simp [*]; done), by repeat (first | exact Drawn0.refl _ | apply Drawn0.step)⟩

end Go.Proofs.Ythjnkapkhphpeaa.P
end
section
namespace Go.Proofs.Ythjnkapkhphpeaa.P
open Go.RowKit Go.Proofs.YthjnkapkhphpeaaW.PrintWords Go.Proofs.YthjnkapkhphpeaaW.PrintLast Go.Proofs.YthjnkapkhphpeaaW.PrintMore
set_option linter.unusedVariables false
set_option linter.unusedSimpArgs false
theorem w64 {x : Int} (h0 : -9223372036854775808 ≤ x) (h1 : x ≤ 9223372036854775807) : wrap64 x = x := by unfold wrap64; omega
/-- A number's four bytes, the lowest first. -/
def le4 (n : Int) : List Int := [n % 256, n / 256 % 256, n / 65536 % 256, n / 16777216 % 256]
def le (n w : Int) : List Int := (le4 n).take w.toNat
theorem pow4 {w : Int} (h1 : 1 ≤ w) (h4 : w ≤ 4) : w = 1 ∨ w = 2 ∨ w = 3 ∨ w = 4 := by omega
theorem Put_val (k : Nat) (n w : Int) (h1 : 1 ≤ w) (h4 : w ≤ 4) (h0 : 0 ≤ n) (hn : n < 256 ^ w.toNat) : num_Put.f (k + 6) n w = some (le n w) := by
  rcases pow4 h1 h4 with rfl | rfl | rfl | rfl
  all_goals
    simp at hn
    have hz : ¬ n < 0 := by omega
    simp [num_Put.f, num_isWide.f, num_Put.j0, num_Put.l0, wrap64, shr, hz, IntKind.bits, le, le4]
    omega
theorem Put_none (k : Nat) (n w : Int) (h : ¬ (1 ≤ w ∧ w ≤ 4 ∧ 0 ≤ n ∧ n < 256 ^ w.toNat)) : num_Put.f (k + 6) n w = some [] := by
  by_cases h1 : 1 ≤ w
  · by_cases h4 : w ≤ 4
    · by_cases h0 : 0 ≤ n
      · have hn : ¬ n < 256 ^ w.toNat := fun hn => h ⟨h1, h4, h0, hn⟩
        rcases pow4 h1 h4 with rfl | rfl | rfl | rfl
        all_goals
          simp at hn
          have hz : ¬ n < 0 := by omega
          simp [num_Put.f, num_isWide.f, num_Put.j0, wrap64, shr, hz, IntKind.bits]
          omega
      · simp [num_Put.f, num_isWide.f, num_Put.j0, h1, h4, show n < 0 by omega]
    · simp [num_Put.f, num_isWide.f, num_Put.j0, h1, h4]
  · simp [num_Put.f, num_isWide.f, num_Put.j0, h1]
theorem or_comm64 (x y : Int) : Go.bits .or .i64 x y = Go.bits .or .i64 y x := by
  simp only [Go.bits]
  rw [BitVec.or_comm]
theorem wrap_i64 (n : Int) (h0 : 0 ≤ n) (h1 : n < 2 ^ 63) : IntKind.i64.wrap n = n := by rw [IntKind.wrap_i64]; omega
theorem or_shl (x b : Int) (i : Nat) (hi : i ≤ 3) (h0 : 0 ≤ x) (h1 : x < 2 ^ (8 * i)) (hb : 0 ≤ b) (hb1 : b < 256) : Go.bits .or .i64 x (shl .i64 (wrap64 b) ((8 * i : Nat) : Int)) = x + 2 ^ (8 * i) * b := by
  have e : shl .i64 (wrap64 b) ((8 * i : Nat) : Int) = 2 ^ (8 * i) * b := by
    rw [w64 (by omega) (by omega)]
    unfold shl
    rw [Int.toNat_natCast, Nat.min_eq_left (by simp [IntKind.bits]; omega), Int.mul_comm]
    rcases (show i = 0 ∨ i = 1 ∨ i = 2 ∨ i = 3 by omega) with rfl | rfl | rfl | rfl <;> simp <;> rw [wrap_i64 _ (by omega) (by omega)]
  rw [e, or_comm64]
  have hj : ∀ m : Nat, m ≤ 24 → (2 : Int) ^ m * b % 2 ^ m = 0 := fun m _ => Int.mul_emod_right _ _
  have hz := hj (8 * i) (by omega)
  have hlt : (2 : Int) ^ (8 * i) * b < 2 ^ 63 ∧ 0 ≤ (2 : Int) ^ (8 * i) * b ∧ (2 : Int) ^ (8 * i) < 2 ^ 63 := by
    rcases (show i = 0 ∨ i = 1 ∨ i = 2 ∨ i = 3 by omega) with rfl | rfl | rfl | rfl <;> simp <;> omega
  rw [bits_join .i64 63 (by decide) wrap_i64 (8 * i) _ x hlt.2.1 hz hlt.1 h0 h1 (by omega)]
  omega
theorem lt_of_all {l : List Int} (hb : ∀ x ∈ l, 0 ≤ x ∧ x < 256) (i : Int) : 0 ≤ rd l i ∧ rd l i < 256 := by
  unfold rd
  rw [List.getD_eq_getElem?_getD]
  cases h : l[i.toNat]? with
  | none => simp
  | some x => simpa using hb x (List.mem_of_getElem? h)
/-- The number of w bytes that stands there. -/
def lev (l : List Int) (a w : Int) : Int := rd l a + (if 1 < w then 256 * rd l (a + 1) else 0) + (if 2 < w then 65536 * rd l (a + 2) else 0) + (if 3 < w then 16777216 * rd l (a + 3) else 0)
theorem Take_val (k : Nat) (l : List Int) (a w : Int) (hl : l.length ≤ 140737488355328) (hb : ∀ x ∈ l, 0 ≤ x ∧ x < 256) (h1 : 1 ≤ w) (h4 : w ≤ 4) (h0 : 0 ≤ a) (ha : a + w ≤ l.length) : num_Take.f (k + 6) l a w = some (lev l a w, a + w, 0) := by
  have b0 := lt_of_all hb a
  have b1 := lt_of_all hb (a + 1)
  have b2 := lt_of_all hb (a + 2)
  have b3 := lt_of_all hb (a + 3)
  have hz : ¬ a < 0 := by omega
  have hz2 : ¬ (l.length : Int) < a := by omega
  have e0 := or_shl 0 (rd l a) 0 (by omega) (by omega) (by omega) b0.1 b0.2
  have e1 := or_shl (rd l a) (rd l (a + 1)) 1 (by omega) b0.1 (by omega) b1.1 b1.2
  have e2 := or_shl (rd l a + 256 * rd l (a + 1)) (rd l (a + 2)) 2 (by omega) (by omega) (by omega) b2.1 b2.2
  have e3 := or_shl (rd l a + 256 * rd l (a + 1) + 65536 * rd l (a + 2)) (rd l (a + 3)) 3 (by omega) (by omega) (by omega) b3.1 b3.2
  simp at e0 e1 e2 e3
  have ew : wrap64 ((l.length : Int) - a) = l.length - a := w64 (by omega) (by omega)
  have c0 : a < l.length := by omega
  have q0 : wrap64 a = a := w64 (by omega) (by omega)
  have q1 : wrap64 (a + 1) = a + 1 := w64 (by omega) (by omega)
  have q2 : wrap64 (a + 2) = a + 2 := w64 (by omega) (by omega)
  have q3 : wrap64 (a + 3) = a + 3 := w64 (by omega) (by omega)
  have q4 : wrap64 (a + 4) = a + 4 := w64 (by omega) (by omega)
  have v1 : (0 : Int) ≤ a + 1 := by omega
  have v2 : (0 : Int) ≤ a + 2 := by omega
  have v3 : (0 : Int) ≤ a + 3 := by omega
  rcases pow4 h1 h4 with rfl | rfl | rfl | rfl
  · have hz3 : ¬ (l.length : Int) - a < 1 := by omega
    simp [num_Take.f, num_isWide.f, num_Take.j0, num_Take.l0, hz, hz2, ew, hz3, w64, h0, c0, e0, lev, q0, q1, q2, q3, q4]
  · have hz3 : ¬ (l.length : Int) - a < 2 := by omega
    have c1 : a + 1 < l.length := by omega
    simp [num_Take.f, num_isWide.f, num_Take.j0, num_Take.l0, hz, hz2, ew, hz3, w64, h0, c0, c1, e0, e1, lev, q0, q1, q2, q3, q4, v1]
  · have hz3 : ¬ (l.length : Int) - a < 3 := by omega
    have c1 : a + 1 < l.length := by omega
    have c2 : a + 2 < l.length := by omega
    simp [num_Take.f, num_isWide.f, num_Take.j0, num_Take.l0, hz, hz2, ew, hz3, w64, h0, c0, c1, c2, e0, e1, e2, lev, q0, q1, q2, q3, q4, v1, v2]
  · have hz3 : ¬ (l.length : Int) - a < 4 := by omega
    have c1 : a + 1 < l.length := by omega
    have c2 : a + 2 < l.length := by omega
    have c3 : a + 3 < l.length := by omega
    simp [num_Take.f, num_isWide.f, num_Take.j0, num_Take.l0, hz, hz2, ew, hz3, w64, h0, c0, c1, c2, c3, e0, e1, e2, e3, lev, q0, q1, q2, q3, q4, v1, v2, v3]
theorem Take_none (k : Nat) (l : List Int) (a w : Int) (hl : l.length ≤ 140737488355328) (hw : -9223372036854775808 ≤ w) (h : ¬ (1 ≤ w ∧ w ≤ 4 ∧ 0 ≤ a ∧ a + w ≤ l.length)) : num_Take.f (k + 6) l a w = some (0, 0, 2) := by
  by_cases h1 : 1 ≤ w
  · by_cases h4 : w ≤ 4
    · by_cases h0 : 0 ≤ a
      · by_cases h2 : (l.length : Int) < a
        · simp [num_Take.f, num_isWide.f, num_Take.j0, h1, h4, show ¬ a < 0 by omega, h2]
        · have ew : wrap64 ((l.length : Int) - a) = l.length - a := w64 (by omega) (by omega)
          simp [num_Take.f, num_isWide.f, num_Take.j0, h1, h4, show ¬ a < 0 by omega, h2, ew]
          omega
      · simp [num_Take.f, num_isWide.f, num_Take.j0, h1, h4, show a < 0 by omega]
    · simp [num_Take.f, num_isWide.f, num_Take.j0, h1, h4]
  · simp [num_Take.f, num_isWide.f, num_Take.j0, h1]
end Go.Proofs.Ythjnkapkhphpeaa.P
end
section
namespace Go.Proofs.Ythjnkapkhphpeaa.P
open Go.RowKit Go.Proofs.YthjnkapkhphpeaaW.PrintWords Go.Proofs.YthjnkapkhphpeaaW.PrintLast Go.Proofs.YthjnkapkhphpeaaW.PrintMore
set_option linter.unusedVariables false
set_option linter.unusedSimpArgs false
def crc (l : List Int) : Int := wrap64 (Go.bits .xor .u32 IntKind.u32.max (regI l))
def pad (l : List Int) : List Int := l ++ List.replicate (36 - l.length) 0
def zs40 : List Value := List.replicate 40 (.int .u8 0)
theorem splice_pad (l0 : List Int) (h : l0.length ≤ 36) : (splice zs40 0 (encs (Value.int .u8) l0)).take 36 = encs (Value.int .u8) (pad l0) := by
  simp only [splice, List.take_zero, List.nil_append, Nat.zero_add, zs40, encs, pad, List.length_map, List.drop_replicate, List.map_append, List.map_replicate]
  rw [List.take_append, List.length_map, List.take_of_length_le (by simpa using h), List.take_replicate]
  congr 2
  omega
theorem crc_bd (l : List Int) : 0 ≤ crc l ∧ crc l < 4294967296 := by
  unfold crc
  have := xor_bd IntKind.u32.max (regI l)
  rw [w64 (by omega) (by omega)]
  exact this
def num_Seal.f (l0 : List Int) : Option (ByteArray × Int) := if 36 < l0.length then some (⟨#[]⟩, 1) else some (strOfNums (pad l0 ++ le (crc (pad l0)) 4), 0)
set_option maxHeartbeats 4000000 in
set_option maxRecDepth 100000 in
theorem num_Seal.calls (A0 : Option Addr) (c0 : Nat) (l0 : List Int) (r1 : ByteArray) (r2 : Int) (w : World) (hr0 : Kd.C (Kd.int .u8) w A0 l0.length l0) (hc0 : l0.length ≤ c0) (h : num_Seal.f l0 = some (r1, r2)) :
    Calls Try.prog 44 #[.slice A0 l0.length c0] w fun e w' => e = .returned (.tuple #[.string r1, .int .i64 r2]) ∧ Below w.heap.size w w' := by
  have HR0 := Aside0.mk hr0
  have HC0 := Aside0.mk hc0
  have HH := Aside0.mk h
  clear hr0 hc0 h
  by_cases hl : 36 < l0.length
  · go_enter Try.func44, Try.ntmps44
    go_wp2
    go_ret2
    have H := HH.out
    simp [num_Seal.f, hl] at H
    obtain ⟨rfl, rfl⟩ := H
    exact ⟨rfl, Below.refl _ _⟩
  · have hmk : ∀ w, (Instr.makeSlice 24 (.int .i64 36) (.int .i64 40)).run Try.prog w = .ok (.slice (some ⟨w.heap.size, 0, none⟩) 36 40) (w.alloc (.cells zs40.toArray 5)) := fun _ => by kernel_rfl
    have hlz : zs40.length = 40 := rfl
    go_enter Try.func44, Try.ntmps44
    go_wp2_with (with_reducible refine wpList_copy_splice rfl (.tmp 9) (.tmp 10) 24 24 rfl 5 Try.underlying24 (by kernel_rfl) _ _ 36 40 l0.length c0 rfl rfl w.heap.size 0 zs40 5 ?c1 (encs (Value.int .u8) l0) ?c2 ?c3 ?c4 ?c5 w.heap.size w ?c6 (Nat.le_refl _) ?_)
    case c1 =>
      show (w.heap.push (.cells zs40.toArray 5))[w.heap.size]? = _
      simp
    case c2 =>
      show _ = min l0.length 36
      simp [encs]
      omega
    case c3 =>
      intro hp
      have hp2 : 0 < l0.length := by simpa [encs] using hp
      have hp' : (0 : Int) < l0.length := by omega
      obtain ⟨ad, hA, _⟩ := Kd.at_int HR0.out 0 (by omega) hp'
      refine ⟨ad, hA, fun j v hv => ?_⟩
      have hj : j < l0.length := by have := (List.getElem?_eq_some_iff.1 hv).1; simpa [encs] using this
      obtain ⟨ad', hA', hc⟩ := Kd.at_int HR0.out j (by omega) (by omega)
      rw [hA] at hA'
      injection hA' with hA'
      subst hA'
      rw [Int.toNat_natCast] at hc
      have he := encs_get (enc := Value.int .u8) (d := (0 : Int)) l0 j hj
      rw [he] at hv
      injection hv with hv
      rw [← hv]
      have hlt := World.block_lt_of_cell? w _ hc
      rw [World.cell?_alloc_lt _ _ _ hlt, hc]
      simp [rd]
    case c4 => rw [hlz]; simp [encs]; omega
    case c5 => intro v hv; simp [encs] at hv; obtain ⟨a, _, rfl⟩ := hv; rfl
    case c6 => exact (Below.refl _ _).alloc (Nat.le_refl _) _
    intro w1 hg1 hb1
    have HB1 := Aside0.mk hb1
    have HO : Aside0 (Kd.R (Kd.int .u8) 5 w1 w.heap.size (fun _ => True) (.slice (some ⟨w.heap.size, 0, none⟩) 36 40) (pad l0)) := by
      refine ⟨?_⟩
      have hp : (pad l0).length = 36 := by simp [pad]; omega
      refine Kd.R_of_own ?_ (fun _ _ => trivial)
      rw [hp]
      refine ⟨by simp [encs, hp], .inr ⟨w.heap.size, 40, _, rfl, Nat.le_refl _, hg1.out, by omega, by simp [maxLen], ?_, ?_⟩⟩
      · simp [length_splice, splice, zs40, encs]; omega
      · rw [Nat.mul_one]
        exact splice_pad l0 (by omega)
    clear hg1 hb1
    have hpl : (pad l0).length = 36 := by simp [pad]; omega
    obtain ⟨A1, c1, hv1, hc1, hC1⟩ := Kd.R_reads HO.out
    rw [hpl] at hv1 hC1 hc1
    injection hv1 with hA1 _ hcc1
    subst hA1; subst hcc1
    have hs := sum_walk (some ⟨w.heap.size, 0, none⟩) 40 (pad l0) w1 (by rw [hpl]; exact hC1) (by omega) (by omega)
    rw [hpl] at hs
    go_wp2_with fail
    refine hs.mono ?_
    rintro e w2 ⟨rfl, ⟨nd, rfl⟩⟩
    have hcb := crc_bd (pad l0)
    have hput := num_Put.calls 6 (crc (pad l0)) 4 _ (w1.drewN nd) (Put_val 0 _ 4 (by omega) (by omega) hcb.1 (by simpa using hcb.2))
    go_wp2_with fail
    refine hput.mono ?_
    rintro e w3 ⟨v3, rfl, hR3, hb3⟩
    obtain ⟨A3, c3, rfl, hc3, hC3⟩ := Kd.R_reads hR3
    have HR3 := Aside0.mk hR3
    have HB3 := Aside0.mk hb3
    have HC3 := Aside0.mk hC3
    have HO3 := Aside0.mk (Kd.R_below (Kd.R_drewN HO.out nd) hb3)
    clear hR3 hb3 hC3 hcb hput hs
    have hll : (le (crc (pad l0)) 4).length = 4 := rfl
    go_wp2_with (at_builtin; refine Kd.R_append_rows (Kd.int .u8) (w0 := w) w.heap.size rfl (.tmp 12) (.tmp 15) 24 5 (.int .u8 0) 1 rfl Try.underlying24 info5 rfl (by decide) (by omega) (.slice (some ⟨w.heap.size, 0, none⟩) 36 40) (pad l0) (le (crc (pad l0)) 4) A3 (le (crc (pad l0)) 4).length c3 (fun _ => True) (fun _ => False) rfl rfl ?aO ?aR (fun _ _ h => h) (fun _ h => h.elim) (fun _ _ => trivial) ?aB ?aS ?aL ?_)
    case aO => exact HO3.out
    case aR => exact HC3.out
    case aB => exact (HB1.out.trans (pw_below_drewN (Below.refl _ _) nd)).trans (HB3.out.mono HB1.out.size)
    case aS => exact Nat.le_trans HB1.out.size HB3.out.size
    case aL => rw [hpl, hll]; omega
    intro v4 w4 hR4 hB4 hg4 hv4
    obtain ⟨L, hL⟩ : ∃ L, pad l0 ++ le (crc (pad l0)) 4 = L := ⟨_, rfl⟩
    rw [hL] at hR4
    have HL := Aside0.mk hL
    clear hL
    obtain ⟨A4, c4, rfl, hc4, hC4⟩ := Kd.R_reads hR4
    have hcv := Kd.C_string (P := Try.prog) (A := A4) (c := c4) Try.underlying24 Try.underlying5 Try.underlying9 hC4
    have HB4 := Aside0.mk hB4
    clear hR4 hg4 hv4 hB4 hC4
    go_wp2
    go_ret2
    have H := HH.out
    simp only [num_Seal.f, if_neg hl, Option.some.injEq, Prod.mk.injEq] at H
    obtain ⟨rfl, rfl⟩ := H
    exact ⟨by rw [HL.out]; rfl, HB4.out⟩
end Go.Proofs.Ythjnkapkhphpeaa.P
end
section
/- '[]byte(s)': the row that it lays, as a row that is read. -/
namespace Go.Proofs.Ythjnkapkhphpeaa.P
set_option linter.unusedVariables false
set_option linter.unusedSimpArgs false
open Go.RowKit Go.Proofs.YthjnkapkhphpeaaW.PrintWords Go.Proofs.YthjnkapkhphpeaaW.PrintLast Go.Proofs.YthjnkapkhphpeaaW.PrintMore
section
variable {P : Program} {ops : Array Oper} {rest : List Oper} {o : Oper} {a : Act} {Q : Exit → Act → World → Prop}
theorem bytes_below {base : Nat} {w0 W : World} (e : TypeId) (s : ByteArray) (HB : Below base w0 W) (hbase : base ≤ W.heap.size) : Below base w0 (Lib.bytesWorld W e s) :=
  HB.trans ⟨by simp [Lib.bytesWorld, World.freeze]; rfl, by simp [Lib.bytesWorld, World.freeze], by simp [Lib.bytesWorld, World.freeze]; rfl, by rw [Lib.bytesWorld_size]; omega, fun k hk => Lib.bytesWorld_at_old W e s k (by omega)⟩
theorem bytes_foot (W : World) (e : TypeId) (s : ByteArray) (hm : s.size ≤ 9223372036854775807) : Kd.F (Kd.int .u8) (Lib.bytesWorld W e s) (fun k => W.heap.size ≤ k) (some ⟨W.heap.size, 0, none⟩) (bytesOf s).length (bytesOf s) := by
  intro W' hW'
  have hb := hW' W.heap.size (Nat.le_refl _) (by rw [Lib.bytesWorld_size]; omega)
  refine Kd.C_of_reads (d := (0 : Int)) ?_
  refine ⟨rfl, by rw [bytesOf_length]; exact hm, fun h => ⟨⟨W.heap.size, 0, none⟩, rfl, fun j hj => ?_⟩⟩
  rw [bytesOf_length] at hj
  rw [add_plain]
  have h1 : W'.cell? ⟨W.heap.size, j, none⟩ = (Lib.bytesWorld W e s).cell? ⟨W.heap.size, j, none⟩ := World.cell?_of_block (a := ⟨W.heap.size, j, none⟩) hb
  rw [h1, Lib.bytesWorld_cell W e s j hj]
  have hj' : j < s.data.toList.length := by rw [data_length]; exact hj
  have hj2 : j < s.data.size := hj
  simp [bytesOf, List.getD_eq_getElem?_getD]
  rw [Array.getElem?_eq_getElem hj2]
  rfl
theorem V_conv {w0 W : World} (base : Nat) (hgd : o.guard = none) (src dst e : TypeId) (x : Operand) (ho : o.op = .convert src dst x) (s : ByteArray) (hx : a.eval x = .string s) {u : TypeDesc}
    (hs : P.underlying src = some u) (hd : P.underlying dst = some (.slice e)) (he : P.underlying e = some (.int .u8)) (hm : s.size ≤ 9223372036854775807) (HB : Below base w0 W) (hbase : base ≤ W.heap.size)
    (h : ∀ v1 w1, Kd.V (Kd.int .u8) e w1 base (fun k => W.heap.size ≤ k) v1 (bytesOf s) → Below base w0 w1 → W.grownBy w1 none → wpList P ops Q rest (a.put o.dst v1) w1) : wpList P ops Q (o :: rest) a W := by
  refine Go.Proofs.YthjnkapkhphpeaaW.PrintWords.Kd.event_run (w1 := Lib.bytesWorld W e s) (v := .slice (some ⟨W.heap.size, 0, none⟩) (bytesOf s).length (grownCap W s.size 0 e)) hgd ?_ (h _ _ ?_ (bytes_below e s HB hbase) ?_)
  · rw [bytesOf_length]
    simp [execOp, ho, hx, Lib.run_convert_string_bytes W src dst e s hs hd he]
  · exact Kd.V_mk (by rw [bytesOf_length]; exact grownCap_ge _ _ _ _) (bytes_foot W e s hm)
  · have := bytes_below (base := W.heap.size) e s (Below.refl _ W) (Nat.le_refl _)
    exact ⟨this.os, this.tape, this.output, this.size, fun k hk _ => this.block k hk⟩
end
end Go.Proofs.Ythjnkapkhphpeaa.P
end
section
namespace Go.Proofs.Ythjnkapkhphpeaa.P
open Go.RowKit Go.Proofs.YthjnkapkhphpeaaW.PrintWords Go.Proofs.YthjnkapkhphpeaaW.PrintLast Go.Proofs.YthjnkapkhphpeaaW.PrintMore
set_option linter.unusedVariables false
set_option linter.unusedSimpArgs false
/-- Is it a sealed block? -/
def isSealed (b : List Int) : Bool := decide (b.length = 40) && decide (lev b 36 4 = crc (b.take 36))
def num_Open.f (a0 : ByteArray) : Option (List Int × Int) := if isSealed (bytesOf a0) = true then some ((bytesOf a0).take 36, 0) else some ([], 2)
theorem bytesOf_bd (s : ByteArray) : ∀ x ∈ bytesOf s, 0 ≤ x ∧ x < 256 := by
  intro x hx
  simp only [bytesOf, List.mem_map] at hx
  obtain ⟨b, _, rfl⟩ := hx
  have := b.toNat_lt
  omega
set_option maxHeartbeats 4000000 in
set_option maxRecDepth 100000 in
theorem num_Open.calls (a0 : ByteArray) (r1 : List Int) (r2 : Int) (w : World) (h : num_Open.f a0 = some (r1, r2)) :
    Calls Try.prog 47 #[.string a0] w fun e w' => ∃ v0_ : Value, e = .returned (.tuple #[v0_, .int .i64 r2]) ∧ Kd.V (Kd.int .u8) 5 w' w.heap.size (fun k_ => w.heap.size ≤ k_) v0_ r1 ∧ Below w.heap.size w w' := by
  have HH := Aside0.mk h
  clear h
  by_cases h40 : a0.size = 40
  · have hb : (bytesOf a0).length = 40 := by rw [bytesOf_length]; exact h40
    have h40b : ((a0.size : Int) != 40) = false := by rw [h40]; rfl
    go_enter Try.func47, Try.ntmps47
    go_wp2_with ((with_reducible refine gate_dst (N := 12) rfl ?_); refine V_conv (w0 := w) w.heap.size rfl 9 24 5 (.tmp 11) rfl a0 rfl Try.underlying9 Try.underlying24 Try.underlying5 (by omega) (Below.refl _ _) (Nat.le_refl _) ?_)
    intro v1 w1 hV hB hg
    clear hg
    obtain ⟨A1, c1, rfl, hc1, hF⟩ := hV
    have HF := Aside0.mk hF
    have HB := Aside0.mk hB
    clear hF hB
    rw [hb] at hc1
    have HC := Aside0.mk (Kd.F_now HF.out)
    have hbd := bytesOf_bd a0
    have htk := num_Take.calls 6 A1 c1 (bytesOf a0) 36 4 _ _ _ w1 HC.out (by omega) (Take_val 0 _ 36 4 (by omega) hbd (by omega) (by omega) (by omega) (by omega))
    obtain ⟨x, hx⟩ : ∃ x, lev (bytesOf a0) 36 4 = x := ⟨_, rfl⟩
    rw [hx] at htk
    have HX := Aside0.mk hx
    clear hx hbd
    rw [hb]
    rw [hb] at htk
    go_wp2_with fail
    refine htk.mono ?_
    rintro e w2 ⟨rfl, ⟨nd, rfl⟩⟩
    clear htk
    have hlt : ((bytesOf a0).take 36).length = 36 := by rw [List.length_take, hb]; rfl
    have hsm := sum_walk A1 c1 ((bytesOf a0).take 36) (w1.drewN nd) (Kd.C_drewN (Kd.C_take HC.out (by omega)) nd) (by omega) (by omega)
    rw [hlt] at hsm
    obtain ⟨y, hy⟩ : ∃ y, crc ((bytesOf a0).take 36) = y := ⟨_, rfl⟩
    have HY := Aside0.mk hy
    have hsm' : Calls Try.prog 52 #[.slice A1 36 c1] (w1.drewN nd) fun e w' => e = .returned (.int .i64 y) ∧ Drawn0 (w1.drewN nd) w' := by rw [← hy]; exact hsm
    clear hsm hy hlt hb
    go_wp2_with fail
    refine hsm'.mono ?_
    rintro e w2 ⟨rfl, ⟨nd2, rfl⟩⟩
    clear hsm'
    by_cases hxy : x = y
    · have hxb : (x != y) = false := by rw [hxy]; simp
      have HXY := Aside0.mk hxy
      clear hxy
      go_wp2
      have H := HH.out
      have hb : (bytesOf a0).length = 40 := by rw [bytesOf_length]; exact h40
      have hlt : ((bytesOf a0).take 36).length = 36 := by rw [List.length_take, hb]; rfl
      have hns : isSealed (bytesOf a0) = true := by simp [isSealed, HX.out, HY.out, HXY.out, hb]
      simp only [num_Open.f, hns, if_true, Option.some.injEq, Prod.mk.injEq] at H
      obtain ⟨rfl, rfl⟩ := H
      have hV : Kd.V (Kd.int .u8) 5 w1 w.heap.size (fun k_ => w.heap.size ≤ k_) (.slice A1 ((bytesOf a0).take 36).length 36) ((bytesOf a0).take 36) := Kd.V_mk (by omega) (Kd.F_take HF.out (by omega))
      rw [hlt] at hV
      go_ret2
      exact ⟨_, rfl, Kd.V_drewN hV _, pw_below_drewN HB.out _⟩
    · have hxb : (x != y) = true := by rw [bne_iff_ne]; exact hxy
      have HXY := Aside0.mk hxy
      clear hxy
      go_wp2
      have H := HH.out
      have hns : isSealed (bytesOf a0) = false := by simp [isSealed, HX.out, HY.out, HXY.out]
      simp only [num_Open.f, hns, Bool.false_eq_true, if_false, Option.some.injEq, Prod.mk.injEq] at H
      obtain ⟨rfl, rfl⟩ := H
      go_ret2
      exact ⟨_, rfl, Kd.V_nil _ _ _ _ _, pw_below_drewN HB.out _⟩
  · have h40b : ((a0.size : Int) != 40) = true := by rw [bne_iff_ne]; omega
    go_enter Try.func47, Try.ntmps47
    go_wp2
    have H := HH.out
    have hns : isSealed (bytesOf a0) = false := by simp [isSealed, bytesOf_length, h40]
    simp only [num_Open.f, hns, Bool.false_eq_true, if_false, Option.some.injEq, Prod.mk.injEq] at H
    obtain ⟨rfl, rfl⟩ := H
    go_ret2
    exact ⟨_, rfl, Kd.V_nil _ _ _ _ _, Below.refl _ _⟩
end Go.Proofs.Ythjnkapkhphpeaa.P
end
section
-- Written by a program of this session (xprint.py, over the kit's print). Not trusted: Lean checks it.
namespace Go.Proofs.Ythjnkapkhphpeaa.P
open Go.RowKit Go.Proofs.YthjnkapkhphpeaaW.PrintWords Go.Proofs.YthjnkapkhphpeaaW.PrintLast Go.Proofs.YthjnkapkhphpeaaW.PrintMore
attribute [local go_sem] max2_int min2_int max_two min_two max_three min_three max_four min_four   -- for this text's walks alone
set_option linter.unusedVariables false
set_option linter.unusedSimpArgs false

/-! ### assartref01_Take: function 51 -/
mutual
def assartref01_Take.j0 : Nat → List Int → Int → Int → Bool → Option (Int × Int × Int)
  | 0, _, _, _, _ => none
  | k + 1, x0, x1, x2, x34 => if x34 = true then (some (0, 0, 2)) else (assartref01_Take.l0 k x0 x1 x2 0 (wrap64 (x2 - 1)))
def assartref01_Take.l0 : Nat → List Int → Int → Int → Int → Int → Option (Int × Int × Int)
  | 0, _, _, _, _, _ => none
  | k + 1, x0, x1, x2, x9, x10 => if x10 ≥ 0 then (if 0 ≤ (wrap64 (x1 + x10)) then (if (wrap64 (x1 + x10)) < (x0.length : Int) then (assartref01_Take.l0 k x0 x1 x2 (wrap64 ((wrap64 (x9 * 256)) + (wrap64 (rd x0 (wrap64 (x1 + x10)))))) (wrap64 (x10 - 1))) else (none)) else (none)) else (some (x9, wrap64 (x1 + x2), 0))
end
def assartref01_Take.f (k : Nat) (l0 : List Int) (a1 : Int) (a2 : Int) : Option (Int × Int × Int) := if a2 < 1 then (assartref01_Take.j0 k l0 a1 a2 true) else (if a2 > 4 then (assartref01_Take.j0 k l0 a1 a2 true) else (if a1 < 0 then (assartref01_Take.j0 k l0 a1 a2 true) else (if a1 > (l0.length : Int) then (assartref01_Take.j0 k l0 a1 a2 true) else (assartref01_Take.j0 k l0 a1 a2 (decide ((wrap64 ((l0.length : Int) - a1)) < a2))))))
theorem assartref01_Take.mono_l : ∀ k, (∀ y0 y1 y2 y3, LeO (assartref01_Take.j0 k y0 y1 y2 y3) (assartref01_Take.j0 (k + 1) y0 y1 y2 y3)) ∧ (∀ y0 y1 y2 y3 y4, LeO (assartref01_Take.l0 k y0 y1 y2 y3 y4) (assartref01_Take.l0 (k + 1) y0 y1 y2 y3 y4))
  | 0 => ⟨fun _ _ _ _ r h => by simp [assartref01_Take.j0] at h, fun _ _ _ _ _ r h => by simp [assartref01_Take.l0] at h⟩
  | k + 1 => by
    obtain ⟨ih0, ih1⟩ := assartref01_Take.mono_l k
    refine ⟨?_, ?_⟩
    · intro y0 y1 y2 y3
      unfold assartref01_Take.j0
      repeat' first
      | (with_reducible exact ih0 _ _ _ _)
      | (with_reducible exact ih1 _ _ _ _ _)
      | (with_reducible exact LeO.refl _)
      | (with_reducible exact LeO.none _)
      | (with_reducible refine LeO.ite ?_ ?_)
      | (with_reducible refine LeO.bind ?_ (fun _ => ?_))
      | exact ih0 _ _ _ _
      | exact ih1 _ _ _ _ _
      | exact LeO.none _
      | refine LeO.ite ?_ ?_
      | refine LeO.bind ?_ (fun _ => ?_)
    · intro y0 y1 y2 y3 y4
      unfold assartref01_Take.l0
      repeat' first
      | (with_reducible exact ih0 _ _ _ _)
      | (with_reducible exact ih1 _ _ _ _ _)
      | (with_reducible exact LeO.refl _)
      | (with_reducible exact LeO.none _)
      | (with_reducible refine LeO.ite ?_ ?_)
      | (with_reducible refine LeO.bind ?_ (fun _ => ?_))
      | exact ih0 _ _ _ _
      | exact ih1 _ _ _ _ _
      | exact LeO.none _
      | refine LeO.ite ?_ ?_
      | refine LeO.bind ?_ (fun _ => ?_)
theorem assartref01_Take.mono : ∀ a0 a1 a2 k, LeO (assartref01_Take.f k a0 a1 a2) (assartref01_Take.f (k + 1) a0 a1 a2) := by
  intro a0 a1 a2 k
  obtain ⟨ih0, ih1⟩ := assartref01_Take.mono_l k
  unfold assartref01_Take.f
  repeat' first
      | (with_reducible exact ih0 _ _ _ _)
      | (with_reducible exact ih1 _ _ _ _ _)
      | (with_reducible exact LeO.refl _)
      | (with_reducible exact LeO.none _)
      | (with_reducible refine LeO.ite ?_ ?_)
      | (with_reducible refine LeO.bind ?_ (fun _ => ?_))
      | exact ih0 _ _ _ _
      | exact ih1 _ _ _ _ _
      | exact LeO.none _
      | refine LeO.ite ?_ ?_
      | refine LeO.bind ?_ (fun _ => ?_)
set_option maxHeartbeats 8000000 in
set_option maxRecDepth 100000 in
theorem assartref01_Take.calls (k : Nat) (A0 : Option Addr) (c0 : Nat) (l0 : List Int) (a1 : Int) (a2 : Int) (r1 : Int) (r2 : Int) (r3 : Int) (w : World) (hr0 : Kd.C (Kd.int .u8) w A0 l0.length l0) (hc0 : l0.length ≤ c0) (h : assartref01_Take.f k l0 a1 a2 = some (r1, r2, r3)) :
    Calls Try.prog 51 #[.slice A0 l0.length c0, .int .i64 a1, .int .i64 a2] w fun e w' => e = .returned (.tuple #[.int .i64 r1, .int .i64 r2, .int .i64 r3]) ∧ Drawn0 w w' := by
  have HR0 := Aside0.mk hr0
  have HC0 := Aside0.mk hc0
  clear hr0 hc0
  have H : (if a2 < 1 then (assartref01_Take.j0 k l0 a1 a2 true) else (if a2 > 4 then (assartref01_Take.j0 k l0 a1 a2 true) else (if a1 < 0 then (assartref01_Take.j0 k l0 a1 a2 true) else (if a1 > (l0.length : Int) then (assartref01_Take.j0 k l0 a1 a2 true) else (assartref01_Take.j0 k l0 a1 a2 (decide ((wrap64 ((l0.length : Int) - a1)) < a2))))))) = some (r1, r2, r3) := h
  clear h
  have HC4 := Aside0.mk H
  clear H
  go_enter Try.func51, Try.ntmps51
  go_upto_region 1 with (fail)
  go_cut [34] (fun v34 wc => ∃ (kq : Nat) (x34_3 : Bool), v34 = .bool x34_3 ∧ Aside0 (assartref01_Take.j0 kq l0 a1 a2 x34_3 = some (r1, r2, r3)) ∧ Aside0 (kq ≤ k) ∧ Drawn0 w wc)
  case first =>
    have H := HC4.out
    clear HC4
    by_cases c5 : a2 < 1
    · rw [if_pos c5] at H
      have c5b0 : decide (a2 < 1) = true := decide_eq_true c5
      clear c5
      (first | rw [c5b0] | (simp only [i64_w, i32_w]; rw [c5b0]) | skip)
      have H' := Aside0.mk H
      clear H
      go_wp2
      go_meet
      case rel => exact ⟨_, (true), (by first | rfl | (simp; done) | (simp [*]; done)), H', ⟨by first | omega | exact Nat.le_refl _⟩, by repeat (first | exact Drawn0.refl _ | apply Drawn0.step)⟩
    · rw [if_neg c5] at H
      have c5b0 : decide (a2 < 1) = false := decide_eq_false c5
      clear c5
      (first | rw [c5b0] | (simp only [i64_w, i32_w]; rw [c5b0]) | skip)
      by_cases c6 : a2 > 4
      · rw [if_pos c6] at H
        have c6b0 : decide (4 < a2) = true := decide_eq_true c6
        clear c6
        have H' := Aside0.mk H
        clear H
        go_wp2
        go_meet
        case rel => exact ⟨_, (true), (by first | rfl | (simp; done) | (simp [*]; done)), H', ⟨by first | omega | exact Nat.le_refl _⟩, by repeat (first | exact Drawn0.refl _ | apply Drawn0.step)⟩
      · rw [if_neg c6] at H
        have c6b0 : decide (4 < a2) = false := decide_eq_false c6
        clear c6
        by_cases c7 : a1 < 0
        · rw [if_pos c7] at H
          have c7b0 : decide (a1 < 0) = true := decide_eq_true c7
          clear c7
          have H' := Aside0.mk H
          clear H
          go_wp2
          go_meet
          case rel => exact ⟨_, (true), (by first | rfl | (simp; done) | (simp [*]; done)), H', ⟨by first | omega | exact Nat.le_refl _⟩, by repeat (first | exact Drawn0.refl _ | apply Drawn0.step)⟩
        · rw [if_neg c7] at H
          have c7b0 : decide (a1 < 0) = false := decide_eq_false c7
          clear c7
          by_cases c8 : a1 > (l0.length : Int)
          · rw [if_pos c8] at H
            have c8b0 : decide ((l0.length : Int) < a1) = true := decide_eq_true c8
            clear c8
            have H' := Aside0.mk H
            clear H
            go_wp2
            go_meet
            case rel => exact ⟨_, (true), (by first | rfl | (simp; done) | (simp [*]; done)), H', ⟨by first | omega | exact Nat.le_refl _⟩, by repeat (first | exact Drawn0.refl _ | apply Drawn0.step)⟩
          · rw [if_neg c8] at H
            have c8b0 : decide ((l0.length : Int) < a1) = false := decide_eq_false c8
            clear c8
            have H' := Aside0.mk H
            clear H
            go_wp2
            go_meet
            case rel => exact ⟨_, (decide ((wrap64 ((l0.length : Int) - a1)) < a2)), (by first | rfl | (simp; done) | (simp [*]; done)), H', ⟨by first | omega | exact Nat.le_refl _⟩, by repeat (first | exact Drawn0.refl _ | apply Drawn0.step)⟩
  case rest =>
    clear HC4
    try clear p2
    try clear c5
    try clear c5b0
    try clear c6
    try clear c6b0
    try clear p6
    try clear c7
    try clear c7b0
    try clear c8
    try clear c8b0
    obtain ⟨kq, x34_3, rfl, HA, HJ3, ⟨mc3, rfl⟩⟩ := hcut
    cases kq with
    | zero => exact absurd HA.out (by simp [assartref01_Take.j0])
    | succ kj3 =>
      have H := HA.out
      clear HA
      simp only [assartref01_Take.j0] at H
      by_cases c9 : x34_3 = true
      · subst c9
        have H1 : (some (0, 0, 2)) = some (r1, r2, r3) := by rw [if_pos rfl] at H; exact H
        clear H
        have H := H1
        clear H1
        simp only [Option.some.injEq, Prod.mk.injEq] at H
        obtain ⟨rfl, rfl, rfl⟩ := H
        go_wp2
        go_ret3
        exact ⟨by first | rfl | (simp; done) | (simp [*]; done), by repeat (first | exact Drawn0.refl _ | apply Drawn0.step)⟩
      · replace c9 := Bool.eq_false_iff.mpr c9
        subst c9
        have H1 : (assartref01_Take.l0 kj3 l0 a1 a2 0 (wrap64 (a2 - 1))) = some (r1, r2, r3) := by rw [if_neg (show ¬ (false = true) by decide)] at H; exact H
        clear H
        have H := H1
        clear H1
        have H' := Aside0.mk H
        clear H
        go_wp2
        go_loopg [9, 10] kj3 (fun kq v9 v10 w' => ∃ (x9_2 : Int) (x10_2 : Int), v9 = .int .i64 x9_2 ∧ v10 = .int .i64 x10_2 ∧ Aside0 (assartref01_Take.l0 kq l0 a1 a2 x9_2 x10_2 = some (r1, r2, r3)) ∧ Aside0 (kq ≤ kj3) ∧ Drawn0 w w')
        case atStart => exact ⟨(0), (wrap64 (a2 - 1)), (by first | rfl | (simp; done) | (simp [*]; done)), (by first | rfl | (simp; done) | (simp [*]; done)), H', ⟨Nat.le_refl _⟩, by repeat (first | exact Drawn0.refl _ | apply Drawn0.step)⟩
        case round =>
          clear H'
          try clear p2
          try clear c3
          try clear c5
          try clear c5b0
          try clear c6
          try clear c6b0
          try clear p6
          try clear c7
          try clear c7b0
          try clear c8
          try clear c8b0
          try clear c9
          try clear p2
          try clear p6
          obtain ⟨x9_2, x10_2, rfl, rfl, HA, HK2, ⟨m2, rfl⟩⟩ := hrel
          cases gk with
          | zero => exact absurd HA.out (by simp [assartref01_Take.l0])
          | succ k2 =>
            have H := HA.out
            clear HA
            simp only [assartref01_Take.l0] at H
            by_cases c10 : x10_2 ≥ 0
            · rw [if_pos c10] at H
              have c10b0 : decide (0 ≤ x10_2) = true := decide_eq_true c10
              clear c10
              obtain ⟨ji11, hji11⟩ : ∃ j_ : Int, (wrap64 (a1 + x10_2)) = j_ := ⟨_, rfl⟩
              replace H : (if 0 ≤ (ji11) then (if (ji11) < (l0.length : Int) then (assartref01_Take.l0 k2 l0 a1 a2 (wrap64 ((wrap64 (x9_2 * 256)) + (wrap64 (rd l0 (ji11))))) (wrap64 (x10_2 - 1))) else (none)) else (none)) = some (r1, r2, r3) := by first | (rw [hji11] at H; exact H) | (simp only [hji11] at H ⊢; exact H)
              have hji11w : (IntKind.i64.wrap (a1 + x10_2)) = ji11 := (i64_w _).trans hji11
              by_cases c12 : 0 ≤ (ji11)
              · rw [if_pos c12] at H
                have c12b0 : decide (0 ≤ (ji11)) = true := decide_eq_true c12
                clear c12
                by_cases c13 : (ji11) < (l0.length : Int)
                · rw [if_pos c13] at H
                  have c13b0 : decide ((ji11) < (l0.length : Int)) = true := decide_eq_true c13
                  clear c13
                  have H' := Aside0.mk H
                  clear H
                  have p171 : 0 ≤ ((ji11) : Int) := of_decide_eq_true (by first | (with_reducible assumption) | assumption)
                  have q171 : (ji11) < (l0.length : Int) := of_decide_eq_true (by first | (with_reducible assumption) | assumption)
                  obtain ⟨ad171, e171, hx171_0⟩ := Kd.at_int HR0.out (ji11) p171 q171
                  cases e171
                  replace p171 := eq_true p171
                  replace q171 := eq_true q171
                  go_wp2
                  go_roundg k2
                  case measure => have := HJ3.out; have := HK2.out; omega
                  case rel => exact ⟨(wrap64 ((wrap64 (x9_2 * 256)) + (wrap64 (rd l0 (ji11))))), (wrap64 (x10_2 - 1)), (by first | rfl | (simp; done) | (simp only [← hji11] <;> (first | rfl | simp)) | (simp [*]; done)), (by first | rfl | (simp; done) | (simp [*]; done)), H', ⟨by have := HJ3.out; have := HK2.out; omega⟩, by repeat (first | exact Drawn0.refl _ | apply Drawn0.step)⟩
                · rw [if_neg c13] at H
                  exact absurd H (by simp)
              · rw [if_neg c12] at H
                exact absurd H (by simp)
            · rw [if_neg c10] at H
              have c10b0 : decide (0 ≤ x10_2) = false := decide_eq_false c10
              clear c10
              simp only [Option.some.injEq, Prod.mk.injEq] at H
              obtain ⟨rfl, rfl, rfl⟩ := H
              go_wp2
              go_ret3
              exact ⟨by first | rfl | (simp; done) | (simp [*]; done), by repeat (first | exact Drawn0.refl _ | apply Drawn0.step)⟩

end Go.Proofs.Ythjnkapkhphpeaa.P
end
section
-- Written by a program of this session (xprint.py, over the kit's print). Not trusted: Lean checks it.
namespace Go.Proofs.Ythjnkapkhphpeaa.P
open Go.RowKit Go.Proofs.YthjnkapkhphpeaaW.PrintWords Go.Proofs.YthjnkapkhphpeaaW.PrintLast Go.Proofs.YthjnkapkhphpeaaW.PrintMore
attribute [local go_sem] max2_int min2_int max_two min_two max_three min_three max_four min_four   -- for this text's walks alone
set_option linter.unusedVariables false
set_option linter.unusedSimpArgs false

/-! ### assartref01_limit: function 61 -/
def assartref01_limit.l0 : Nat → Int → Int → Int → Option (Int)
  | 0, _, _, _ => none
  | k + 1, x0, x3, x4 => if x4 < x0 then (assartref01_limit.l0 k x0 (wrap64 (x3 * 256)) (wrap64 (x4 + 1))) else (some x3)
def assartref01_limit.f (k : Nat) (a0 : Int) : Option (Int) := assartref01_limit.l0 k a0 1 0
theorem assartref01_limit.mono_l : ∀ k, (∀ y0 y1 y2, LeO (assartref01_limit.l0 k y0 y1 y2) (assartref01_limit.l0 (k + 1) y0 y1 y2))
  | 0 => fun _ _ _ r h => by simp [assartref01_limit.l0] at h
  | k + 1 => by
    have ih0 := assartref01_limit.mono_l k
    · intro y0 y1 y2
      unfold assartref01_limit.l0
      repeat' first
      | (with_reducible exact ih0 _ _ _)
      | (with_reducible exact LeO.refl _)
      | (with_reducible exact LeO.none _)
      | (with_reducible refine LeO.ite ?_ ?_)
      | (with_reducible refine LeO.bind ?_ (fun _ => ?_))
      | exact ih0 _ _ _
      | exact LeO.none _
      | refine LeO.ite ?_ ?_
      | refine LeO.bind ?_ (fun _ => ?_)
theorem assartref01_limit.mono : ∀ a0 k, LeO (assartref01_limit.f k a0) (assartref01_limit.f (k + 1) a0) := by
  intro a0 k
  have ih0 := assartref01_limit.mono_l k
  unfold assartref01_limit.f
  repeat' first
      | (with_reducible exact ih0 _ _ _)
      | (with_reducible exact LeO.refl _)
      | (with_reducible exact LeO.none _)
      | (with_reducible refine LeO.ite ?_ ?_)
      | (with_reducible refine LeO.bind ?_ (fun _ => ?_))
      | exact ih0 _ _ _
      | exact LeO.none _
      | refine LeO.ite ?_ ?_
      | refine LeO.bind ?_ (fun _ => ?_)
set_option maxHeartbeats 8000000 in
set_option maxRecDepth 100000 in
theorem assartref01_limit.calls (k : Nat) (a0 : Int) (r : Int) (w : World) (h : assartref01_limit.f k a0 = some r) :
    Calls Try.prog 61 #[.int .i64 a0] w fun e w' => e = .returned (.int .i64 r) ∧ Drawn0 w w' := by
  have H : (assartref01_limit.l0 k a0 1 0) = some r := h
  clear h
  have H' := Aside0.mk H
  clear H
  go_enter Try.func61, Try.ntmps61
  go_wp2
  go_loopg [3, 4] k (fun kq v3 v4 w' => ∃ (x3_1 : Int) (x4_1 : Int), v3 = .int .i64 x3_1 ∧ v4 = .int .i64 x4_1 ∧ Aside0 (assartref01_limit.l0 kq a0 x3_1 x4_1 = some r) ∧ Aside0 (kq ≤ k) ∧ Drawn0 w w')
  case atStart => exact ⟨(1), (0), (by first | rfl | (simp; done) | (simp [*]; done)), (by first | rfl | (simp; done) | (simp [*]; done)), H', ⟨Nat.le_refl _⟩, by repeat (first | exact Drawn0.refl _ | apply Drawn0.step)⟩
  case round =>
    clear H'
    obtain ⟨x3_1, x4_1, rfl, rfl, HA, HK1, ⟨m1, rfl⟩⟩ := hrel
    cases gk with
    | zero => exact absurd HA.out (by simp [assartref01_limit.l0])
    | succ k1 =>
      have H := HA.out
      clear HA
      simp only [assartref01_limit.l0] at H
      by_cases c2 : x4_1 < a0
      · rw [if_pos c2] at H
        have c2b0 : decide (x4_1 < a0) = true := decide_eq_true c2
        clear c2
        have H' := Aside0.mk H
        clear H
        go_wp2
        go_roundg k1
        case measure => have := HK1.out; omega
        case rel => exact ⟨(wrap64 (x3_1 * 256)), (wrap64 (x4_1 + 1)), (by first | rfl | (simp; done) | (simp [*]; done)), (by first | rfl | (simp; done) | (simp [*]; done)), H', ⟨by have := HK1.out; omega⟩, by repeat (first | exact Drawn0.refl _ | apply Drawn0.step)⟩
      · rw [if_neg c2] at H
        have c2b0 : decide (x4_1 < a0) = false := decide_eq_false c2
        clear c2
        obtain rfl := Option.some.inj H
        go_wp2
        go_ret
        exact ⟨by first | rfl | (simp; done) | (simp [*]; done), by repeat (first | exact Drawn0.refl _ | apply Drawn0.step)⟩

end Go.Proofs.Ythjnkapkhphpeaa.P
end
section
-- Written by a program of this session (xprint.py, over the kit's print). Not trusted: Lean checks it.
namespace Go.Proofs.Ythjnkapkhphpeaa.P
open Go.RowKit Go.Proofs.YthjnkapkhphpeaaW.PrintWords Go.Proofs.YthjnkapkhphpeaaW.PrintLast Go.Proofs.YthjnkapkhphpeaaW.PrintMore
attribute [local go_sem] max2_int min2_int max_two min_two max_three min_three max_four min_four   -- for this text's walks alone
set_option linter.unusedVariables false
set_option linter.unusedSimpArgs false

/-! ### assartref01_Put: function 45 -/
mutual
def assartref01_Put.j0 : Nat → Int → Int → Bool → Option (List Int)
  | 0, _, _, _ => none
  | k + 1, x0, x1, x22 => if x22 = true then (some ([] : List Int)) else (assartref01_Put.l0 k x0 x1 ([] : List Int) 0)
def assartref01_Put.l0 : Nat → Int → Int → List Int → Int → Option (List Int)
  | 0, _, _, _, _ => none
  | k + 1, x0, x1, x5, x6 => if x6 < x1 then (if x5.length < 140737488355328 then (assartref01_Put.l0 k (wrap64 (Int.tdiv x0 256)) x1 (x5 ++ [(Int.tmod x0 256) % 256]) (wrap64 (x6 + 1))) else (none)) else (some x5)
end
def assartref01_Put.f (k : Nat) (a0 : Int) (a1 : Int) : Option (List Int) := if a1 < 1 then (assartref01_Put.j0 k a0 a1 true) else (if a1 > 4 then (assartref01_Put.j0 k a0 a1 true) else (if a0 < 0 then (assartref01_Put.j0 k a0 a1 true) else ((assartref01_limit.f k a1).bind fun t122 => (assartref01_Put.j0 k a0 a1 (decide (a0 ≥ t122))))))
theorem assartref01_Put.mono_l : ∀ k, (∀ y0 y1 y2, LeO (assartref01_Put.j0 k y0 y1 y2) (assartref01_Put.j0 (k + 1) y0 y1 y2)) ∧ (∀ y0 y1 y2 y3, LeO (assartref01_Put.l0 k y0 y1 y2 y3) (assartref01_Put.l0 (k + 1) y0 y1 y2 y3))
  | 0 => ⟨fun _ _ _ r h => by simp [assartref01_Put.j0] at h, fun _ _ _ _ r h => by simp [assartref01_Put.l0] at h⟩
  | k + 1 => by
    obtain ⟨ih0, ih1⟩ := assartref01_Put.mono_l k
    refine ⟨?_, ?_⟩
    · intro y0 y1 y2
      unfold assartref01_Put.j0
      repeat' first
      | (with_reducible exact ih0 _ _ _)
      | (with_reducible exact ih1 _ _ _ _)
      | (with_reducible exact assartref01_limit.mono _ _)
      | (with_reducible exact LeO.refl _)
      | (with_reducible exact LeO.none _)
      | (with_reducible refine LeO.ite ?_ ?_)
      | (with_reducible refine LeO.bind ?_ (fun _ => ?_))
      | exact ih0 _ _ _
      | exact ih1 _ _ _ _
      | exact assartref01_limit.mono _ _
      | exact LeO.none _
      | refine LeO.ite ?_ ?_
      | refine LeO.bind ?_ (fun _ => ?_)
    · intro y0 y1 y2 y3
      unfold assartref01_Put.l0
      repeat' first
      | (with_reducible exact ih0 _ _ _)
      | (with_reducible exact ih1 _ _ _ _)
      | (with_reducible exact assartref01_limit.mono _ _)
      | (with_reducible exact LeO.refl _)
      | (with_reducible exact LeO.none _)
      | (with_reducible refine LeO.ite ?_ ?_)
      | (with_reducible refine LeO.bind ?_ (fun _ => ?_))
      | exact ih0 _ _ _
      | exact ih1 _ _ _ _
      | exact assartref01_limit.mono _ _
      | exact LeO.none _
      | refine LeO.ite ?_ ?_
      | refine LeO.bind ?_ (fun _ => ?_)
theorem assartref01_Put.mono : ∀ a0 a1 k, LeO (assartref01_Put.f k a0 a1) (assartref01_Put.f (k + 1) a0 a1) := by
  intro a0 a1 k
  obtain ⟨ih0, ih1⟩ := assartref01_Put.mono_l k
  unfold assartref01_Put.f
  repeat' first
      | (with_reducible exact ih0 _ _ _)
      | (with_reducible exact ih1 _ _ _ _)
      | (with_reducible exact assartref01_limit.mono _ _)
      | (with_reducible exact LeO.refl _)
      | (with_reducible exact LeO.none _)
      | (with_reducible refine LeO.ite ?_ ?_)
      | (with_reducible refine LeO.bind ?_ (fun _ => ?_))
      | exact ih0 _ _ _
      | exact ih1 _ _ _ _
      | exact assartref01_limit.mono _ _
      | exact LeO.none _
      | refine LeO.ite ?_ ?_
      | refine LeO.bind ?_ (fun _ => ?_)
set_option maxHeartbeats 8000000 in
set_option maxRecDepth 100000 in
theorem assartref01_Put.calls (k : Nat) (a0 : Int) (a1 : Int) (r : List Int) (w : World) (h : assartref01_Put.f k a0 a1 = some r) :
    Calls Try.prog 45 #[.int .i64 a0, .int .i64 a1] w fun e w' => ∃ v0_ : Value, e = .returned (v0_) ∧ Kd.R (Kd.int .u8) 5 w' w.heap.size (fun _ => True) v0_ r ∧ Below w.heap.size w w' := by
  have HB := Aside0.mk (Below.refl w.heap.size w)
  have H : (if a1 < 1 then (assartref01_Put.j0 k a0 a1 true) else (if a1 > 4 then (assartref01_Put.j0 k a0 a1 true) else (if a0 < 0 then (assartref01_Put.j0 k a0 a1 true) else ((assartref01_limit.f k a1).bind fun t122 => (assartref01_Put.j0 k a0 a1 (decide (a0 ≥ t122))))))) = some r := h
  clear h
  have HC3 := Aside0.mk H
  clear H
  go_enter Try.func45, Try.ntmps45
  go_upto_region 1 with (fail)
  go_cut [22] (fun v22 wc => ∃ (kq : Nat) (x22_2 : Bool), v22 = .bool x22_2 ∧ Aside0 (assartref01_Put.j0 kq a0 a1 x22_2 = some r) ∧ Aside0 (kq ≤ k) ∧ Aside0 (Below w.heap.size w wc))
  case first =>
    have H := HC3.out
    clear HC3
    by_cases c4 : a1 < 1
    · rw [if_pos c4] at H
      have c4b0 : decide (a1 < 1) = true := decide_eq_true c4
      clear c4
      (first | rw [c4b0] | (simp only [i64_w, i32_w]; rw [c4b0]) | skip)
      have H' := Aside0.mk H
      clear H
      go_wp2
      go_meet
      case rel => exact ⟨_, (true), (by first | rfl | (simp; done) | (simp [*]; done)), H', ⟨by first | omega | exact Nat.le_refl _⟩, ⟨by repeat (first | (with_reducible first | exact HB.out | apply below_alloc | apply pw_below_drewN | apply below_drew1) | exact HB.out)⟩⟩
    · rw [if_neg c4] at H
      have c4b0 : decide (a1 < 1) = false := decide_eq_false c4
      clear c4
      (first | rw [c4b0] | (simp only [i64_w, i32_w]; rw [c4b0]) | skip)
      by_cases c5 : a1 > 4
      · rw [if_pos c5] at H
        have c5b0 : decide (4 < a1) = true := decide_eq_true c5
        clear c5
        have H' := Aside0.mk H
        clear H
        go_wp2
        go_meet
        case rel => exact ⟨_, (true), (by first | rfl | (simp; done) | (simp [*]; done)), H', ⟨by first | omega | exact Nat.le_refl _⟩, ⟨by repeat (first | (with_reducible first | exact HB.out | apply below_alloc | apply pw_below_drewN | apply below_drew1) | exact HB.out)⟩⟩
      · rw [if_neg c5] at H
        have c5b0 : decide (4 < a1) = false := decide_eq_false c5
        clear c5
        by_cases c6 : a0 < 0
        · rw [if_pos c6] at H
          have c6b0 : decide (a0 < 0) = true := decide_eq_true c6
          clear c6
          have H' := Aside0.mk H
          clear H
          go_wp2
          go_meet
          case rel => exact ⟨_, (true), (by first | rfl | (simp; done) | (simp [*]; done)), H', ⟨by first | omega | exact Nat.le_refl _⟩, ⟨by repeat (first | (with_reducible first | exact HB.out | apply below_alloc | apply pw_below_drewN | apply below_drew1) | exact HB.out)⟩⟩
        · rw [if_neg c6] at H
          have c6b0 : decide (a0 < 0) = false := decide_eq_false c6
          clear c6
          replace H := Option.bind_eq_some_iff.mp H
          obtain ⟨t122, A70, H⟩ := H
          replace H : (assartref01_Put.j0 k a0 a1 (decide (a0 ≥ t122))) = some r := H
          have A7 := Aside0.mk A70
          clear A70
          have H' := Aside0.mk H
          clear H
          go_wp2_with (first | (go_at_call 61; (with_reducible refine (assartref01_limit.calls k a1 t122 _ A7.out).mono ?_); rintro e w' ⟨rfl, ⟨nd, rfl⟩⟩))
          go_meet
          case rel => exact ⟨_, (decide (a0 ≥ t122)), (by first | rfl | (simp; done) | (simp [*]; done)), H', ⟨by first | omega | exact Nat.le_refl _⟩, ⟨by repeat (first | (with_reducible first | exact HB.out | apply below_alloc | apply pw_below_drewN | apply below_drew1) | exact HB.out)⟩⟩
  case rest =>
    clear HC3
    try clear p2
    try clear c4
    try clear c4b0
    try clear c5
    try clear c5b0
    try clear c6
    try clear c6b0
    obtain ⟨kq, x22_2, rfl, HA, HJ2, HB⟩ := hcut
    cases kq with
    | zero => exact absurd HA.out (by simp [assartref01_Put.j0])
    | succ kj2 =>
      have H := HA.out
      clear HA
      simp only [assartref01_Put.j0] at H
      by_cases c8 : x22_2 = true
      · subst c8
        have H1 : (some ([] : List Int)) = some r := by rw [if_pos rfl] at H; exact H
        clear H
        have H := H1
        clear H1
        obtain rfl := Option.some.inj H
        go_wp2
        go_ret
        exact ⟨_, by first | rfl | (simp [errW_none, errW_some] <;> rfl) | (simp [*, errW_none, errW_some] <;> rfl), by first | exact Kd.R_nil _ _ _ _ _ | exact Kd.N_nil _ _ _ _ _ | exact Kd.V_nil _ _ _ _ _ | exact Kd.Q_nil _ _ _ _ _ | exact Kd.S_nil _ _ _ _ _, by repeat (first | (with_reducible first | exact HB.out | apply below_alloc | apply pw_below_drewN | apply below_drew1) | exact HB.out)⟩
      · replace c8 := Bool.eq_false_iff.mpr c8
        subst c8
        have H1 : (assartref01_Put.l0 kj2 a0 a1 ([] : List Int) 0) = some r := by rw [if_neg (show ¬ (false = true) by decide)] at H; exact H
        clear H
        have H := H1
        clear H1
        have H' := Aside0.mk H
        clear H
        go_wp2
        go_loopg [0, 5, 6] kj2 (fun kq v0 v5 v6 w' => ∃ (x0_2 : Int) (x5_2 : List Int) (x6_2 : Int), v0 = .int .i64 x0_2 ∧ v6 = .int .i64 x6_2 ∧ Aside0 (assartref01_Put.l0 kq x0_2 a1 x5_2 x6_2 = some r) ∧ Aside0 (kq ≤ kj2) ∧ Aside0 (Kd.R (Kd.int .u8) 5 w' w.heap.size (fun _ => True) v5 x5_2) ∧ Aside0 (Below w.heap.size w w'))
        case atStart => exact ⟨(a0), (([] : List Int)), (0), (by first | rfl | (simp; done) | (simp [*]; done)), (by first | rfl | (simp; done) | (simp [*]; done)), H', ⟨Nat.le_refl _⟩, ⟨by first | exact Kd.R_nil _ _ _ _ _ | exact Kd.N_nil _ _ _ _ _ | exact Kd.V_nil _ _ _ _ _ | exact Kd.Q_nil _ _ _ _ _ | exact Kd.S_nil _ _ _ _ _⟩, ⟨by repeat (first | (with_reducible first | exact HB.out | apply below_alloc | apply pw_below_drewN | apply below_drew1) | exact HB.out)⟩⟩
        case round =>
          clear H'
          try clear p2
          try clear c4
          try clear c4b0
          try clear c5
          try clear c5b0
          try clear c6
          try clear c6b0
          try clear c8
          try clear p2
          obtain ⟨x0_2, x5_2, x6_2, rfl, rfl, HA, HK2, HO_5, HB⟩ := hrel
          cases gk with
          | zero => exact absurd HA.out (by simp [assartref01_Put.l0])
          | succ k2 =>
            have H := HA.out
            clear HA
            simp only [assartref01_Put.l0] at H
            by_cases c9 : x6_2 < a1
            · rw [if_pos c9] at H
              have c9b0 : decide (x6_2 < a1) = true := decide_eq_true c9
              clear c9
              by_cases c10 : x5_2.length < 140737488355328
              · rw [if_pos c10] at H
                have LMc10 := Aside0.mk c10
                clear c10
                obtain ⟨y123, hy123⟩ : ∃ y_ : List Int, y_ = (x5_2 ++ [(Int.tmod x0_2 256) % 256]) := ⟨_, rfl⟩
                replace H : (assartref01_Put.l0 k2 (wrap64 (Int.tdiv x0_2 256)) a1 y123 (wrap64 (x6_2 + 1))) = some r := by first | (rw [hy123]; with_reducible exact H) | (have H2_ := (Option.bind_some _ _).symm.trans H; rw [hy123]; with_reducible exact H2_) | (have H2_ := (Option.bind_some _ _).symm.trans H; with_reducible exact H2_) | with_reducible exact H | (rw [hy123]; exact H) | exact H
                have Ny123 := Aside0.mk hy123
                clear hy123
                have H' := Aside0.mk H
                clear H
                go_wp2_with (first | ((with_reducible refine gate_builtin (b := .append) (xs := #[.tmp 28, .tmp 32]) rfl ?_); at_builtin; refine Kd.R_append (Kd.int .u8) (w0 := w) w.heap.size rfl (.tmp 28) (.tmp 32) 24 5 (.int .u8 0) 1 rfl Try.underlying24 info5 rfl (by decide) (by omega) u5 x5_2 ((Int.tmod x0_2 256) % 256) [.int .u8 ((Int.tmod x0_2 256) % 256)] (fun _ => True) (fun _ => False) rfl rfl ?aP (fun _ hk => hk.elim) ?aF ?aO ?aB ?aS ?aL ?_; (case aP => exact rfl); (case aB => exact (by repeat (first | (with_reducible first | exact HB.out | apply below_alloc | apply pw_below_drewN | apply below_drew1) | exact HB.out))); (case aF => exact (fun _ _ => trivial)); (case aO => exact (by (with_reducible repeat (first | apply Kd.R_alloc | apply Kd.R_drewN | apply Kd.R_drew)); exact HO_5.out)); (case aS => exact (below_size (by repeat (first | (with_reducible first | exact HB.out | apply below_alloc | apply pw_below_drewN | apply below_drew1) | exact HB.out)))); (case aL => have := LMc10.out; omega); intro v124 w11 ho hb hg hat; rw [← Ny123.out] at ho; have n0_ := Aside0.mk (hb); have n1_ := Aside0.mk (ho); clear HB; clear HO_5; have HB := n0_; have HO125 := n1_; clear n0_ n1_; clear ho hb hg hat))
                go_roundg k2
                case measure => have := HJ2.out; have := HK2.out; omega
                case rel => exact ⟨(wrap64 (Int.tdiv x0_2 256)), (y123), (wrap64 (x6_2 + 1)), (by first | rfl | (simp; done) | (simp [*]; done)), (by first | rfl | (simp; done) | (simp [*]; done)), H', ⟨by have := HJ2.out; have := HK2.out; omega⟩, ⟨by (with_reducible repeat (first | apply Kd.R_alloc | apply Kd.R_drewN | apply Kd.R_drew)); exact HO125.out⟩, ⟨by repeat (first | (with_reducible first | exact HB.out | apply below_alloc | apply pw_below_drewN | apply below_drew1) | exact HB.out)⟩⟩
              · rw [if_neg c10] at H
                exact absurd H (by simp)
            · rw [if_neg c9] at H
              have c9b0 : decide (x6_2 < a1) = false := decide_eq_false c9
              clear c9
              obtain rfl := Option.some.inj H
              go_wp2
              go_ret
              exact ⟨_, by first | rfl | (simp [errW_none, errW_some] <;> rfl) | (simp [*, errW_none, errW_some] <;> rfl), by (with_reducible repeat (first | apply Kd.R_alloc | apply Kd.R_drewN | apply Kd.R_drew)); exact HO_5.out, by repeat (first | (with_reducible first | exact HB.out | apply below_alloc | apply pw_below_drewN | apply below_drew1) | exact HB.out)⟩

end Go.Proofs.Ythjnkapkhphpeaa.P
end
section
-- Written by a program of this session (xprint.py, over the kit's print). Not trusted: Lean checks it.
namespace Go.Proofs.Ythjnkapkhphpeaa.P
open Go.RowKit Go.Proofs.YthjnkapkhphpeaaW.PrintWords Go.Proofs.YthjnkapkhphpeaaW.PrintLast Go.Proofs.YthjnkapkhphpeaaW.PrintMore
attribute [local go_sem] max2_int min2_int max_two min_two max_three min_three max_four min_four   -- for this text's walks alone
set_option linter.unusedVariables false
set_option linter.unusedSimpArgs false

/-! ### assartref01_xor: function 63 -/
def assartref01_xor.f (a0 : Int) (a1 : Int) : Option (Int) := some (wrap64 (Go.bits .xor .u32 ((a0) % 4294967296) ((a1) % 4294967296)))
set_option maxHeartbeats 8000000 in
set_option maxRecDepth 100000 in
theorem assartref01_xor.calls (a0 : Int) (a1 : Int) (r : Int) (w : World) (h : assartref01_xor.f a0 a1 = some r) :
    Calls Try.prog 63 #[.int .i64 a0, .int .i64 a1] w fun e w' => e = .returned (.int .i64 r) ∧ Drawn0 w w' := by
  have H : (some (wrap64 (Go.bits .xor .u32 ((a0) % 4294967296) ((a1) % 4294967296)))) = some r := h
  clear h
  obtain rfl := Option.some.inj H
  go_enter Try.func63, Try.ntmps63
  go_wp2
  go_ret
  exact ⟨by first | rfl | (simp; done) | (simp [*]; done), by repeat (first | exact Drawn0.refl _ | apply Drawn0.step)⟩

end Go.Proofs.Ythjnkapkhphpeaa.P
end
section
-- Written by a program of this session (xprint.py, over the kit's print). Not trusted: Lean checks it.
namespace Go.Proofs.Ythjnkapkhphpeaa.P
open Go.RowKit Go.Proofs.YthjnkapkhphpeaaW.PrintWords Go.Proofs.YthjnkapkhphpeaaW.PrintLast Go.Proofs.YthjnkapkhphpeaaW.PrintMore
attribute [local go_sem] max2_int min2_int max_two min_two max_three min_three max_four min_four   -- for this text's walks alone
set_option linter.unusedVariables false
set_option linter.unusedSimpArgs false

/-! ### assartref01_Sum: function 53 -/
mutual
def assartref01_Sum.l0 : Nat → List Int → Int → Int → Option (Int)
  | 0, _, _, _ => none
  | k + 1, x0, x3, x4 => if x4 < (x0.length : Int) then (if 0 ≤ x4 then ((assartref01_xor.f x3 (wrap64 (rd x0 x4))).bind fun t128 => (assartref01_Sum.l1 k x0 t128 x4 0)) else (none)) else ((assartref01_xor.f x3 4294967295).bind fun t126 => (some t126))
def assartref01_Sum.l1 : Nat → List Int → Int → Int → Int → Option (Int)
  | 0, _, _, _, _ => none
  | k + 1, x0, x3, x4, x5 => if x5 < 8 then (if (Int.tmod x3 2) = 1 then ((assartref01_xor.f (wrap64 (Int.tdiv x3 2)) 3988292384).bind fun t129 => (assartref01_Sum.l1 k x0 t129 x4 (wrap64 (x5 + 1)))) else (assartref01_Sum.l1 k x0 (wrap64 (Int.tdiv x3 2)) x4 (wrap64 (x5 + 1)))) else (assartref01_Sum.l0 k x0 x3 (wrap64 (x4 + 1)))
end
def assartref01_Sum.f (k : Nat) (l0 : List Int) : Option (Int) := assartref01_Sum.l0 k l0 4294967295 0
theorem assartref01_Sum.mono_l : ∀ k, (∀ y0 y1 y2, LeO (assartref01_Sum.l0 k y0 y1 y2) (assartref01_Sum.l0 (k + 1) y0 y1 y2)) ∧ (∀ y0 y1 y2 y3, LeO (assartref01_Sum.l1 k y0 y1 y2 y3) (assartref01_Sum.l1 (k + 1) y0 y1 y2 y3))
  | 0 => ⟨fun _ _ _ r h => by simp [assartref01_Sum.l0] at h, fun _ _ _ _ r h => by simp [assartref01_Sum.l1] at h⟩
  | k + 1 => by
    obtain ⟨ih0, ih1⟩ := assartref01_Sum.mono_l k
    refine ⟨?_, ?_⟩
    · intro y0 y1 y2
      unfold assartref01_Sum.l0
      repeat' first
      | (with_reducible exact ih0 _ _ _)
      | (with_reducible exact ih1 _ _ _ _)
      | (with_reducible exact LeO.refl _)
      | (with_reducible exact LeO.none _)
      | (with_reducible refine LeO.ite ?_ ?_)
      | (with_reducible refine LeO.bind ?_ (fun _ => ?_))
      | exact ih0 _ _ _
      | exact ih1 _ _ _ _
      | exact LeO.none _
      | refine LeO.ite ?_ ?_
      | refine LeO.bind ?_ (fun _ => ?_)
    · intro y0 y1 y2 y3
      unfold assartref01_Sum.l1
      repeat' first
      | (with_reducible exact ih0 _ _ _)
      | (with_reducible exact ih1 _ _ _ _)
      | (with_reducible exact LeO.refl _)
      | (with_reducible exact LeO.none _)
      | (with_reducible refine LeO.ite ?_ ?_)
      | (with_reducible refine LeO.bind ?_ (fun _ => ?_))
      | exact ih0 _ _ _
      | exact ih1 _ _ _ _
      | exact LeO.none _
      | refine LeO.ite ?_ ?_
      | refine LeO.bind ?_ (fun _ => ?_)
theorem assartref01_Sum.mono : ∀ a0 k, LeO (assartref01_Sum.f k a0) (assartref01_Sum.f (k + 1) a0) := by
  intro a0 k
  obtain ⟨ih0, ih1⟩ := assartref01_Sum.mono_l k
  unfold assartref01_Sum.f
  repeat' first
      | (with_reducible exact ih0 _ _ _)
      | (with_reducible exact ih1 _ _ _ _)
      | (with_reducible exact LeO.refl _)
      | (with_reducible exact LeO.none _)
      | (with_reducible refine LeO.ite ?_ ?_)
      | (with_reducible refine LeO.bind ?_ (fun _ => ?_))
      | exact ih0 _ _ _
      | exact ih1 _ _ _ _
      | exact LeO.none _
      | refine LeO.ite ?_ ?_
      | refine LeO.bind ?_ (fun _ => ?_)
set_option maxHeartbeats 8000000 in
set_option maxRecDepth 100000 in
theorem assartref01_Sum.calls (k : Nat) (A0 : Option Addr) (c0 : Nat) (l0 : List Int) (r : Int) (w : World) (hr0 : Kd.C (Kd.int .u8) w A0 l0.length l0) (hc0 : l0.length ≤ c0) (h : assartref01_Sum.f k l0 = some r) :
    Calls Try.prog 53 #[.slice A0 l0.length c0] w fun e w' => e = .returned (.int .i64 r) ∧ Drawn0 w w' := by
  have HR0 := Aside0.mk hr0
  have HC0 := Aside0.mk hc0
  clear hr0 hc0
  have H : (assartref01_Sum.l0 k l0 4294967295 0) = some r := h
  clear h
  have H' := Aside0.mk H
  clear H
  go_enter Try.func53, Try.ntmps53
  go_wp2
  go_loopg [3, 4] k (fun kq v3 v4 w' => ∃ (x3_1 : Int) (x4_1 : Int), v3 = .int .i64 x3_1 ∧ v4 = .int .i64 x4_1 ∧ Aside0 (assartref01_Sum.l0 kq l0 x3_1 x4_1 = some r) ∧ Aside0 (kq ≤ k) ∧ Drawn0 w w')
  case atStart => exact ⟨(4294967295), (0), (by first | rfl | (simp; done) | (simp [*]; done)), (by first | rfl | (simp; done) | (simp [*]; done)), H', ⟨Nat.le_refl _⟩, by repeat (first | exact Drawn0.refl _ | apply Drawn0.step)⟩
  case round =>
    clear H'
    obtain ⟨x3_1, x4_1, rfl, rfl, HA, HK1, ⟨m1, rfl⟩⟩ := hrel
    cases gk with
    | zero => exact absurd HA.out (by simp [assartref01_Sum.l0])
    | succ k1 =>
      have H := HA.out
      clear HA
      simp only [assartref01_Sum.l0] at H
      by_cases c2 : x4_1 < (l0.length : Int)
      · rw [if_pos c2] at H
        have c2b0 : decide (x4_1 < (l0.length : Int)) = true := decide_eq_true c2
        clear c2
        by_cases c3 : 0 ≤ x4_1
        · rw [if_pos c3] at H
          have c3b0 : decide (0 ≤ x4_1) = true := decide_eq_true c3
          clear c3
          replace H := Option.bind_eq_some_iff.mp H
          obtain ⟨t128, A40, H⟩ := H
          replace H : (assartref01_Sum.l1 k1 l0 t128 x4_1 0) = some r := H
          have A4 := Aside0.mk A40
          clear A40
          have H' := Aside0.mk H
          clear H
          have p127 : 0 ≤ (x4_1 : Int) := of_decide_eq_true (by first | (with_reducible assumption) | assumption)
          have q127 : x4_1 < (l0.length : Int) := of_decide_eq_true (by first | (with_reducible assumption) | assumption)
          obtain ⟨ad127, e127, hx127_0⟩ := Kd.at_int HR0.out x4_1 p127 q127
          cases e127
          replace p127 := eq_true p127
          replace q127 := eq_true q127
          go_wp2_with (first | ((with_reducible refine gate_callee (f := 63) rfl ?_); refine goesL_ (some 19) rfl rfl Try.func63 (by kernel_rfl) rfl #[.int .i64 x3_1, .int .i64 (wrap64 (rd l0 x4_1))] rfl (by (try simp only [List.map_toArray, List.map_cons, List.map_nil]); first | done | rfl | (simp only [List.length_drop, List.length_take]; rfl)) ?_; (with_reducible refine (assartref01_xor.calls x3_1 (wrap64 (rd l0 x4_1)) t128 _ A4.out).mono ?_); rintro e w' ⟨rfl, ⟨nd, rfl⟩⟩; refine ⟨_, rfl, ?_⟩))
          go_loopg [3, 5] k1 (fun kq v3 v5 w' => ∃ (x3_2 : Int) (x5_2 : Int), v3 = .int .i64 x3_2 ∧ v5 = .int .i64 x5_2 ∧ Aside0 (assartref01_Sum.l1 kq l0 x3_2 x4_1 x5_2 = some r) ∧ Aside0 (kq ≤ k1) ∧ Drawn0 w w')
          case atStart => exact ⟨(t128), (0), (by first | rfl | (simp; done) | (simp [*]; done)), (by first | rfl | (simp; done) | (simp [*]; done)), H', ⟨Nat.le_refl _⟩, by repeat (first | exact Drawn0.refl _ | apply Drawn0.step)⟩
          case round =>
            clear H'
            try clear p1
            try clear q1
            try clear hx1
            try clear c2
            try clear c2b0
            try clear p2
            try clear c3
            try clear c3b0
            try clear hx127_0
            try clear p127
            try clear q127
            obtain ⟨x3_2, x5_2, rfl, rfl, HA, HK2, ⟨m2, rfl⟩⟩ := hrel
            cases gk with
            | zero => exact absurd HA.out (by simp [assartref01_Sum.l1])
            | succ k2 =>
              have H := HA.out
              clear HA
              simp only [assartref01_Sum.l1] at H
              by_cases c5 : x5_2 < 8
              · rw [if_pos c5] at H
                have c5b0 : decide (x5_2 < 8) = true := decide_eq_true c5
                clear c5
                by_cases c6 : (Int.tmod x3_2 2) = 1
                · rw [if_pos c6] at H
                  have c6b0 : ((Int.tmod x3_2 2) == 1) = true := beq_iff_eq.mpr c6
                  have c6b1 : ((Int.tmod x3_2 2) != 1) = false := bne_eq_false_iff_eq.mpr c6
                  clear c6
                  replace H := Option.bind_eq_some_iff.mp H
                  obtain ⟨t129, A70, H⟩ := H
                  replace H : (assartref01_Sum.l1 k2 l0 t129 x4_1 (wrap64 (x5_2 + 1))) = some r := H
                  have A7 := Aside0.mk A70
                  clear A70
                  have H' := Aside0.mk H
                  clear H
                  go_wp2_with (first | ((with_reducible refine gate_callee (f := 63) rfl ?_); refine goesL_ (some 31) rfl rfl Try.func63 (by kernel_rfl) rfl #[.int .i64 (wrap64 (Int.tdiv x3_2 2)), .int .i64 3988292384] rfl (by (try simp only [List.map_toArray, List.map_cons, List.map_nil]); first | done | rfl | (simp only [List.length_drop, List.length_take]; rfl)) ?_; (with_reducible refine (assartref01_xor.calls (wrap64 (Int.tdiv x3_2 2)) 3988292384 t129 _ A7.out).mono ?_); rintro e w' ⟨rfl, ⟨nd, rfl⟩⟩; refine ⟨_, rfl, ?_⟩))
                  go_roundg k2
                  case measure => have := HK1.out; have := HK2.out; omega
                  case rel => exact ⟨(t129), (wrap64 (x5_2 + 1)), (by first | rfl | (simp; done) | (simp [*]; done)), (by first | rfl | (simp; done) | (simp [*]; done)), H', ⟨by have := HK1.out; have := HK2.out; omega⟩, by repeat (first | exact Drawn0.refl _ | apply Drawn0.step)⟩
                · rw [if_neg c6] at H
                  have c6b0 : ((Int.tmod x3_2 2) == 1) = false := beq_eq_false_iff_ne.mpr c6
                  have c6b1 : ((Int.tmod x3_2 2) != 1) = true := bne_iff_ne.mpr c6
                  have H' := Aside0.mk H
                  clear H
                  go_wp2
                  go_roundg k2
                  case measure => have := HK1.out; have := HK2.out; omega
                  case rel => exact ⟨(wrap64 (Int.tdiv x3_2 2)), (wrap64 (x5_2 + 1)), (by first | rfl | (simp; done) | (simp [*]; done)), (by first | rfl | (simp; done) | (simp [*]; done)), H', ⟨by have := HK1.out; have := HK2.out; omega⟩, by repeat (first | exact Drawn0.refl _ | apply Drawn0.step)⟩
              · rw [if_neg c5] at H
                have c5b0 : decide (x5_2 < 8) = false := decide_eq_false c5
                clear c5
                have H' := Aside0.mk H
                clear H
                go_wp2
                go_roundg k2
                case measure => have := HK1.out; have := HK2.out; omega
                case rel => exact ⟨(x3_2), (wrap64 (x4_1 + 1)), (by first | rfl | (simp; done) | (simp [*]; done)), (by first | rfl | (simp; done) | (simp [*]; done)), H', ⟨by have := HK1.out; have := HK2.out; omega⟩, by repeat (first | exact Drawn0.refl _ | apply Drawn0.step)⟩
        · rw [if_neg c3] at H
          exact absurd H (by simp)
      · rw [if_neg c2] at H
        have c2b0 : decide (x4_1 < (l0.length : Int)) = false := decide_eq_false c2
        clear c2
        replace H := Option.bind_eq_some_iff.mp H
        obtain ⟨t126, A80, H⟩ := H
        replace H : (some t126) = some r := H
        have A8 := Aside0.mk A80
        clear A80
        obtain rfl := Option.some.inj H
        go_wp2_with (first | ((with_reducible refine gate_callee (f := 63) rfl ?_); refine goesL_ (some 33) rfl rfl Try.func63 (by kernel_rfl) rfl #[.int .i64 x3_1, .int .i64 4294967295] rfl (by (try simp only [List.map_toArray, List.map_cons, List.map_nil]); first | done | rfl | (simp only [List.length_drop, List.length_take]; rfl)) ?_; (with_reducible refine (assartref01_xor.calls x3_1 4294967295 t126 _ A8.out).mono ?_); rintro e w' ⟨rfl, ⟨nd, rfl⟩⟩; refine ⟨_, rfl, ?_⟩))
        go_ret
        exact ⟨by first | rfl | (simp; done) | (simp [*]; done), by repeat (first | exact Drawn0.refl _ | apply Drawn0.step)⟩

end Go.Proofs.Ythjnkapkhphpeaa.P
end
section
-- Written by a program of this session (xprint.py, over the kit's print). Not trusted: Lean checks it.
namespace Go.Proofs.Ythjnkapkhphpeaa.P
open Go.RowKit Go.Proofs.YthjnkapkhphpeaaW.PrintWords Go.Proofs.YthjnkapkhphpeaaW.PrintLast Go.Proofs.YthjnkapkhphpeaaW.PrintMore
attribute [local go_sem] max2_int min2_int max_two min_two max_three min_three max_four min_four   -- for this text's walks alone
set_option linter.unusedVariables false
set_option linter.unusedSimpArgs false

/-! ### assartref01_Seal: function 46 -/
def assartref01_Seal.l0 : Nat → List Int → Option (ByteArray × Int)
  | 0, _ => none
  | k + 1, x4 => if (x4.length : Int) < 36 then (if x4.length < 140737488355328 then (assartref01_Seal.l0 k (x4 ++ [0])) else (none)) else ((assartref01_Sum.f k x4).bind fun t139 => ((assartref01_Put.f k t139 4).bind fun t140 => (if x4.length + t140.length < 140737488355328 then (some (strOfNums (x4 ++ t140), 0)) else (none))))
def assartref01_Seal.f (k : Nat) (l0 : List Int) : Option (ByteArray × Int) := if (l0.length : Int) > 36 then (some ((⟨#[]⟩ : ByteArray), 1)) else ((some (([] : List Int) : List Int)).bind fun y130 => (if y130.length + l0.length < 140737488355328 then (assartref01_Seal.l0 k (y130 ++ l0)) else (none)))
theorem assartref01_Seal.mono_l : ∀ k, (∀ y0, LeO (assartref01_Seal.l0 k y0) (assartref01_Seal.l0 (k + 1) y0))
  | 0 => fun _ r h => by simp [assartref01_Seal.l0] at h
  | k + 1 => by
    have ih0 := assartref01_Seal.mono_l k
    · intro y0
      unfold assartref01_Seal.l0
      repeat' first
      | (with_reducible exact ih0 _)
      | (with_reducible exact assartref01_Put.mono _ _ _)
      | (with_reducible exact assartref01_Sum.mono _ _)
      | (with_reducible exact LeO.refl _)
      | (with_reducible exact LeO.none _)
      | (with_reducible refine LeO.ite ?_ ?_)
      | (with_reducible refine LeO.bind ?_ (fun _ => ?_))
      | exact ih0 _
      | exact assartref01_Put.mono _ _ _
      | exact assartref01_Sum.mono _ _
      | exact LeO.none _
      | refine LeO.ite ?_ ?_
      | refine LeO.bind ?_ (fun _ => ?_)
theorem assartref01_Seal.mono : ∀ a0 k, LeO (assartref01_Seal.f k a0) (assartref01_Seal.f (k + 1) a0) := by
  intro a0 k
  have ih0 := assartref01_Seal.mono_l k
  unfold assartref01_Seal.f
  repeat' first
      | (with_reducible exact ih0 _)
      | (with_reducible exact assartref01_Put.mono _ _ _)
      | (with_reducible exact assartref01_Sum.mono _ _)
      | (with_reducible exact LeO.refl _)
      | (with_reducible exact LeO.none _)
      | (with_reducible refine LeO.ite ?_ ?_)
      | (with_reducible refine LeO.bind ?_ (fun _ => ?_))
      | exact ih0 _
      | exact assartref01_Put.mono _ _ _
      | exact assartref01_Sum.mono _ _
      | exact LeO.none _
      | refine LeO.ite ?_ ?_
      | refine LeO.bind ?_ (fun _ => ?_)
set_option maxHeartbeats 8000000 in
set_option maxRecDepth 100000 in
theorem assartref01_Seal.calls (k : Nat) (A0 : Option Addr) (c0 : Nat) (l0 : List Int) (r1 : ByteArray) (r2 : Int) (w : World) (hr0 : Kd.C (Kd.int .u8) w A0 l0.length l0) (hc0 : l0.length ≤ c0) (h : assartref01_Seal.f k l0 = some (r1, r2)) :
    Calls Try.prog 46 #[.slice A0 l0.length c0] w fun e w' => e = .returned (.tuple #[.string r1, .int .i64 r2]) ∧ Below w.heap.size w w' := by
  have HR0 := Aside0.mk hr0
  have HC0 := Aside0.mk hc0
  clear hr0 hc0
  have HB := Aside0.mk (Below.refl w.heap.size w)
  have H : (if (l0.length : Int) > 36 then (some ((⟨#[]⟩ : ByteArray), 1)) else ((some (([] : List Int) : List Int)).bind fun y130 => (if y130.length + l0.length < 140737488355328 then (assartref01_Seal.l0 k (y130 ++ l0)) else (none)))) = some (r1, r2) := h
  clear h
  by_cases c2 : (l0.length : Int) > 36
  · rw [if_pos c2] at H
    have c2b0 : decide (36 < (l0.length : Int)) = true := decide_eq_true c2
    have c2b1 : decide (36 < l0.length) = true := decide_eq_true (by omega)
    clear c2
    simp only [Option.some.injEq, Prod.mk.injEq] at H
    obtain ⟨rfl, rfl⟩ := H
    go_enter Try.func46, Try.ntmps46
    go_wp2
    go_ret2
    exact ⟨by first | rfl | (simp [errW_none, errW_some] <;> rfl) | (simp [*, errW_none, errW_some] <;> rfl), by repeat (first | (with_reducible first | exact HB.out | apply below_alloc | apply pw_below_drewN | apply below_drew1) | exact HB.out)⟩
  · rw [if_neg c2] at H
    have c2b0 : decide (36 < (l0.length : Int)) = false := decide_eq_false c2
    have c2b1 : decide (36 < l0.length) = false := decide_eq_false (by omega)
    clear c2
    obtain ⟨y130, hy130⟩ : ∃ y_ : List Int, y_ = (([] : List Int)) := ⟨_, rfl⟩
    replace H : (if y130.length + l0.length < 140737488355328 then (assartref01_Seal.l0 k (y130 ++ l0)) else (none)) = some (r1, r2) := by first | (rw [hy130]; with_reducible exact H) | (have H2_ := (Option.bind_some _ _).symm.trans H; rw [hy130]; with_reducible exact H2_) | (have H2_ := (Option.bind_some _ _).symm.trans H; with_reducible exact H2_) | with_reducible exact H | (rw [hy130]; exact H) | exact H
    have Ny130 := Aside0.mk hy130
    clear hy130
    by_cases c3 : y130.length + l0.length < 140737488355328
    · rw [if_pos c3] at H
      have LMc3 := Aside0.mk c3
      clear c3
      obtain ⟨y133, hy133⟩ : ∃ y_ : List Int, y_ = (y130 ++ l0) := ⟨_, rfl⟩
      replace H : (assartref01_Seal.l0 k y133) = some (r1, r2) := by first | (rw [hy133]; with_reducible exact H) | (have H2_ := (Option.bind_some _ _).symm.trans H; rw [hy133]; with_reducible exact H2_) | (have H2_ := (Option.bind_some _ _).symm.trans H; with_reducible exact H2_) | with_reducible exact H | (rw [hy133]; exact H) | exact H
      have Ny133 := Aside0.mk hy133
      clear hy133
      have H' := Aside0.mk H
      clear H
      go_enter Try.func46, Try.ntmps46
      go_wp2_with (first | ((with_reducible refine gate_dst (N := 8) rfl ?_); refine Kd.R_lit (Kd.int .u8) _ 5 ?hg (N := 8) ?hd (xs := ([] : List Int)) (inner := []) (ok := fun _ => True) (okp := fun _ => True) ?hr ?hp (fun _ hk => hk) trivial (Below.refl _ _) (Nat.le_refl _) (by simp) ?_; (case hd => rfl); (case hg => rfl); (case hr => first | (go_simp; done) | (go_simp; rfl)); (case hp => exact (Reps.none _ _)); intro v131 w4 ho5 hb hg_ hnew_; clear hg_ hnew_; (first | rw [← Ny130.out] at ho5 | (simp only [Int.reduceToNat] at ho5; rw [← Ny130.out] at ho5)); have n0_ := Aside0.mk (Kd.R_lower ho5 (below_size (by repeat (first | (with_reducible first | exact HB.out | apply below_alloc | apply pw_below_drewN | apply below_drew1) | exact HB.out)))); have n1_ := Aside0.mk (below_step (by repeat (first | (with_reducible first | exact HB.out | apply below_alloc | apply pw_below_drewN | apply below_drew1) | exact HB.out)) hb); clear HB; have HO132 := n0_; have HB := n1_; clear n0_ n1_; clear hb ho5) | ((with_reducible refine gate_builtin (b := .append) (xs := #[.tmp 8, .tmp 9]) rfl ?_); at_builtin; refine Kd.R_append_rows (Kd.int .u8) (w0 := w) w.heap.size rfl (.tmp 8) (.tmp 9) 24 5 (.int .u8 0) 1 rfl Try.underlying24 info5 rfl (by decide) (by omega) v131 y130 l0 _ _ _ (fun _ => True) (fun _ => False) rfl rfl ?aO ?aR (fun _ _ h => h) (fun _ h => h.elim) ?aF ?aB ?aS ?aL ?_; (case aR => repeat (first | exact (Kd.C_below HR0.out HB.out) | (with_reducible refine Kd.C_alloc ?_ _) | (with_reducible refine Kd.C_drewN ?_ _) | (with_reducible refine Kd.C_drew ?_))); (case aB => exact (by repeat (first | (with_reducible first | exact HB.out | apply below_alloc | apply pw_below_drewN | apply below_drew1) | exact HB.out))); (case aF => exact (fun _ _ => trivial)); (case aO => exact (by (with_reducible repeat (first | apply Kd.R_alloc | apply Kd.R_drewN | apply Kd.R_drew)); exact HO132.out)); (case aS => exact (below_size (by repeat (first | (with_reducible first | exact HB.out | apply below_alloc | apply pw_below_drewN | apply below_drew1) | exact HB.out)))); (case aL => have := LMc3.out; omega); intro v134 w6 ho hb hg hat; rw [← Ny133.out] at ho; have n0_ := Aside0.mk (hb); have n1_ := Aside0.mk (ho); clear HB; clear HO132; have HB := n0_; have HO135 := n1_; clear n0_ n1_; clear ho hb hg hat))
      go_loopg [4] k (fun kq v4 w' => ∃ (x4_1 : List Int), Aside0 (assartref01_Seal.l0 kq x4_1 = some (r1, r2)) ∧ Aside0 (kq ≤ k) ∧ Aside0 (Kd.R (Kd.int .u8) 5 w' w.heap.size (fun _ => True) v4 x4_1) ∧ Aside0 (Below w.heap.size w w'))
      case atStart => exact ⟨(y133), H', ⟨Nat.le_refl _⟩, ⟨by (with_reducible repeat (first | apply Kd.R_alloc | apply Kd.R_drewN | apply Kd.R_drew)); exact HO135.out⟩, ⟨by repeat (first | (with_reducible first | exact HB.out | apply below_alloc | apply pw_below_drewN | apply below_drew1) | exact HB.out)⟩⟩
      case round =>
        clear H'
        try clear c2
        try clear c2b0
        try clear c2b1
        try clear p2
        try clear c3
        try clear c4
        obtain ⟨x4_1, HA, HK1, HO_4, HB⟩ := hrel
        cases gk with
        | zero => exact absurd HA.out (by simp [assartref01_Seal.l0])
        | succ k1 =>
          have H := HA.out
          clear HA
          simp only [assartref01_Seal.l0] at H
          by_cases c7 : (x4_1.length : Int) < 36
          · rw [if_pos c7] at H
            have c7b0 : decide ((x4_1.length : Int) < 36) = true := decide_eq_true c7
            have c7b1 : decide (x4_1.length < 36) = true := decide_eq_true (by omega)
            clear c7
            by_cases c8 : x4_1.length < 140737488355328
            · rw [if_pos c8] at H
              have LMc8 := Aside0.mk c8
              clear c8
              obtain ⟨y136, hy136⟩ : ∃ y_ : List Int, y_ = (x4_1 ++ [0]) := ⟨_, rfl⟩
              replace H : (assartref01_Seal.l0 k1 y136) = some (r1, r2) := by first | (rw [hy136]; with_reducible exact H) | (have H2_ := (Option.bind_some _ _).symm.trans H; rw [hy136]; with_reducible exact H2_) | (have H2_ := (Option.bind_some _ _).symm.trans H; with_reducible exact H2_) | with_reducible exact H | (rw [hy136]; exact H) | exact H
              have Ny136 := Aside0.mk hy136
              clear hy136
              have H' := Aside0.mk H
              clear H
              obtain ⟨Ao9, co9, eo9⟩ := Kd.R_slice HO_4.out
              subst eo9
              go_wp2_with (first | ((with_reducible refine gate_builtin (b := .append) (xs := #[.tmp 14, .tmp 15]) rfl ?_); at_builtin; refine Kd.R_append (Kd.int .u8) (w0 := w) w.heap.size rfl (.tmp 14) (.tmp 15) 24 5 (.int .u8 0) 1 rfl Try.underlying24 info5 rfl (by decide) (by omega) (.slice Ao9 x4_1.length co9) x4_1 0 [.int .u8 0] (fun _ => True) (fun _ => False) rfl rfl ?aP (fun _ hk => hk.elim) ?aF ?aO ?aB ?aS ?aL ?_; (case aP => exact rfl); (case aB => exact (by repeat (first | (with_reducible first | exact HB.out | apply below_alloc | apply pw_below_drewN | apply below_drew1) | exact HB.out))); (case aF => exact (fun _ _ => trivial)); (case aO => exact (by (with_reducible repeat (first | apply Kd.R_alloc | apply Kd.R_drewN | apply Kd.R_drew)); exact HO_4.out)); (case aS => exact (below_size (by repeat (first | (with_reducible first | exact HB.out | apply below_alloc | apply pw_below_drewN | apply below_drew1) | exact HB.out)))); (case aL => have := LMc8.out; omega); intro v137 w10 ho hb hg hat; rw [← Ny136.out] at ho; have n0_ := Aside0.mk (hb); have n1_ := Aside0.mk (ho); clear HB; clear HO_4; have HB := n0_; have HO138 := n1_; clear n0_ n1_; clear ho hb hg hat))
              go_roundg k1
              case measure => have := HK1.out; omega
              case rel => exact ⟨(y136), H', ⟨by have := HK1.out; omega⟩, ⟨by (with_reducible repeat (first | apply Kd.R_alloc | apply Kd.R_drewN | apply Kd.R_drew)); exact HO138.out⟩, ⟨by repeat (first | (with_reducible first | exact HB.out | apply below_alloc | apply pw_below_drewN | apply below_drew1) | exact HB.out)⟩⟩
            · rw [if_neg c8] at H
              exact absurd H (by simp)
          · rw [if_neg c7] at H
            have c7b0 : decide ((x4_1.length : Int) < 36) = false := decide_eq_false c7
            have c7b1 : decide (x4_1.length < 36) = false := decide_eq_false (by omega)
            clear c7
            replace H := Option.bind_eq_some_iff.mp H
            obtain ⟨t139, A110, H⟩ := H
            replace H : ((assartref01_Put.f k1 t139 4).bind fun t140 => (if x4_1.length + t140.length < 140737488355328 then (some (strOfNums (x4_1 ++ t140), 0)) else (none))) = some (r1, r2) := H
            have A11 := Aside0.mk A110
            clear A110
            replace H := Option.bind_eq_some_iff.mp H
            obtain ⟨t140, A120, H⟩ := H
            replace H : (if x4_1.length + t140.length < 140737488355328 then (some (strOfNums (x4_1 ++ t140), 0)) else (none)) = some (r1, r2) := H
            have A12 := Aside0.mk A120
            clear A120
            by_cases c13 : x4_1.length + t140.length < 140737488355328
            · rw [if_pos c13] at H
              have LMc13 := Aside0.mk c13
              clear c13
              obtain ⟨y143, hy143⟩ : ∃ y_ : List Int, y_ = (x4_1 ++ t140) := ⟨_, rfl⟩
              replace H : (some (strOfNums y143, 0)) = some (r1, r2) := by first | (rw [hy143]; with_reducible exact H) | (have H2_ := (Option.bind_some _ _).symm.trans H; rw [hy143]; with_reducible exact H2_) | (have H2_ := (Option.bind_some _ _).symm.trans H; with_reducible exact H2_) | with_reducible exact H | (rw [hy143]; exact H) | exact H
              have Ny143 := Aside0.mk hy143
              clear hy143
              simp only [Option.some.injEq, Prod.mk.injEq] at H
              obtain ⟨rfl, rfl⟩ := H
              obtain ⟨Ao14, co14, eo14⟩ := Kd.R_slice HO_4.out
              subst eo14
              go_wp2_with (first | ((with_reducible refine gate_callee (f := 53) rfl ?_); refine goesL_ (some 19) rfl rfl Try.func53 (by kernel_rfl) rfl #[.slice Ao14 x4_1.length co14] rfl (by (try simp only [List.map_toArray, List.map_cons, List.map_nil]); first | done | rfl | (simp only [List.length_drop, List.length_take]; rfl)) ?_; (with_reducible refine (assartref01_Sum.calls k1 _ _ x4_1 t139 _ ?side1 ?side2 A11.out).mono ?_); (case side1 => repeat (first | exact (Kd.R_reads' HO_4.out).2.2 | (with_reducible refine Kd.C_alloc ?_ _) | (with_reducible refine Kd.C_drewN ?_ _) | (with_reducible refine Kd.C_drew ?_))); (case side2 => exact (Kd.R_reads' HO_4.out).2.1); rintro e w' ⟨rfl, ⟨nd, rfl⟩⟩; refine ⟨_, rfl, ?_⟩) | ((with_reducible refine gate_callee (f := 45) rfl ?_); refine goesL_ (some 20) rfl rfl Try.func45 (by kernel_rfl) rfl #[.int .i64 t139, .int .i64 4] rfl (by (try simp only [List.map_toArray, List.map_cons, List.map_nil]); first | done | rfl | (simp only [List.length_drop, List.length_take]; rfl)) ?_; (with_reducible refine (assartref01_Put.calls k1 t139 4 t140 _ A12.out).mono ?_); rintro e w15 ⟨v141, rfl, ho0, hb⟩; refine ⟨_, rfl, ?_⟩; have n0_ := Aside0.mk (Kd.R_elder' (by (with_reducible repeat (first | apply Kd.R_alloc | apply Kd.R_drewN | apply Kd.R_drew)); exact HO_4.out) (Kd.R_base ho0) hb); have n1_ := Aside0.mk (Kd.R_lower (Kd.R_new' ho0 (Kd.R_lt (by (with_reducible repeat (first | apply Kd.R_alloc | apply Kd.R_drewN | apply Kd.R_drew)); exact HO_4.out))) (below_size (by repeat (first | (with_reducible first | exact HB.out | apply below_alloc | apply pw_below_drewN | apply below_drew1) | exact HB.out)))); have n2_ := Aside0.mk (below_step (by repeat (first | (with_reducible first | exact HB.out | apply below_alloc | apply pw_below_drewN | apply below_drew1) | exact HB.out)) hb); clear HO_4; clear HB; have HO_4 := n0_; have HO142 := n1_; have HB := n2_; clear n0_ n1_ n2_; (try clear hb); (try clear hb2); (try clear hk); (try clear hi); (try clear ho0); obtain ⟨Ao17, co17, eo17⟩ := Kd.R_slice HO142.out; subst eo17) | ((with_reducible refine gate_builtin (b := .append) (xs := #[.tmp 17, .tmp 20]) rfl ?_); at_builtin; refine Kd.R_append_rows (Kd.int .u8) (w0 := w) w.heap.size rfl (.tmp 17) (.tmp 20) 24 5 (.int .u8 0) 1 rfl Try.underlying24 info5 rfl (by decide) (by omega) (.slice Ao14 x4_1.length co14) x4_1 t140 _ _ _ (fun k_ => some k_ ≠ (.slice Ao17 t140.length co17 : Value).ownBlock) (fun _ => False) rfl rfl ?aO ?aR (fun _ _ h => h) (fun _ h => h.elim) ?aF ?aB ?aS ?aL ?_; (case aR => repeat (first | exact (Kd.R_reads' HO142.out).2.2 | (with_reducible refine Kd.C_alloc ?_ _) | (with_reducible refine Kd.C_drewN ?_ _) | (with_reducible refine Kd.C_drew ?_))); (case aB => exact (by repeat (first | (with_reducible first | exact HB.out | apply below_alloc | apply pw_below_drewN | apply below_drew1) | exact HB.out))); (case aF => exact (fun k_ hk => Kd.fresh' (Kd.R_lt (by (with_reducible repeat (first | apply Kd.R_alloc | apply Kd.R_drewN | apply Kd.R_drew)); exact HO142.out)) k_ hk)); (case aO => exact (by (with_reducible repeat (first | apply Kd.R_alloc | apply Kd.R_drewN | apply Kd.R_drew)); exact Kd.R_mono HO_4.out (fun _ hk => hk.2))); (case aS => exact (below_size (by repeat (first | (with_reducible first | exact HB.out | apply below_alloc | apply pw_below_drewN | apply below_drew1) | exact HB.out)))); (case aL => have := LMc13.out; omega); intro v144 w16 ho hb hg hat; rw [← Ny143.out] at ho; have n0_ := Aside0.mk (Kd.R_after (ok := (fun _ => True)) (by (with_reducible repeat (first | apply Kd.R_alloc | apply Kd.R_drewN | apply Kd.R_drew)); exact HO142.out) hg hat); have n1_ := Aside0.mk (hb); have n2_ := Aside0.mk (ho); clear HO142; clear HB; clear HO_4; have HO142 := n0_; have HB := n1_; have HO145 := n2_; clear n0_ n1_ n2_; clear ho hb hg hat; have hcv18 := own_string (P := Try.prog) Try.underlying24 Try.underlying5 Try.underlying9 (Kd.own_of_R HO145.out)))
              go_ret2
              exact ⟨by first | rfl | (simp [errW_none, errW_some] <;> rfl) | (simp [*, errW_none, errW_some] <;> rfl), by repeat (first | (with_reducible first | exact HB.out | apply below_alloc | apply pw_below_drewN | apply below_drew1) | exact HB.out)⟩
            · rw [if_neg c13] at H
              exact absurd H (by simp)
    · rw [if_neg c3] at H
      exact absurd H (by simp)

end Go.Proofs.Ythjnkapkhphpeaa.P
end
section
namespace Go.Proofs.Ythjnkapkhphpeaa.P
open Go.RowKit Go.Proofs.YthjnkapkhphpeaaW.PrintWords Go.Proofs.YthjnkapkhphpeaaW.PrintLast Go.Proofs.YthjnkapkhphpeaaW.PrintMore
set_option linter.unusedVariables false
set_option linter.unusedSimpArgs false
theorem wrap_u32 (n : Int) (h0 : 0 ≤ n) (h1 : n < 2 ^ 32) : IntKind.u32.wrap n = n := by rw [IntKind.wrap_u32]; omega
theorem and1 {n : Int} (h0 : 0 ≤ n) (h1 : n < 4294967296) : Go.bits .and .u32 n 1 = n % 2 := bits_mask .u32 32 (by decide) wrap_u32 1 (by decide) n h0 (by simpa using h1)
theorem xor_val {a b : Int} (ha : 0 ≤ a) (ha1 : a < 4294967296) (hb : 0 ≤ b) (hb1 : b < 4294967296) : assartref01_xor.f a b = some (Go.bits .xor .u32 a b) := by
  unfold assartref01_xor.f
  rw [Int.emod_eq_of_lt ha ha1, Int.emod_eq_of_lt hb hb1, w64 (by have := xor_bd a b; omega) (by have := xor_bd a b; omega)]
theorem l1_step (d : Nat) : ∀ (k : Nat) (l : List Int) (x i : Int), 0 ≤ x → x < 4294967296 → d ≤ 8 → d < k → assartref01_Sum.l1 k l x i (8 - d) = assartref01_Sum.l0 (k - d - 1) l (stN d x) (wrap64 (i + 1)) := by
  induction d with
  | zero =>
    intro k l x i h0 h1 hd hk
    obtain ⟨k, rfl⟩ : ∃ m, k = m + 1 := ⟨k - 1, by omega⟩
    simp [assartref01_Sum.l1, stN]
  | succ d ih =>
    intro k l x i h0 h1 hd hk
    obtain ⟨k, rfl⟩ : ∃ m, k = m + 1 := ⟨k - 1, by omega⟩
    have hlt : (8 : Int) - ((d + 1 : Nat) : Int) < 8 := by omega
    have ew : wrap64 (8 - ((d + 1 : Nat) : Int) + 1) = 8 - (d : Int) := by rw [w64 (by omega) (by omega)]; omega
    have et : Int.tmod x 2 = x % 2 := Int.tmod_eq_emod_of_nonneg h0
    have ed : Int.tdiv x 2 = x / 2 := Int.tdiv_eq_ediv_of_nonneg h0
    have hs : st x = if x % 2 = 1 then Go.bits .xor .u32 (x / 2) 3988292384 else x / 2 := by
      unfold st
      rw [and1 h0 h1]
      by_cases h : x % 2 = 1 <;> simp [h]
    simp only [assartref01_Sum.l1]
    rw [if_pos hlt, ew, et, ed, w64 (by omega) (by omega), show k + 1 - (d + 1) - 1 = k - d - 1 by omega, stN, hs]
    by_cases h : x % 2 = 1
    · rw [if_pos h, if_pos h, xor_val (by omega) (by omega) (by omega) (by omega)]
      simp only [Option.bind_some]
      exact ih k l _ i (xor_bd _ _).1 (xor_bd _ _).2 (by omega) (by omega)
    · rw [if_neg h, if_neg h]
      exact ih k l _ i (by omega) (by omega) (by omega) (by omega)
theorem l0_step (l : List Int) (hl : l.length ≤ 140737488355328) (hb : ∀ x ∈ l, 0 ≤ x ∧ x < 256) (d : Nat) : ∀ (k i : Nat), i + d = l.length → 10 * d < k → assartref01_Sum.l0 k l (regI (l.take i)) i = some (crc l) := by
  induction d with
  | zero =>
    intro k i hi hk
    obtain ⟨k, rfl⟩ : ∃ m, k = m + 1 := ⟨k - 1, by omega⟩
    obtain rfl : i = l.length := by omega
    have hbd := regI_bd l
    simp only [assartref01_Sum.l0]
    rw [if_neg (by omega), List.take_length, xor_val hbd.1 hbd.2 (by omega) (by omega)]
    simp only [Option.bind_some, crc]
    rw [w64 (by have := xor_bd IntKind.u32.max (regI l); omega) (by have := xor_bd IntKind.u32.max (regI l); omega)]
    congr 1
    simp only [Go.bits]
    rw [BitVec.xor_comm]
    rfl
  | succ d ih =>
    intro k i hi hk
    obtain ⟨k, rfl⟩ : ∃ m, k = m + 1 := ⟨k - 1, by omega⟩
    have hbd := regI_bd (l.take i)
    have hc := lt_of_all hb i
    simp only [assartref01_Sum.l0]
    rw [if_pos (by omega), if_pos (by omega), w64 (by omega) (by omega), xor_val hbd.1 hbd.2 hc.1 (by omega)]
    simp only [Option.bind_some]
    have := l1_step 8 k l (Go.bits .xor .u32 (regI (l.take i)) (rd l i)) i (xor_bd _ _).1 (xor_bd _ _).2 (by omega) (by omega)
    simp only [Int.sub_self, show (8 : Int) - ((8 : Nat) : Int) = 0 by omega] at this
    rw [this, w64 (by omega) (by omega)]
    have e := regI_snoc l i (by omega)
    unfold byteI at e
    rw [Int.emod_eq_of_lt hc.1 (by omega)] at e
    rw [← e]
    exact ih _ (i + 1) (by omega) (by omega)
/-- The document's check sum is ours. -/
theorem refSum_val (l : List Int) (hl : l.length ≤ 140737488355328) (hb : ∀ x ∈ l, 0 ≤ x ∧ x < 256) (k : Nat) (hk : 10 * l.length < k) : assartref01_Sum.f k l = some (crc l) := by
  have := l0_step l hl hb l.length k 0 (by omega) hk
  simpa [assartref01_Sum.f, regI] using this
theorem limit_val (k : Nat) (w : Int) (h1 : 1 ≤ w) (h4 : w ≤ 4) : assartref01_limit.f (k + 6) w = some (256 ^ w.toNat) := by
  rcases pow4 h1 h4 with rfl | rfl | rfl | rfl <;> simp [assartref01_limit.f, assartref01_limit.l0, wrap64]
theorem refPut_val (k : Nat) (n w : Int) (h1 : 1 ≤ w) (h4 : w ≤ 4) (h0 : 0 ≤ n) (hn : n < 256 ^ w.toNat) : assartref01_Put.f (k + 6) n w = some (le n w) := by
  have hl := limit_val k w h1 h4
  have hz : ¬ n < 0 := by omega
  have tq : ∀ m : Int, 0 ≤ m → Int.tdiv m 256 = m / 256 := fun m h => Int.tdiv_eq_ediv_of_nonneg h
  have tr : ∀ m : Int, 0 ≤ m → Int.tmod m 256 = m % 256 := fun m h => Int.tmod_eq_emod_of_nonneg h
  have q1 : (0 : Int) ≤ n / 256 := by omega
  have q2 : (0 : Int) ≤ n / 256 / 256 := by omega
  have q3 : (0 : Int) ≤ n / 256 / 256 / 256 := by omega
  have e1 : n / 65536 = n / 256 / 256 := by omega
  have e2 : n / 16777216 = n / 256 / 256 / 256 := by omega
  rcases pow4 h1 h4 with rfl | rfl | rfl | rfl
  all_goals
    simp at hn
    have w1 : wrap64 (n / 256) = n / 256 := w64 (by omega) (by omega)
    have w2 : wrap64 (n / 256 / 256) = n / 256 / 256 := w64 (by omega) (by omega)
    have w3 : wrap64 (n / 256 / 256 / 256) = n / 256 / 256 / 256 := w64 (by omega) (by omega)
    have w4 : wrap64 (n / 256 / 256 / 256 / 256) = n / 256 / 256 / 256 / 256 := w64 (by omega) (by omega)
    have hgt : ¬ n ≥ 256 ^ 1 ∨ True := .inr trivial
    simp only [assartref01_Put.f]
    rw [if_neg (by decide), if_neg (by decide), if_neg hz, hl]
    simp only [Option.bind_some]
    simp [assartref01_Put.j0, assartref01_Put.l0, tq, tr, h0, q1, q2, q3, w1, w2, w3, w4, le, le4, e1, e2, show (1 : Int) + 1 = 2 from rfl, w64]
    try omega
theorem refPut_none (k : Nat) (n w : Int) (h : ¬ (1 ≤ w ∧ w ≤ 4 ∧ 0 ≤ n ∧ n < 256 ^ w.toNat)) : assartref01_Put.f (k + 6) n w = some [] := by
  simp only [assartref01_Put.f]
  by_cases h1 : w < 1
  · rw [if_pos h1]; simp [assartref01_Put.j0]
  · rw [if_neg h1]
    by_cases h4 : w > 4
    · rw [if_pos h4]; simp [assartref01_Put.j0]
    · rw [if_neg h4]
      by_cases h0 : n < 0
      · rw [if_pos h0]; simp [assartref01_Put.j0]
      · rw [if_neg h0, limit_val k w (by omega) (by omega)]
        simp only [Option.bind_some]
        have : n ≥ 256 ^ w.toNat := by
          have : ¬ n < 256 ^ w.toNat := fun hn => h ⟨by omega, by omega, by omega, hn⟩
          omega
        simp [assartref01_Put.j0, this]
theorem refTake_val (k : Nat) (l : List Int) (a w : Int) (hl : l.length ≤ 140737488355328) (hb : ∀ x ∈ l, 0 ≤ x ∧ x < 256) (h1 : 1 ≤ w) (h4 : w ≤ 4) (h0 : 0 ≤ a) (ha : a + w ≤ l.length) : assartref01_Take.f (k + 6) l a w = some (lev l a w, a + w, 0) := by
  have b0 := lt_of_all hb a
  have b1 := lt_of_all hb (a + 1)
  have b2 := lt_of_all hb (a + 2)
  have b3 := lt_of_all hb (a + 3)
  have ew : wrap64 ((l.length : Int) - a) = l.length - a := w64 (by omega) (by omega)
  have q0 : wrap64 a = a := w64 (by omega) (by omega)
  have q1 : wrap64 (a + 1) = a + 1 := w64 (by omega) (by omega)
  have q2 : wrap64 (a + 2) = a + 2 := w64 (by omega) (by omega)
  have q3 : wrap64 (a + 3) = a + 3 := w64 (by omega) (by omega)
  have q4 : wrap64 (a + 4) = a + 4 := w64 (by omega) (by omega)
  have r0 : wrap64 (rd l a) = rd l a := w64 (by omega) (by omega)
  have r1 : wrap64 (rd l (a + 1)) = rd l (a + 1) := w64 (by omega) (by omega)
  have r2 : wrap64 (rd l (a + 2)) = rd l (a + 2) := w64 (by omega) (by omega)
  have r3 : wrap64 (rd l (a + 3)) = rd l (a + 3) := w64 (by omega) (by omega)
  have v1 : (0 : Int) ≤ a + 1 := by omega
  have v2 : (0 : Int) ≤ a + 2 := by omega
  have v3 : (0 : Int) ≤ a + 3 := by omega
  have c0 : a < l.length := by omega
  simp only [assartref01_Take.f]
  rw [if_neg (by omega), if_neg (by omega), if_neg (by omega), if_neg (by omega), ew]
  have hd : decide ((l.length : Int) - a < w) = false := by simp; omega
  rw [hd]
  rcases pow4 h1 h4 with rfl | rfl | rfl | rfl
  · simp [assartref01_Take.j0, assartref01_Take.l0, h0, c0, lev, q0, q1, q2, q3, q4, r0, w64]
  · have c1 : a + 1 < l.length := by omega
    have t1 : wrap64 (wrap64 (rd l (a + 1) * 256) + rd l a) = rd l a + 256 * rd l (a + 1) := by rw [w64 (x := rd l (a + 1) * 256) (by omega) (by omega), w64 (by omega) (by omega)]; omega
    simp [assartref01_Take.j0, assartref01_Take.l0, h0, c0, c1, lev, q0, q1, q2, q3, q4, r0, r1, v1, w64, t1]
  · have c1 : a + 1 < l.length := by omega
    have c2 : a + 2 < l.length := by omega
    have t1 : wrap64 (wrap64 (rd l (a + 2) * 256) + rd l (a + 1)) = rd l (a + 1) + 256 * rd l (a + 2) := by rw [w64 (x := rd l (a + 2) * 256) (by omega) (by omega), w64 (by omega) (by omega)]; omega
    have t2 : wrap64 (wrap64 ((rd l (a + 1) + 256 * rd l (a + 2)) * 256) + rd l a) = rd l a + 256 * rd l (a + 1) + 65536 * rd l (a + 2) := by rw [w64 (x := (rd l (a + 1) + 256 * rd l (a + 2)) * 256) (by omega) (by omega), w64 (by omega) (by omega)]; omega
    simp [assartref01_Take.j0, assartref01_Take.l0, h0, c0, c1, c2, lev, q0, q1, q2, q3, q4, r0, r1, r2, v1, v2, w64, t1, t2]
  · have c1 : a + 1 < l.length := by omega
    have c2 : a + 2 < l.length := by omega
    have c3 : a + 3 < l.length := by omega
    have t1 : wrap64 (wrap64 (rd l (a + 3) * 256) + rd l (a + 2)) = rd l (a + 2) + 256 * rd l (a + 3) := by rw [w64 (x := rd l (a + 3) * 256) (by omega) (by omega), w64 (by omega) (by omega)]; omega
    have t2 : wrap64 (wrap64 ((rd l (a + 2) + 256 * rd l (a + 3)) * 256) + rd l (a + 1)) = rd l (a + 1) + 256 * rd l (a + 2) + 65536 * rd l (a + 3) := by rw [w64 (x := (rd l (a + 2) + 256 * rd l (a + 3)) * 256) (by omega) (by omega), w64 (by omega) (by omega)]; omega
    have t3 : wrap64 (wrap64 ((rd l (a + 1) + 256 * rd l (a + 2) + 65536 * rd l (a + 3)) * 256) + rd l a) = rd l a + 256 * rd l (a + 1) + 65536 * rd l (a + 2) + 16777216 * rd l (a + 3) := by rw [w64 (x := (rd l (a + 1) + 256 * rd l (a + 2) + 65536 * rd l (a + 3)) * 256) (by omega) (by omega), w64 (by omega) (by omega)]; omega
    simp [assartref01_Take.j0, assartref01_Take.l0, h0, c0, c1, c2, c3, lev, q0, q1, q2, q3, q4, r0, r1, r2, r3, v1, v2, v3, w64, t1, t2, t3]
theorem refTake_none (k : Nat) (l : List Int) (a w : Int) (hl : l.length ≤ 140737488355328) (h : ¬ (1 ≤ w ∧ w ≤ 4 ∧ 0 ≤ a ∧ a + w ≤ l.length)) : assartref01_Take.f (k + 6) l a w = some (0, 0, 2) := by
  simp only [assartref01_Take.f]
  by_cases h1 : w < 1
  · rw [if_pos h1]; simp [assartref01_Take.j0]
  · rw [if_neg h1]
    by_cases h4 : w > 4
    · rw [if_pos h4]; simp [assartref01_Take.j0]
    · rw [if_neg h4]
      by_cases h0 : a < 0
      · rw [if_pos h0]; simp [assartref01_Take.j0]
      · rw [if_neg h0]
        by_cases h2 : a > (l.length : Int)
        · rw [if_pos h2]; simp [assartref01_Take.j0]
        · rw [if_neg h2, w64 (by omega) (by omega)]
          have hd : decide ((l.length : Int) - a < w) = true := by simp; omega
          rw [hd]
          simp [assartref01_Take.j0]
theorem refSeal_l0 (d : Nat) : ∀ (k : Nat) (l : List Int), l.length + d = 36 → d < k → assartref01_Seal.l0 k l = assartref01_Seal.l0 (k - d) (l ++ List.replicate d 0) := by
  induction d with
  | zero => intro k l h hk; simp
  | succ d ih =>
    intro k l h hk
    obtain ⟨k, rfl⟩ : ∃ m, k = m + 1 := ⟨k - 1, by omega⟩
    simp only [assartref01_Seal.l0]
    rw [if_pos (by omega), if_pos (by omega), ih k _ (by simp; omega) (by omega)]
    rw [show k + 1 - (d + 1) = k - d by omega, List.append_assoc]
    have : [(0 : Int)] ++ List.replicate d 0 = List.replicate (d + 1) 0 := by rw [List.replicate_succ]; rfl
    rw [this]
theorem pad_bd {l : List Int} (hb : ∀ x ∈ l, 0 ≤ x ∧ x < 256) : ∀ x ∈ pad l, 0 ≤ x ∧ x < 256 := by
  intro x hx
  simp only [pad, List.mem_append, List.mem_replicate] at hx
  rcases hx with hx | ⟨_, rfl⟩
  · exact hb x hx
  · omega
theorem pad_len {l : List Int} (h : l.length ≤ 36) : (pad l).length = 36 := by simp [pad]; omega
theorem refSeal_end (k : Nat) (l : List Int) (hl : l.length = 36) (hb : ∀ x ∈ l, 0 ≤ x ∧ x < 256) (hk : 400 < k) : assartref01_Seal.l0 (k + 1) l = some (strOfNums (l ++ le (crc l) 4), 0) := by
  have hcb := crc_bd l
  have h1 := refSum_val l (by omega) hb k (by omega)
  obtain ⟨i, hi⟩ : ∃ m, k = m + 6 := ⟨k - 6, by omega⟩
  have h2 : assartref01_Put.f k (crc l) 4 = some (le (crc l) 4) := by rw [hi]; exact refPut_val i _ 4 (by omega) (by omega) hcb.1 (by simpa using hcb.2)
  have hll : (le (crc l) 4).length = 4 := rfl
  simp only [assartref01_Seal.l0]
  rw [if_neg (by omega), h1, Option.bind_some, h2, Option.bind_some, if_pos (by omega)]
theorem refSeal_val (l : List Int) (hl : l.length ≤ 140737488355328) (hb : ∀ x ∈ l, 0 ≤ x ∧ x < 256) (k : Nat) (hk : 500 < k) : assartref01_Seal.f k l = num_Seal.f l := by
  unfold assartref01_Seal.f num_Seal.f
  by_cases h : 36 < l.length
  · rw [if_pos (by omega), if_pos h]
  · rw [if_neg (by omega), if_neg h]
    simp only [Option.bind_some, List.nil_append, List.length_nil]
    rw [if_pos (by omega), refSeal_l0 (36 - l.length) k l (by omega) (by omega)]
    obtain ⟨j, hj⟩ : ∃ m, k - (36 - l.length) = m + 1 := ⟨k - (36 - l.length) - 1, by omega⟩
    rw [hj]
    exact refSeal_end j (pad l) (pad_len (by omega)) (pad_bd hb) (by omega)
end Go.Proofs.Ythjnkapkhphpeaa.P
end
section
namespace Go.Proofs.Ythjnkapkhphpeaa.P
open Go.RowKit Go.Proofs.YthjnkapkhphpeaaW.PrintWords Go.Proofs.YthjnkapkhphpeaaW.PrintLast Go.Proofs.YthjnkapkhphpeaaW.PrintMore
set_option linter.unusedVariables false
set_option linter.unusedSimpArgs false
theorem bytesOf_str {l : List Int} (hb : ∀ x ∈ l, 0 ≤ x ∧ x < 256) : bytesOf (strOfNums l) = l := by
  unfold bytesOf strOfNums
  simp only [List.map_map]
  conv => rhs; rw [← List.map_id l]
  refine List.map_congr_left fun x hx => ?_
  have := hb x hx
  simp
  omega
theorem lit_C (W : World) (e : TypeId) (l : List Int) (m : Nat × Nat) (hl : l.length ≤ 9223372036854775807) : Kd.C (Kd.int .u8) (W.alloc (.cells (encs (Value.int .u8) l).toArray e m)) (some ⟨W.heap.size, 0, none⟩) l.length l := by
  refine Kd.C_of_reads (d := (0 : Int)) ⟨rfl, hl, fun h => ⟨⟨W.heap.size, 0, none⟩, rfl, fun j hj => ?_⟩⟩
  rw [add_plain, World.cell?_alloc_mark]
  have := encs_get (enc := Value.int .u8) (d := (0 : Int)) l j hj
  simpa using this
theorem sum_ex : crc [49, 50, 51, 52, 53, 54, 55, 56, 57] = 3421780262 := by decide +kernel
theorem put_ex : num_Put.f 6 258 2 = some [2, 1] := by decide +kernel
theorem take_ex : num_Take.f 6 [2, 1] 0 2 = some (258, 2, 0) := by decide +kernel
theorem seal_bytes {l : List Int} (hl : l.length ≤ 36) (hb : ∀ x ∈ l, 0 ≤ x ∧ x < 256) : bytesOf (strOfNums (pad l ++ le (crc (pad l)) 4)) = pad l ++ le (crc (pad l)) 4 := by
  refine bytesOf_str fun x hx => ?_
  rcases List.mem_append.1 hx with hx | hx
  · simp only [pad, List.mem_append, List.mem_replicate] at hx
    rcases hx with hx | ⟨_, rfl⟩
    · exact hb x hx
    · omega
  · have : x ∈ le4 (crc (pad l)) := List.mem_of_mem_take hx
    simp only [le4, List.mem_cons, List.not_mem_nil, or_false] at this
    rcases this with rfl | rfl | rfl | rfl <;> omega
theorem lev_le (l : List Int) (n : Int) (h0 : 0 ≤ n) (h1 : n < 4294967296) (hl : l.length = 36) : lev (l ++ le n 4) 36 4 = n := by
  have hr : ∀ j : Nat, j < 4 → rd (l ++ le n 4) (36 + (j : Int)) = (le4 n).getD j 0 := by
    intro j hj
    unfold rd
    rw [show (36 + (j : Int)).toNat = 36 + j by omega, List.getD_eq_getElem?_getD, List.getElem?_append_right (by omega), hl, List.getD_eq_getElem?_getD]
    simp [le, le4]
  have e0 := hr 0 (by omega)
  have e1 := hr 1 (by omega)
  have e2 := hr 2 (by omega)
  have e3 := hr 3 (by omega)
  simp [le4] at e0 e1 e2 e3
  simp only [lev]
  rw [e0, show (36 : Int) + 1 = 37 from rfl, show (36 : Int) + 2 = 38 from rfl, show (36 : Int) + 3 = 39 from rfl, e1, e2, e3]
  simp
  omega
theorem open_seal {l : List Int} (hl : l.length ≤ 36) (hb : ∀ x ∈ l, 0 ≤ x ∧ x < 256) : num_Open.f (strOfNums (pad l ++ le (crc (pad l)) 4)) = some (pad l, 0) := by
  have hp : (pad l).length = 36 := by simp [pad]; omega
  have ht : (pad l ++ le (crc (pad l)) 4).take 36 = pad l := by rw [List.take_append_of_le_length (by omega), List.take_of_length_le (by omega)]
  have hs : isSealed (pad l ++ le (crc (pad l)) 4) = true := by
    unfold isSealed
    rw [ht, lev_le _ _ (crc_bd _).1 (crc_bd _).2 hp]
    simp [hp]
    rfl
  unfold num_Open.f
  rw [seal_bytes hl hb, hs, ht]
  rfl
theorem seal_size {l : List Int} (h : l.length ≤ 36) : (strOfNums (pad l ++ le (crc (pad l)) 4)).size = 40 := by
  have hp := pad_len h
  simp [strOfNums, ByteArray.size, hp, le, le4]
theorem pad_lo {l : List Int} {k : Nat} (h : k < l.length) : rd (pad l) (k : Int) = rd l k := by
  simp [rd, pad, List.getD_eq_getElem?_getD, List.getElem?_append_left h]
theorem pad_hi {l : List Int} {k : Nat} (h : ¬ k < l.length) : rd (pad l) (k : Int) = 0 := by
  simp only [rd, pad, Int.toNat_natCast, List.getD_eq_getElem?_getD]
  rw [List.getElem?_append_right (by omega)]
  cases h2 : (List.replicate (36 - l.length) (0 : Int))[k - l.length]? with
  | none => rfl
  | some x =>
    have := List.mem_of_getElem? h2
    simp at this
    simp [this.2]
theorem lev_back {b : List Int} (hb : ∀ x ∈ b, 0 ≤ x ∧ x < 256) (hl : b.length = 40) : le (lev b 36 4) 4 = b.drop 36 := by
  have r := lt_of_all hb
  have r0 := r 36
  have r1 := r 37
  have r2 := r 38
  have r3 := r 39
  have hd : b.drop 36 = [rd b 36, rd b 37, rd b 38, rd b 39] := by
    apply List.ext_getElem
    · simp [hl]
    · intro i h1 h2
      simp at h2
      rcases (show i = 0 ∨ i = 1 ∨ i = 2 ∨ i = 3 by omega) with rfl | rfl | rfl | rfl <;> simp [rd, hl]
  rw [hd]
  simp only [le, le4, lev]
  simp
  omega
theorem str_bytesOf (s : ByteArray) : strOfNums (bytesOf s) = s := by
  unfold strOfNums bytesOf
  simp only [List.map_map]
  have : (s.data.toList.map ((fun n : Int => UInt8.ofNat n.toNat) ∘ fun b => (b.toNat : Int))) = s.data.toList := by
    conv => rhs; rw [← List.map_id s.data.toList]
    exact List.map_congr_left fun x _ => by simp
  rw [this]
theorem seal_of_sealed {s : ByteArray} (h : isSealed (bytesOf s) = true) : num_Seal.f ((bytesOf s).take 36) = some (s, 0) := by
  unfold isSealed at h
  simp only [Bool.and_eq_true, decide_eq_true_eq] at h
  obtain ⟨hl, hc⟩ := h
  have ht : ((bytesOf s).take 36).length = 36 := by rw [List.length_take]; omega
  have hp : pad ((bytesOf s).take 36) = (bytesOf s).take 36 := by unfold pad; rw [ht]; simp
  unfold num_Seal.f
  rw [if_neg (by omega), hp, ← hc, lev_back (bytesOf_bd s) hl, List.take_append_drop, str_bytesOf]
end Go.Proofs.Ythjnkapkhphpeaa.P
end
section
/- slot.Right: the document's condition (num.Put answers nil just where the number is too big). -/
namespace Go.Proofs.Ythjnkapkhphpeaa.P
open Go.RowKit Go.Proofs.YthjnkapkhphpeaaW.PrintWords Go.Proofs.YthjnkapkhphpeaaW.PrintLast Go.Proofs.YthjnkapkhphpeaaW.PrintMore
set_option linter.unusedVariables false
set_option linter.unusedSimpArgs false
set_option maxHeartbeats 4000000 in
set_option maxRecDepth 100000 in
theorem Put_nil (n : Int) (w : World) (h : n < 0 ∨ 4294967296 ≤ n) : Calls Try.prog 43 #[.int .i64 n, .int .i64 4] w fun e w' => e = .returned (.slice none 0 0) ∧ Below w.heap.size w w' := by
  by_cases h0 : n < 0
  · have d0 : decide (n < 0) = true := by simpa using h0
    go_enter Try.func43, Try.ntmps43
    go_wp2_with fail
    refine (num_isWide.calls 4 true _ rfl).mono ?_
    rintro e wa ⟨rfl, ⟨nd, rfl⟩⟩
    go_wp2
    go_ret
    exact ⟨rfl, pw_below_drewN (Below.refl _ _) _⟩
  · have d0 : decide (n < 0) = false := by simpa using h0
    have d1 : decide ((0 : Int) < n / 4294967296) = true := by simp; omega
    go_enter Try.func43, Try.ntmps43
    go_wp2_with fail
    refine (num_isWide.calls 4 true _ rfl).mono ?_
    rintro e wa ⟨rfl, ⟨nd, rfl⟩⟩
    go_wp2
    go_ret
    exact ⟨rfl, pw_below_drewN (Below.refl _ _) _⟩
theorem R_some {e : Nat} {w : World} {base : Nat} {ok : Nat → Prop} {v : Value} {xs : List Int} (h : Kd.R (Kd.int .u8) e w base ok v xs) (hx : xs ≠ []) : ∃ (A : Addr) (n c : Nat), v = .slice (some A) n c := by
  obtain ⟨_, inner, ho, _⟩ := h
  rcases ho.2 with h2 | ⟨g, cap, cur, rfl, _⟩
  · exfalso
    have := h2.2
    simp at this
    exact hx this
  · exact ⟨_, _, _, rfl⟩
def slot_Right.f (a0_0 : Int) (a0_1 : Int) (a0_2 : Int) : Option Bool := some (decide (1 ≤ a0_0) && (decide (a0_0 ≤ 2147483647) && (decide (0 ≤ a0_1) && (decide (a0_1 ≤ 2147483647) && decide (0 ≤ a0_2 ∧ a0_2 < 4294967296)))))
set_option maxHeartbeats 8000000 in
set_option maxRecDepth 100000 in
theorem slot_Right.calls (a0_0 : Int) (a0_1 : Int) (a0_2 : Int) (r : Bool) (w : World) (h : slot_Right.f a0_0 a0_1 a0_2 = some r) :
    Calls Try.prog 24 #[.agg #[.int .i64 a0_0, .int .i64 a0_1, .int .i64 a0_2]] w fun e w' => e = .returned (.bool r) ∧ Below w.heap.size w w' := by
  have hu23 := Try.underlying23
  have hu24 := Try.underlying24
  obtain rfl := Option.some.inj h
  clear h
  obtain ⟨b0, d0⟩ : ∃ b, decide (1 ≤ a0_0) = b := ⟨_, rfl⟩
  obtain ⟨b1, d1⟩ : ∃ b, decide (a0_0 ≤ 2147483647) = b := ⟨_, rfl⟩
  obtain ⟨b2, d2⟩ : ∃ b, decide (0 ≤ a0_1) = b := ⟨_, rfl⟩
  obtain ⟨b3, d3⟩ : ∃ b, decide (a0_1 ≤ 2147483647) = b := ⟨_, rfl⟩
  rw [d0, d1, d2, d3]
  by_cases ha : b0 = true ∧ b1 = true ∧ b2 = true ∧ b3 = true
  · obtain ⟨rfl, rfl, rfl, rfl⟩ := ha
    by_cases hp : 0 ≤ a0_2 ∧ a0_2 < 4294967296
    · have HP := Aside0.mk (Put_val 0 a0_2 4 (by omega) (by omega) hp.1 (by simpa using hp.2))
      rw [decide_eq_true hp]
      clear hp
      go_enter Try.func24, Try.ntmps24
      go_wp2_with (first | ((with_reducible refine gate_dst (N := 1) rfl ?_); refine box_event ?hg (N := 1) ?hd (cs := #[.int .i64 a0_0, .int .i64 a0_1, .int .i64 a0_2]) (t := 23) ?hr ?_; (case hd => rfl); (case hg => rfl); (case hr => first | (go_simp; done) | (go_simp; rfl)); intro gb hg wb hbox hb; have HB := Aside0.mk hb; have z0 : wb.cell? ⟨gb, 0, none⟩ = some (.int .i64 a0_0) := (blk_cell hbox 0).trans rfl; have z1 : wb.cell? ⟨gb, 1, none⟩ = some (.int .i64 a0_1) := (blk_cell hbox 1).trans rfl; have z2 : wb.cell? ⟨gb, 2, none⟩ = some (.int .i64 a0_2) := (blk_cell hbox 2).trans rfl; clear hb hbox hg) | fail)
      refine (num_Put.calls _ _ _ _ _ HP.out).mono ?_
      rintro e wc ⟨v0, rfl, hr, hbc⟩
      obtain ⟨A, n, c, rfl⟩ := R_some hr (by simp [le, le4])
      have HBc : Aside0 (Below w.heap.size w wc) := ⟨HB.out.trans (hbc.mono HB.out.size)⟩
      clear hr hbc HB
      go_wp2
      go_ret
      exact ⟨rfl, HBc.out⟩
    · have HP := Aside0.mk (fun W => Put_nil a0_2 W (by omega))
      rw [decide_eq_false hp]
      clear hp
      go_enter Try.func24, Try.ntmps24
      go_wp2_with (first | ((with_reducible refine gate_dst (N := 1) rfl ?_); refine box_event ?hg (N := 1) ?hd (cs := #[.int .i64 a0_0, .int .i64 a0_1, .int .i64 a0_2]) (t := 23) ?hr ?_; (case hd => rfl); (case hg => rfl); (case hr => first | (go_simp; done) | (go_simp; rfl)); intro gb hg wb hbox hb; have HB := Aside0.mk hb; have z0 : wb.cell? ⟨gb, 0, none⟩ = some (.int .i64 a0_0) := (blk_cell hbox 0).trans rfl; have z1 : wb.cell? ⟨gb, 1, none⟩ = some (.int .i64 a0_1) := (blk_cell hbox 1).trans rfl; have z2 : wb.cell? ⟨gb, 2, none⟩ = some (.int .i64 a0_2) := (blk_cell hbox 2).trans rfl; clear hb hbox hg) | fail)
      refine (HP.out _).mono ?_
      rintro e wc ⟨rfl, hbc⟩
      have HBc : Aside0 (Below w.heap.size w wc) := ⟨HB.out.trans (hbc.mono HB.out.size)⟩
      clear hbc HB
      go_wp2
      go_ret
      exact ⟨rfl, HBc.out⟩
  · cases b0 with
    | false =>
      go_enter Try.func24, Try.ntmps24
      go_wp2_with (first | ((with_reducible refine gate_dst (N := 1) rfl ?_); refine box_event ?hg (N := 1) ?hd (cs := #[.int .i64 a0_0, .int .i64 a0_1, .int .i64 a0_2]) (t := 23) ?hr ?_; (case hd => rfl); (case hg => rfl); (case hr => first | (go_simp; done) | (go_simp; rfl)); intro gb hg wb hbox hb; have HB := Aside0.mk hb; have z0 : wb.cell? ⟨gb, 0, none⟩ = some (.int .i64 a0_0) := (blk_cell hbox 0).trans rfl; have z1 : wb.cell? ⟨gb, 1, none⟩ = some (.int .i64 a0_1) := (blk_cell hbox 1).trans rfl; have z2 : wb.cell? ⟨gb, 2, none⟩ = some (.int .i64 a0_2) := (blk_cell hbox 2).trans rfl; clear hb hbox hg) | fail)
      go_ret
      exact ⟨rfl, HB.out⟩
    | true =>
      cases b1 with
      | false =>
        go_enter Try.func24, Try.ntmps24
        go_wp2_with (first | ((with_reducible refine gate_dst (N := 1) rfl ?_); refine box_event ?hg (N := 1) ?hd (cs := #[.int .i64 a0_0, .int .i64 a0_1, .int .i64 a0_2]) (t := 23) ?hr ?_; (case hd => rfl); (case hg => rfl); (case hr => first | (go_simp; done) | (go_simp; rfl)); intro gb hg wb hbox hb; have HB := Aside0.mk hb; have z0 : wb.cell? ⟨gb, 0, none⟩ = some (.int .i64 a0_0) := (blk_cell hbox 0).trans rfl; have z1 : wb.cell? ⟨gb, 1, none⟩ = some (.int .i64 a0_1) := (blk_cell hbox 1).trans rfl; have z2 : wb.cell? ⟨gb, 2, none⟩ = some (.int .i64 a0_2) := (blk_cell hbox 2).trans rfl; clear hb hbox hg) | fail)
        go_ret
        exact ⟨rfl, HB.out⟩
      | true =>
        cases b2 with
        | false =>
          go_enter Try.func24, Try.ntmps24
          go_wp2_with (first | ((with_reducible refine gate_dst (N := 1) rfl ?_); refine box_event ?hg (N := 1) ?hd (cs := #[.int .i64 a0_0, .int .i64 a0_1, .int .i64 a0_2]) (t := 23) ?hr ?_; (case hd => rfl); (case hg => rfl); (case hr => first | (go_simp; done) | (go_simp; rfl)); intro gb hg wb hbox hb; have HB := Aside0.mk hb; have z0 : wb.cell? ⟨gb, 0, none⟩ = some (.int .i64 a0_0) := (blk_cell hbox 0).trans rfl; have z1 : wb.cell? ⟨gb, 1, none⟩ = some (.int .i64 a0_1) := (blk_cell hbox 1).trans rfl; have z2 : wb.cell? ⟨gb, 2, none⟩ = some (.int .i64 a0_2) := (blk_cell hbox 2).trans rfl; clear hb hbox hg) | fail)
          go_ret
          exact ⟨rfl, HB.out⟩
        | true =>
          cases b3 with
          | false =>
            go_enter Try.func24, Try.ntmps24
            go_wp2_with (first | ((with_reducible refine gate_dst (N := 1) rfl ?_); refine box_event ?hg (N := 1) ?hd (cs := #[.int .i64 a0_0, .int .i64 a0_1, .int .i64 a0_2]) (t := 23) ?hr ?_; (case hd => rfl); (case hg => rfl); (case hr => first | (go_simp; done) | (go_simp; rfl)); intro gb hg wb hbox hb; have HB := Aside0.mk hb; have z0 : wb.cell? ⟨gb, 0, none⟩ = some (.int .i64 a0_0) := (blk_cell hbox 0).trans rfl; have z1 : wb.cell? ⟨gb, 1, none⟩ = some (.int .i64 a0_1) := (blk_cell hbox 1).trans rfl; have z2 : wb.cell? ⟨gb, 2, none⟩ = some (.int .i64 a0_2) := (blk_cell hbox 2).trans rfl; clear hb hbox hg) | fail)
            go_ret
            exact ⟨rfl, HB.out⟩
          | true => exact absurd ⟨rfl, rfl, rfl, rfl⟩ ha
end Go.Proofs.Ythjnkapkhphpeaa.P
end
section
/- slot.Print: magic and three numbers of four bytes, sealed. -/
namespace Go.Proofs.Ythjnkapkhphpeaa.P
open Go.RowKit Go.Proofs.YthjnkapkhphpeaaW.PrintWords Go.Proofs.YthjnkapkhphpeaaW.PrintLast Go.Proofs.YthjnkapkhphpeaaW.PrintMore
set_option linter.unusedVariables false
set_option linter.unusedSimpArgs false
theorem cells_of_C {W : World} {b : Addr} {xs : List Int} (h : Kd.C (Kd.int .u8) W (some b) xs.length xs) : ∀ (j : Nat) (u : Value), (encs (Value.int .u8) xs)[j]? = some u → W.cell? (b.add j) = some u := by
  intro j u hu
  have hj : j < xs.length := by
    have := (List.getElem?_eq_some_iff.1 hu).1
    simpa [encs] using this
  obtain ⟨ad, e, hc⟩ := Kd.at_int h (j : Int) (by omega) (by omega)
  cases e
  rw [Int.toNat_natCast] at hc
  rw [hc]
  have he := encs_get (enc := Value.int .u8) (d := (0 : Int)) xs j hj
  rw [he] at hu
  rw [← hu]
  simp [rd]
/-- An append to a full row of bytes makes a new one. -/
theorem append_grows {P : Program} {ops : Array Oper} {rest : List Oper} {o : Oper} {a : Act} {Q : Exit → Act → World → Prop} {W : World} (hgd : o.guard = none) (s x : Operand) (t e : TypeId)
    (ho : o.op = .call { callee := .builtin .append, args := #[s, x], argTypes := #[t, t] })
    (ht : P.underlying t = some (.slice e)) (hinfo : (P.info? e).map (fun i => (i.zero, i.size, i.bytes)) = some (some (.int .u8 0), 1, 1))
    (b A : Addr) (cap c : Nat) (xs ys : List Int) (hs : a.eval s = .slice (some b) xs.length cap) (hx : a.eval x = .slice (some A) ys.length c)
    (HX : Kd.C (Kd.int .u8) W (some b) xs.length xs) (HY : Kd.C (Kd.int .u8) W (some A) ys.length ys) (hcap : cap < xs.length + ys.length) (hl : xs.length + ys.length ≤ 140737488355328)
    (h : ∀ v1 w1, Kd.R (Kd.int .u8) e w1 W.heap.size (fun _ => True) v1 (xs ++ ys) → W.grownBy w1 none → wpList P ops Q rest (a.put o.dst v1) w1) :
    wpList P ops Q (o :: rest) a W := by
  obtain ⟨i0, hi, hzz⟩ := Option.map_eq_some_iff.1 hinfo
  simp only [Prod.mk.injEq] at hzz
  obtain ⟨hz0, hz1, hz2⟩ := hzz
  refine wpList_plain hgd fun K hK => ?_
  obtain ⟨v', w', hr, h2, h3⟩ := run_append_arg_grows (P := P) (w := W) t o.type e i0 (.int .u8 0) 1 1 ht hi hz0 hz1 hz2 rfl (by omega) b xs.length cap (encs (Value.int .u8) xs) (by simp [encs]) (cells_of_C HX) A ys.length c (encs (Value.int .u8) ys) (by simp [encs]) (cells_of_C HY) hcap (by simp only [maxLen]; omega) (by omega)
  unfold Oper.wp execOp
  simp only [ho, resolve, invoke, builtin, Sem.run_bind, Sem.run_pure, Result.andThen_ok, List.map_toArray, List.map_cons, List.map_nil, hs, hx, hr]
  refine hK _ _ (h v' w' (Kd.R_of_own ?_ (fun _ _ => trivial)) h3)
  rw [encs_append, List.length_append]
  exact h2
def slot_Print.row (g s m : Int) : List Int := [97, 115] ++ le g 4 ++ le s 4 ++ le m 4
def slot_Print.f (a0_0 : Int) (a0_1 : Int) (a0_2 : Int) : Option (ByteArray × Int) :=
  if slot_Right.f a0_0 a0_1 a0_2 = some true then num_Seal.f (slot_Print.row a0_0 a0_1 a0_2) else some ((⟨#[]⟩ : ByteArray), 1)
theorem right_iff (a b c : Int) : slot_Right.f a b c = some true ↔ (1 ≤ a ∧ a ≤ 2147483647 ∧ 0 ≤ b ∧ b ≤ 2147483647 ∧ 0 ≤ c ∧ c < 4294967296) := by
  unfold slot_Right.f
  simp
theorem le4_len (n : Int) : (le n 4).length = 4 := by simp [le, le4]
set_option maxHeartbeats 8000000 in
set_option maxRecDepth 100000 in
theorem slot_Print.calls (a0_0 : Int) (a0_1 : Int) (a0_2 : Int) (r1 : ByteArray) (r2 : Int) (w : World) (h : slot_Print.f a0_0 a0_1 a0_2 = some (r1, r2)) :
    Calls Try.prog 16 #[.agg #[.int .i64 a0_0, .int .i64 a0_1, .int .i64 a0_2]] w fun e w' => e = .returned (.tuple #[.string r1, .int .i64 r2]) ∧ Below w.heap.size w w' := by
  have hu23 := Try.underlying23
  unfold slot_Print.f at h
  by_cases hr : slot_Right.f a0_0 a0_1 a0_2 = some true
  · rw [if_pos hr] at h
    have HR := Aside0.mk hr
    have HH := Aside0.mk h
    have hri := (right_iff _ _ _).1 hr
    have HP0 := Aside0.mk (Put_val 0 a0_0 4 (by omega) (by omega) (by omega) (by have : ((256 : Int) ^ (4 : Int).toNat) = 4294967296 := rfl; omega))
    have HP1 := Aside0.mk (Put_val 0 a0_1 4 (by omega) (by omega) (by omega) (by have : ((256 : Int) ^ (4 : Int).toNat) = 4294967296 := rfl; omega))
    have HP2 := Aside0.mk (Put_val 0 a0_2 4 (by omega) (by omega) (by omega) (by have : ((256 : Int) ^ (4 : Int).toNat) = 4294967296 := rfl; omega))
    clear hr h hri
    go_enter Try.func16, Try.ntmps16
    go_wp2_with (first | ((with_reducible refine gate_dst (N := 1) rfl ?_); refine box_event ?hg (N := 1) ?hd (cs := #[.int .i64 a0_0, .int .i64 a0_1, .int .i64 a0_2]) (t := 23) ?hr ?_; (case hd => rfl); (case hg => rfl); (case hr => first | (go_simp; done) | (go_simp; rfl)); intro gb hg wb hbox hb; have HB := Aside0.mk hb; have z0 : wb.cell? ⟨gb, 0, none⟩ = some (.int .i64 a0_0) := (blk_cell hbox 0).trans rfl; have z1 : wb.cell? ⟨gb, 1, none⟩ = some (.int .i64 a0_1) := (blk_cell hbox 1).trans rfl; have z2 : wb.cell? ⟨gb, 2, none⟩ = some (.int .i64 a0_2) := (blk_cell hbox 2).trans rfl; have HG := Aside0.mk hg; clear hb hbox hg) | fail)
    refine (slot_Right.calls _ _ _ true _ HR.out).mono ?_
    rintro e wc ⟨rfl, hbc⟩
    have HBc : Aside0 (Below w.heap.size w wc) := ⟨HB.out.trans (hbc.mono HB.out.size)⟩
    have kc0 := Joins.run_convert_bytes_const_at (P := Try.prog) wc 24 5 #[.int .u8 97, .int .u8 115] 2 2 wc.heap.size rfl Try.underlying24 Try.underlying5
    have hL := lit_C wc 5 [97, 115] (2, 3) (by simp)
    have hbd := hbc.alloc hbc.size (.cells #[.int .u8 97, .int .u8 115] 5 (2, 3))
    have HBd := HBc.out.alloc HBc.out.size (.cells #[.int .u8 97, .int .u8 115] 5 (2, 3))
    obtain ⟨wd, hwd⟩ : ∃ W, wc.alloc (.cells #[.int .u8 97, .int .u8 115] 5 (2, 3)) = W := ⟨_, rfl⟩
    have kc := kc0.trans (show _ = Result.ok (Value.slice (some ⟨wc.heap.size, 0, none⟩) 2 2) wd by rw [← hwd]; rfl)
    have hL2 : Kd.C (Kd.int .u8) wd (some ⟨wc.heap.size, 0, none⟩) 2 [97, 115] := hwd ▸ hL
    rw [hwd] at hbd HBd
    have HL := Aside0.mk hL2
    have HBd := Aside0.mk HBd
    have y0 := pw_cell_below hbd z0
    have y1 := pw_cell_below hbd z1
    have y2 := pw_cell_below hbd z2
    clear hbc HB z0 z1 z2 hbd hL hL2 kc0 hwd HBc HG
    go_wp2_with fail
    clear kc y0 y1 y2
    have hi0 : ∀ W, (Instr.index 84 (.agg #[.int .i64 a0_0, .int .i64 a0_1, .int .i64 a0_2]) (.int .i64 0)).run Try.prog W = .ok (.int .i64 a0_0) W := fun _ => by kernel_rfl
    have hi1 : ∀ W, (Instr.index 84 (.agg #[.int .i64 a0_0, .int .i64 a0_1, .int .i64 a0_2]) (.int .i64 1)).run Try.prog W = .ok (.int .i64 a0_1) W := fun _ => by kernel_rfl
    have hi2 : ∀ W, (Instr.index 84 (.agg #[.int .i64 a0_0, .int .i64 a0_1, .int .i64 a0_2]) (.int .i64 2)).run Try.prog W = .ok (.int .i64 a0_2) W := fun _ => by kernel_rfl
    go_loopw [4, 19] (fun v4 v19 wr =>
      (v19 = .int .i64 0 ∧ v4 = .slice (some ⟨wc.heap.size, 0, none⟩) 2 2 ∧ wr = wd) ∨
      (v19 = .int .i64 1 ∧ Aside0 (Kd.R (Kd.int .u8) 5 wr w.heap.size (fun _ => True) v4 ([97, 115] ++ le a0_0 4)) ∧ Aside0 (Below w.heap.size w wr)) ∨
      (v19 = .int .i64 2 ∧ Aside0 (Kd.R (Kd.int .u8) 5 wr w.heap.size (fun _ => True) v4 ([97, 115] ++ le a0_0 4 ++ le a0_1 4)) ∧ Aside0 (Below w.heap.size w wr)) ∨
      (v19 = .int .i64 3 ∧ Aside0 (Kd.R (Kd.int .u8) 5 wr w.heap.size (fun _ => True) v4 ([97, 115] ++ le a0_0 4 ++ le a0_1 4 ++ le a0_2 4)) ∧ Aside0 (Below w.heap.size w wr))) (fun _ n _ => 3 - (intOf n).toNat)
    case atStart => exact .inl ⟨rfl, rfl, rfl⟩
    case round =>
      rcases hrel with ⟨rfl, rfl, rfl⟩ | ⟨rfl, HRr, HBr⟩ | ⟨rfl, HRr, HBr⟩ | ⟨rfl, HRr, HBr⟩
      · go_wp2_with fail
        refine (num_Put.calls _ _ _ _ _ HP0.out).mono ?_
        rintro e we ⟨v0, rfl, hr, hbe⟩
        obtain ⟨A, c, rfl, hc, hC⟩ := Kd.R_reads hr
        obtain ⟨ad, rfl, _⟩ := Kd.at_int hC 0 (by omega) (by rw [le4_len]; omega)
        have HC := Aside0.mk hC
        have HX := Aside0.mk (Kd.C_below HL.out hbe)
        have HBe : Aside0 (Below w.heap.size w we) := ⟨HBd.out.trans (hbe.mono HBd.out.size)⟩
        clear hr hbe hC hc
        go_wp2_with ((with_reducible refine gate_builtin (b := .append) (xs := #[.tmp 22, .tmp 24]) rfl ?_); at_builtin; refine append_grows rfl (.tmp 22) (.tmp 24) 24 5 rfl Try.underlying24 info5 ⟨wc.heap.size, 0, none⟩ ad 2 c [97, 115] (le a0_0 4) rfl rfl ?aX ?aY ?aC ?aL ?_)
        case aX => exact HX.out
        case aY => exact HC.out
        case aC => simp [le4_len]
        case aL => simp [le4_len]
        intro v1 w1 hR hg
        have HR1 := Aside0.mk (Kd.R_lower hR HBe.out.size)
        have HB1 : Aside0 (Below w.heap.size w w1) := ⟨HBe.out.grown hg HBe.out.size (by simp)⟩
        clear hR hg HX HC HBe
        go_wp2
        exact ⟨.inr (.inl ⟨rfl, HR1, HB1⟩), by simp [intOf]⟩
      · have HBe0 : Aside0 (3 = 3) := ⟨rfl⟩
        go_wp2_with fail
        refine (num_Put.calls _ _ _ _ _ HP1.out).mono ?_
        rintro e we ⟨v0, rfl, hr, hbe⟩
        obtain ⟨A, c, rfl, hc, hC⟩ := Kd.R_reads hr
        obtain ⟨ad, rfl, _⟩ := Kd.at_int hC 0 (by omega) (by rw [le4_len]; omega)
        have HC := Aside0.mk hC
        have HRe := Aside0.mk (Kd.R_below HRr.out hbe)
        have HBe : Aside0 (Below w.heap.size w we) := ⟨HBr.out.trans (hbe.mono HBr.out.size)⟩
        clear hr hbe hC hc HRr HBr
        go_wp2_with ((with_reducible refine gate_builtin (b := .append) (xs := #[.tmp 22, .tmp 24]) rfl ?_); at_builtin; refine Kd.R_append_rows (Kd.int .u8) (w0 := w) w.heap.size rfl (.tmp 22) (.tmp 24) 24 5 (.int .u8 0) 1 rfl Try.underlying24 info5 rfl (by decide) (by omega) _ ([97, 115] ++ le a0_0 4) (le a0_1 4) (some ad) (le a0_1 4).length c (fun _ => True) (fun _ => False) rfl rfl ?aO ?aR (fun _ _ h => h) (fun _ h => h.elim) (fun _ _ => trivial) ?aB ?aS ?aL ?_)
        case aO => exact HRe.out
        case aR => exact HC.out
        case aB => exact HBe.out
        case aS => exact HBe.out.size
        case aL => simp [le4_len]
        intro v1 w1 hR hB hg hv
        have HR1 := Aside0.mk hR
        have HB1 := Aside0.mk hB
        clear hR hB hg hv HC HRe HBe
        go_wp2
        exact ⟨.inr (.inr (.inl ⟨rfl, HR1, HB1⟩)), by simp [intOf]⟩
      · have HBe0 : Aside0 (3 = 3) := ⟨rfl⟩
        go_wp2_with fail
        refine (num_Put.calls _ _ _ _ _ HP2.out).mono ?_
        rintro e we ⟨v0, rfl, hr, hbe⟩
        obtain ⟨A, c, rfl, hc, hC⟩ := Kd.R_reads hr
        obtain ⟨ad, rfl, _⟩ := Kd.at_int hC 0 (by omega) (by rw [le4_len]; omega)
        have HC := Aside0.mk hC
        have HRe := Aside0.mk (Kd.R_below HRr.out hbe)
        have HBe : Aside0 (Below w.heap.size w we) := ⟨HBr.out.trans (hbe.mono HBr.out.size)⟩
        clear hr hbe hC hc HRr HBr
        go_wp2_with ((with_reducible refine gate_builtin (b := .append) (xs := #[.tmp 22, .tmp 24]) rfl ?_); at_builtin; refine Kd.R_append_rows (Kd.int .u8) (w0 := w) w.heap.size rfl (.tmp 22) (.tmp 24) 24 5 (.int .u8 0) 1 rfl Try.underlying24 info5 rfl (by decide) (by omega) _ ([97, 115] ++ le a0_0 4 ++ le a0_1 4) (le a0_2 4) (some ad) (le a0_2 4).length c (fun _ => True) (fun _ => False) rfl rfl ?aO ?aR (fun _ _ h => h) (fun _ h => h.elim) (fun _ _ => trivial) ?aB ?aS ?aL ?_)
        case aO => exact HRe.out
        case aR => exact HC.out
        case aB => exact HBe.out
        case aS => exact HBe.out.size
        case aL => simp [le4_len]
        intro v1 w1 hR hB hg hv
        have HR1 := Aside0.mk hR
        have HB1 := Aside0.mk hB
        clear hR hB hg hv HC HRe HBe
        go_wp2
        exact ⟨.inr (.inr (.inr ⟨rfl, HR1, HB1⟩)), by simp [intOf]⟩
      · obtain ⟨A4, c4, hv4, hc4, hC4⟩ := Kd.R_reads HRr.out
        subst hv4
        have hl14 : ([97, 115] ++ le a0_0 4 ++ le a0_1 4 ++ le a0_2 4).length = 14 := by simp [le4_len]
        have HS := num_Seal.calls A4 c4 (slot_Print.row a0_0 a0_1 a0_2) r1 r2 wr hC4 hc4 HH.out
        have HSA := Aside0.mk HS
        clear hC4 hc4 HS
        go_wp2_with fail
        refine HSA.out.mono ?_
        rintro e we ⟨rfl, hbe⟩
        have HBe : Aside0 (Below w.heap.size w we) := ⟨HBr.out.trans (hbe.mono HBr.out.size)⟩
        clear hbe
        go_wp2
        go_ret2
        exact ⟨rfl, HBe.out⟩
  · rw [if_neg hr] at h
    injection h with h
    injection h with h1 h2
    subst h1 h2
    have hr2 : slot_Right.f a0_0 a0_1 a0_2 = some false := by
      unfold slot_Right.f at hr ⊢
      simp only [Option.some.injEq] at hr ⊢
      exact Bool.eq_false_iff.2 hr
    go_enter Try.func16, Try.ntmps16
    go_wp2_with (first | ((with_reducible refine gate_dst (N := 1) rfl ?_); refine box_event ?hg (N := 1) ?hd (cs := #[.int .i64 a0_0, .int .i64 a0_1, .int .i64 a0_2]) (t := 23) ?hr ?_; (case hd => rfl); (case hg => rfl); (case hr => first | (go_simp; done) | (go_simp; rfl)); intro gb hg wb hbox hb; have HB := Aside0.mk hb; have z0 : wb.cell? ⟨gb, 0, none⟩ = some (.int .i64 a0_0) := (blk_cell hbox 0).trans rfl; have z1 : wb.cell? ⟨gb, 1, none⟩ = some (.int .i64 a0_1) := (blk_cell hbox 1).trans rfl; have z2 : wb.cell? ⟨gb, 2, none⟩ = some (.int .i64 a0_2) := (blk_cell hbox 2).trans rfl; clear hb hbox hg) | fail)
    refine (slot_Right.calls _ _ _ false _ hr2).mono ?_
    rintro e wc ⟨rfl, hbc⟩
    have HBc : Aside0 (Below w.heap.size w wc) := ⟨HB.out.trans (hbc.mono HB.out.size)⟩
    clear hbc HB
    go_wp2
    go_ret2
    exact ⟨rfl, HBc.out⟩
end Go.Proofs.Ythjnkapkhphpeaa.P
end
section
-- Written by a program of this session (xprint.py, over the kit's print). Not trusted: Lean checks it.
namespace Go.Proofs.Ythjnkapkhphpeaa.P
open Go.RowKit Go.Proofs.YthjnkapkhphpeaaW.PrintWords Go.Proofs.YthjnkapkhphpeaaW.PrintLast Go.Proofs.YthjnkapkhphpeaaW.PrintMore
attribute [local go_sem] max2_int min2_int max_two min_two max_three min_three max_four min_four   -- for this text's walks alone
set_option linter.unusedVariables false
set_option linter.unusedSimpArgs false

/-! ### stringslite_HasPrefix: function 62 -/
def stringslite_HasPrefix.f (a0 : ByteArray) (a1 : ByteArray) : Option (Bool) := if (a0.size : Int) ≥ (a1.size : Int) then (if 0 ≤ (a1.size : Int) then (if (a1.size : Int) ≤ (a0.size : Int) then (some ((a0.extract 0 ((a1.size : Int) : Int).toNat).toList == a1.toList)) else (none)) else (none)) else (some false)
set_option maxHeartbeats 8000000 in
set_option maxRecDepth 100000 in
theorem stringslite_HasPrefix.calls (a0 : ByteArray) (a1 : ByteArray) (r : Bool) (w : World) (h : stringslite_HasPrefix.f a0 a1 = some r) :
    Calls Try.prog 62 #[.string a0, .string a1] w fun e w' => e = .returned (.bool r) ∧ Drawn0 w w' := by
  have H : (if (a0.size : Int) ≥ (a1.size : Int) then (if 0 ≤ (a1.size : Int) then (if (a1.size : Int) ≤ (a0.size : Int) then (some ((a0.extract 0 ((a1.size : Int) : Int).toNat).toList == a1.toList)) else (none)) else (none)) else (some false)) = some r := h
  clear h
  by_cases c3 : (a0.size : Int) ≥ (a1.size : Int)
  · rw [if_pos c3] at H
    have c3b0 : decide ((a1.size : Int) ≤ (a0.size : Int)) = true := decide_eq_true c3
    have c3b1 : decide (a1.size ≤ a0.size) = true := decide_eq_true (Int.ofNat_le.mp c3)
    clear c3
    by_cases c4 : 0 ≤ (a1.size : Int)
    · rw [if_pos c4] at H
      have c4b0 := eq_true c4
      have c4b1 : decide (0 ≤ (a1.size : Int)) = true := decide_eq_true c4
      clear c4
      by_cases c5 : (a1.size : Int) ≤ (a0.size : Int)
      · rw [if_pos c5] at H
        have c5b0 := eq_true c5
        have c5b1 : decide ((a1.size : Int) ≤ (a0.size : Int)) = true := decide_eq_true c5
        clear c5
        obtain rfl := Option.some.inj H
        go_enter Try.func62, Try.ntmps62
        go_wp2
        go_ret
        exact ⟨by first | rfl | (simp; done) | (simp [*]; done), by repeat (first | exact Drawn0.refl _ | apply Drawn0.step)⟩
      · rw [if_neg c5] at H
        exact absurd H (by simp)
    · rw [if_neg c4] at H
      exact absurd H (by simp)
  · rw [if_neg c3] at H
    have c3b0 : decide ((a1.size : Int) ≤ (a0.size : Int)) = false := decide_eq_false c3
    have c3b1 : decide (a1.size ≤ a0.size) = false := decide_eq_false (fun h => c3 (Int.ofNat_le.mpr h))
    clear c3
    obtain rfl := Option.some.inj H
    go_enter Try.func62, Try.ntmps62
    go_wp2
    go_ret
    exact ⟨by first | rfl | (simp; done) | (simp [*]; done), by repeat (first | exact Drawn0.refl _ | apply Drawn0.step)⟩

end Go.Proofs.Ythjnkapkhphpeaa.P
end
section
-- Written by a program of this session (xprint.py, over the kit's print). Not trusted: Lean checks it.
namespace Go.Proofs.Ythjnkapkhphpeaa.P
open Go.RowKit Go.Proofs.YthjnkapkhphpeaaW.PrintWords Go.Proofs.YthjnkapkhphpeaaW.PrintLast Go.Proofs.YthjnkapkhphpeaaW.PrintMore
attribute [local go_sem] max2_int min2_int max_two min_two max_three min_three max_four min_four   -- for this text's walks alone
set_option linter.unusedVariables false
set_option linter.unusedSimpArgs false

/-! ### strings_HasPrefix: function 48 -/
def strings_HasPrefix.f (a0 : ByteArray) (a1 : ByteArray) : Option (Bool) := (stringslite_HasPrefix.f a0 a1).bind fun t108 => (some t108)
set_option maxHeartbeats 8000000 in
set_option maxRecDepth 100000 in
theorem strings_HasPrefix.calls (a0 : ByteArray) (a1 : ByteArray) (r : Bool) (w : World) (h : strings_HasPrefix.f a0 a1 = some r) :
    Calls Try.prog 48 #[.string a0, .string a1] w fun e w' => e = .returned (.bool r) ∧ Drawn0 w w' := by
  have H : ((stringslite_HasPrefix.f a0 a1).bind fun t108 => (some t108)) = some r := h
  clear h
  replace H := Option.bind_eq_some_iff.mp H
  obtain ⟨t108, A30, H⟩ := H
  replace H : (some t108) = some r := H
  have A3 := Aside0.mk A30
  clear A30
  obtain rfl := Option.some.inj H
  go_enter Try.func48, Try.ntmps48
  go_wp2_with (first | ((with_reducible refine gate_callee (f := 62) rfl ?_); refine goesL_ (some 7) rfl rfl Try.func62 (by kernel_rfl) rfl #[.string a0, .string a1] rfl (by (try simp only [List.map_toArray, List.map_cons, List.map_nil]); first | done | rfl | (simp only [List.length_drop, List.length_take]; rfl)) ?_; (with_reducible refine (stringslite_HasPrefix.calls a0 a1 t108 _ A3.out).mono ?_); rintro e w' ⟨rfl, ⟨nd, rfl⟩⟩; refine ⟨_, rfl, ?_⟩))
  go_ret
  exact ⟨by first | rfl | (simp; done) | (simp [*]; done), by repeat (first | exact Drawn0.refl _ | apply Drawn0.step)⟩

end Go.Proofs.Ythjnkapkhphpeaa.P
end
section
/- slot.Parse: the block's three numbers, where printing them gives the block again. -/
namespace Go.Proofs.Ythjnkapkhphpeaa.P
open Go.RowKit Go.Proofs.YthjnkapkhphpeaaW.PrintWords Go.Proofs.YthjnkapkhphpeaaW.PrintLast Go.Proofs.YthjnkapkhphpeaaW.PrintMore
set_option linter.unusedVariables false
set_option linter.unusedSimpArgs false
def magicB : ByteArray := ⟨#[97, 115]⟩
def slot_Parse.f (a0 : ByteArray) : Option (Int × Int × Int × Int) :=
  (num_Open.f a0).bind fun o => (strings_HasPrefix.f a0 ⟨#[97, 115]⟩).bind fun p =>
    if o.2 = 0 ∧ p = true then (slot_Print.f (lev o.1 2 4) (lev o.1 6 4) (lev o.1 10 4)).bind fun q =>
      if q.2 = 0 ∧ q.1.toList = a0.toList then some (lev o.1 2 4, lev o.1 6 4, lev o.1 10 4, 0) else some (0, 0, 0, 2)
    else some (0, 0, 0, 2)
set_option maxHeartbeats 8000000 in
set_option maxRecDepth 100000 in
theorem slot_Parse.bad (a0 : ByteArray) (l : List Int) (e : Int) (p : Bool) (w : World) (ho : num_Open.f a0 = some (l, e)) (hp : strings_HasPrefix.f a0 ⟨#[97, 115]⟩ = some p) (hb : e ≠ 0 ∨ p = false) :
    Calls Try.prog 18 #[.string a0] w fun e w' => e = .returned (.tuple #[.agg #[.int .i64 0, .int .i64 0, .int .i64 0], .int .i64 2]) ∧ Below w.heap.size w w' := by
  have hu23 := Try.underlying23
  have HO := Aside0.mk ho
  have HP := Aside0.mk hp
  clear ho hp
  by_cases he : e = 0
  · subst he
    have hpf : p = false := by simpa using hb
    subst hpf
    clear hb
    go_enter Try.func18, Try.ntmps18
    go_wp2_with (first | ((with_reducible refine gate_dst (N := 2) rfl ?_); refine box_event ?hg (N := 2) ?hd (cs := #[.int .i64 0, .int .i64 0, .int .i64 0]) (t := 23) ?hr ?_; (case hd => rfl); (case hg => rfl); (case hr => first | (go_simp; done) | (go_simp; rfl)); intro gb hg wb hbox hb; have HB := Aside0.mk hb; have HG := Aside0.mk hg; have HK := Aside0.mk hbox; clear hb hbox hg) | fail)
    refine (num_Open.calls _ _ _ wb HO.out).mono ?_
    rintro e wc ⟨v0, rfl, hv, hbc⟩
    have HG2 : Aside0 (w.heap.size ≤ gb) := ⟨by rw [HG.out]; exact Nat.le_refl _⟩
    have HBc : Aside0 (Below w.heap.size w wc) := ⟨HB.out.trans (hbc.mono HB.out.size)⟩
    have HKc := Aside0.mk (blk_below HK.out hbc)
    clear hbc hv HB HK
    go_wp2_with fail
    refine (strings_HasPrefix.calls _ _ _ _ HP.out).mono ?_
    rintro e wd ⟨rfl, ⟨nd, rfl⟩⟩
    have HBd : Aside0 (Below w.heap.size w (wc.drewN nd)) := ⟨pw_below_drewN HBc.out nd⟩
    have HKd : Aside0 ((wc.drewN nd).heap[gb]? = some (.cells #[.int .i64 0, .int .i64 0, .int .i64 0] 23 (0, 0))) := ⟨HKc.out⟩
    generalize wc.drewN nd = wd at HBd HKd ⊢
    have f0 := blk_frozen HKd.out 0
    have f1 := blk_frozen HKd.out 1
    have f2 := blk_frozen HKd.out 2
    have z0 : wd.cell? ⟨gb, 0, none⟩ = some (.int .i64 0) := (blk_cell HKd.out 0).trans rfl
    have z1 : wd.cell? ⟨gb, 1, none⟩ = some (.int .i64 0) := (blk_cell HKd.out 1).trans rfl
    have z2 : wd.cell? ⟨gb, 2, none⟩ = some (.int .i64 0) := (blk_cell HKd.out 2).trans rfl
    go_wp2
    refine bodyPost_ret (results_ct rfl _ _ gb 23 #[.int .i64 0, .int .i64 0, .int .i64 0] (0, 0) _ rfl (blk_put (cs := #[.int .i64 0, .int .i64 0, .int .i64 0]) (blk_put (cs := #[.int .i64 0, .int .i64 0, .int .i64 0]) (blk_put (cs := #[.int .i64 0, .int .i64 0, .int .i64 0]) HKd.out 0 _ rfl) 1 _ rfl) 2 _ rfl) Try.underlying23 rfl (by kernel_rfl)) rfl ?_
    exact ⟨rfl, below_set (below_set (below_set HBd.out HG2.out) HG2.out) HG2.out⟩
  · have he2 : (e == 0) = false := by simpa using he
    have he3 : (e != 0) = true := by simpa using he
    have hee : e = 2 := by
      have := HO.out
      unfold num_Open.f at this
      split at this
      · injection this with this
        injection this with _ this
        omega
      · injection this with this
        injection this with _ this
        exact this.symm
    subst hee
    clear he he2 he3 hb
    go_enter Try.func18, Try.ntmps18
    go_wp2_with (first | ((with_reducible refine gate_dst (N := 2) rfl ?_); refine box_event ?hg (N := 2) ?hd (cs := #[.int .i64 0, .int .i64 0, .int .i64 0]) (t := 23) ?hr ?_; (case hd => rfl); (case hg => rfl); (case hr => first | (go_simp; done) | (go_simp; rfl)); intro gb hg wb hbox hb; have HB := Aside0.mk hb; have HG := Aside0.mk hg; have HK := Aside0.mk hbox; clear hb hbox hg) | fail)
    refine (num_Open.calls _ _ _ wb HO.out).mono ?_
    rintro e wd ⟨v0, rfl, hv, hbc⟩
    have HG2 : Aside0 (w.heap.size ≤ gb) := ⟨by rw [HG.out]; exact Nat.le_refl _⟩
    have HBd : Aside0 (Below w.heap.size w wd) := ⟨HB.out.trans (hbc.mono HB.out.size)⟩
    have HKd := Aside0.mk (blk_below HK.out hbc)
    clear hbc hv HB HK
    have f0 := blk_frozen HKd.out 0
    have f1 := blk_frozen HKd.out 1
    have f2 := blk_frozen HKd.out 2
    have z0 : wd.cell? ⟨gb, 0, none⟩ = some (.int .i64 0) := (blk_cell HKd.out 0).trans rfl
    have z1 : wd.cell? ⟨gb, 1, none⟩ = some (.int .i64 0) := (blk_cell HKd.out 1).trans rfl
    have z2 : wd.cell? ⟨gb, 2, none⟩ = some (.int .i64 0) := (blk_cell HKd.out 2).trans rfl
    go_wp2
    refine bodyPost_ret (results_ct rfl _ _ gb 23 #[.int .i64 0, .int .i64 0, .int .i64 0] (0, 0) _ rfl (blk_put (cs := #[.int .i64 0, .int .i64 0, .int .i64 0]) (blk_put (cs := #[.int .i64 0, .int .i64 0, .int .i64 0]) (blk_put (cs := #[.int .i64 0, .int .i64 0, .int .i64 0]) HKd.out 0 _ rfl) 1 _ rfl) 2 _ rfl) Try.underlying23 rfl (by kernel_rfl)) rfl ?_
    exact ⟨rfl, below_set (below_set (below_set HBd.out HG2.out) HG2.out) HG2.out⟩
set_option maxHeartbeats 8000000 in
set_option maxRecDepth 100000 in
theorem slot_Parse.good (a0 : ByteArray) (l : List Int) (q : ByteArray) (q2 : Int) (b1 b2 : Bool) (w : World) (ho : num_Open.f a0 = some (l, 0)) (hp : strings_HasPrefix.f a0 ⟨#[97, 115]⟩ = some true) (hl : l.length = 36) (hby : ∀ x ∈ l, 0 ≤ x ∧ x < 256)
    (g s m : Int) (hg : lev l 2 4 = g) (hs : lev l 6 4 = s) (hm : lev l 10 4 = m) (hq : slot_Print.f g s m = some (q, q2)) (e1 : (q2 != 0) = b1) (e2 : (q.toList != a0.toList) = b2) (R : Int × Int × Int × Int) (hR : R = if b1 = false ∧ b2 = false then (g, s, m, 0) else (0, 0, 0, 2)) :
    Calls Try.prog 18 #[.string a0] w fun e w' => e = .returned (.tuple #[.agg #[.int .i64 R.1, .int .i64 R.2.1, .int .i64 R.2.2.1], .int .i64 R.2.2.2]) ∧ Below w.heap.size w w' := by
  have hu23 := Try.underlying23
  have HO := Aside0.mk ho
  have HP := Aside0.mk hp
  have HQ := Aside0.mk hq
  have ht0 := Take_val 0 l 2 4 (by omega) hby (by omega) (by omega) (by omega) (by omega)
  have ht1 := Take_val 0 l 6 4 (by omega) hby (by omega) (by omega) (by omega) (by omega)
  have ht2 := Take_val 0 l 10 4 (by omega) hby (by omega) (by omega) (by omega) (by omega)
  rw [hg] at ht0
  rw [hs] at ht1
  rw [hm] at ht2
  have HT0 := Aside0.mk ht0
  have HT1 := Aside0.mk ht1
  have HT2 := Aside0.mk ht2
  have HRR := Aside0.mk hR
  clear ho hp hq ht0 ht1 ht2 hg hs hm hby hR hl
  go_enter Try.func18, Try.ntmps18
  go_wp2_with (first | ((with_reducible refine gate_dst (N := 2) rfl ?_); refine box_event ?hg (N := 2) ?hd (cs := #[.int .i64 0, .int .i64 0, .int .i64 0]) (t := 23) ?hr ?_; (case hd => rfl); (case hg => rfl); (case hr => first | (go_simp; done) | (go_simp; rfl)); intro gb hg wb hbox hb; have HB := Aside0.mk hb; have HG := Aside0.mk hg; have HK := Aside0.mk hbox; clear hb hbox hg) | fail)
  refine (num_Open.calls _ _ _ wb HO.out).mono ?_
  rintro e wc ⟨v0, rfl, hv, hbc⟩
  have HG2 : Aside0 (w.heap.size ≤ gb) := ⟨by rw [HG.out]; exact Nat.le_refl _⟩
  have HGB : Aside0 (gb < wb.heap.size) := ⟨blk_lt HK.out⟩
  have HBc : Aside0 (Below w.heap.size w wc) := ⟨HB.out.trans (hbc.mono HB.out.size)⟩
  have HKc := Aside0.mk (blk_below HK.out hbc)
  have HV := Aside0.mk (Kd.V_bound hv)
  have HBW : Aside0 (wb.heap.size ≤ wc.heap.size) := ⟨hbc.size⟩
  clear hbc hv HB HK HG
  go_wp2_with fail
  refine (strings_HasPrefix.calls _ _ _ _ HP.out).mono ?_
  rintro e wd ⟨rfl, ⟨nd, rfl⟩⟩
  have HBd : Aside0 (Below w.heap.size w (wc.drewN nd)) := ⟨pw_below_drewN HBc.out nd⟩
  have HKd : Aside0 ((wc.drewN nd).heap[gb]? = some (.cells #[.int .i64 0, .int .i64 0, .int .i64 0] 23 (0, 0))) := ⟨HKc.out⟩
  have HVd := Aside0.mk (Kd.V_drewN HV.out nd)
  have HSd : Aside0 ((wc.drewN nd).heap.size = wc.heap.size) := ⟨rfl⟩
  generalize wc.drewN nd = wd at HBd HKd HVd HSd ⊢
  clear HV HKc HBc
  go_wp2_with (first | ((with_reducible refine gate_dst (N := 6) rfl ?_); refine box_event ?hg (N := 6) ?hd (cs := #[.int .i64 0, .int .i64 0, .int .i64 0]) (t := 84) ?hr ?_; (case hd => rfl); (case hg => rfl); (case hr => first | (go_simp; done) | (go_simp; rfl)); intro gn hg we hbox hb; have HBe := Aside0.mk (HBd.out.trans (hb.mono HBd.out.size)); have HGN := Aside0.mk hg; have HN := Aside0.mk hbox; have HKe := Aside0.mk (blk_below HKd.out hb); have HVe := Aside0.mk (Kd.V_below HVd.out hb); clear hb hbox hg) | fail)
  obtain ⟨A, c, hv0⟩ := Kd.V_slice HVe.out
  subst hv0
  have HGN2 : Aside0 (wc.heap.size ≤ gn) := ⟨by rw [HGN.out, HSd.out]; exact Nat.le_refl _⟩
  have HNE : Aside0 (gb ≠ gn) := ⟨by have h1 := HGN2.out; have h2 := HGB.out; have h3 := HBW.out; omega⟩
  have HGN3 : Aside0 (w.heap.size ≤ gn) := ⟨by rw [HGN.out]; exact HBd.out.size⟩
  have HVe2 : Aside0 (Kd.V (Kd.int .u8) 5 we wb.heap.size (fun k => wb.heap.size ≤ k ∧ k < wc.heap.size) (.slice A l.length c) l) := HVe
  clear HVe HVd HBd HKd HSd HGN HBW HGB
  go_loopw [7, 25] (fun v7 v25 wr =>
      (v25 = .int .i64 0 ∧ v7 = .int .i64 2 ∧ Aside0 (wr.heap[gn]? = some (.cells #[.int .i64 0, .int .i64 0, .int .i64 0] 84 (0, 0))) ∧ Aside0 (wr.heap[gb]? = some (.cells #[.int .i64 0, .int .i64 0, .int .i64 0] 23 (0, 0))) ∧ Aside0 (Kd.V (Kd.int .u8) 5 wr wb.heap.size (fun k => wb.heap.size ≤ k ∧ k < wc.heap.size) (.slice A l.length c) l) ∧ Aside0 (Below w.heap.size w wr)) ∨
      (v25 = .int .i64 1 ∧ v7 = .int .i64 6 ∧ Aside0 (wr.heap[gn]? = some (.cells #[.int .i64 g, .int .i64 0, .int .i64 0] 84 (0, 0))) ∧ Aside0 (wr.heap[gb]? = some (.cells #[.int .i64 0, .int .i64 0, .int .i64 0] 23 (0, 0))) ∧ Aside0 (Kd.V (Kd.int .u8) 5 wr wb.heap.size (fun k => wb.heap.size ≤ k ∧ k < wc.heap.size) (.slice A l.length c) l) ∧ Aside0 (Below w.heap.size w wr)) ∨
      (v25 = .int .i64 2 ∧ v7 = .int .i64 10 ∧ Aside0 (wr.heap[gn]? = some (.cells #[.int .i64 g, .int .i64 s, .int .i64 0] 84 (0, 0))) ∧ Aside0 (wr.heap[gb]? = some (.cells #[.int .i64 0, .int .i64 0, .int .i64 0] 23 (0, 0))) ∧ Aside0 (Kd.V (Kd.int .u8) 5 wr wb.heap.size (fun k => wb.heap.size ≤ k ∧ k < wc.heap.size) (.slice A l.length c) l) ∧ Aside0 (Below w.heap.size w wr)) ∨
      (v25 = .int .i64 3 ∧ v7 = .int .i64 14 ∧ Aside0 (wr.heap[gn]? = some (.cells #[.int .i64 g, .int .i64 s, .int .i64 m] 84 (0, 0))) ∧ Aside0 (wr.heap[gb]? = some (.cells #[.int .i64 0, .int .i64 0, .int .i64 0] 23 (0, 0))) ∧ Aside0 (Kd.V (Kd.int .u8) 5 wr wb.heap.size (fun k => wb.heap.size ≤ k ∧ k < wc.heap.size) (.slice A l.length c) l) ∧ Aside0 (Below w.heap.size w wr))) (fun _ n _ => 3 - (intOf n).toNat)
  case atStart => exact .inl ⟨rfl, rfl, HN, HKe, HVe2, HBe⟩
  case round =>
    clear HN HKe HVe2 HBe
    rcases hrel with ⟨rfl, rfl, HNr, HKr, HVr, HBr⟩ | ⟨rfl, rfl, HNr, HKr, HVr, HBr⟩ | ⟨rfl, rfl, HNr, HKr, HVr, HBr⟩ | ⟨rfl, rfl, HNr, HKr, HVr, HBr⟩
    · have hrd := Kd.V_reads' HVr.out
      have htk := num_Take.calls 6 A c l 2 4 _ _ _ wr hrd.2.2 hrd.2.1 HT0.out
      have HTK := Aside0.mk htk
      clear hrd htk
      go_wp2_with fail
      refine HTK.out.mono ?_
      rintro e we2 ⟨rfl, ⟨nd, rfl⟩⟩
      have HN2 : Aside0 ((wr.drewN nd).heap[gn]? = some (.cells #[.int .i64 0, .int .i64 0, .int .i64 0] 84 (0, 0))) := ⟨HNr.out⟩
      have HK2 : Aside0 ((wr.drewN nd).heap[gb]? = some (.cells #[.int .i64 0, .int .i64 0, .int .i64 0] 23 (0, 0))) := ⟨HKr.out⟩
      have HV2 := Aside0.mk (Kd.V_drewN HVr.out nd)
      have HB2 : Aside0 (Below w.heap.size w (wr.drewN nd)) := ⟨pw_below_drewN HBr.out nd⟩
      clear HTK HNr HKr HVr HBr
      generalize wr.drewN nd = wx at HN2 HK2 HV2 HB2 ⊢
      have ff := blk_frozen HN2.out 0
      have zz : wx.cell? ⟨gn, 0, none⟩ = some (.int .i64 0) := (blk_cell HN2.out 0).trans rfl
      go_wp2
      refine ⟨.inr (.inl ⟨rfl, rfl, ⟨blk_put HN2.out 0 _ rfl⟩, ⟨blk_far HK2.out HNE.out _⟩, ⟨Kd.V_far HV2.out (fun k hk => by have := HGN2.out; simp only; omega) _⟩, ⟨below_set HB2.out HGN3.out⟩⟩), by simp [intOf]⟩
    · have hrd := Kd.V_reads' HVr.out
      have htk := num_Take.calls 6 A c l 6 4 _ _ _ wr hrd.2.2 hrd.2.1 HT1.out
      have HTK := Aside0.mk htk
      clear hrd htk
      go_wp2_with fail
      refine HTK.out.mono ?_
      rintro e we2 ⟨rfl, ⟨nd, rfl⟩⟩
      have HN2 : Aside0 ((wr.drewN nd).heap[gn]? = some (.cells #[.int .i64 g, .int .i64 0, .int .i64 0] 84 (0, 0))) := ⟨HNr.out⟩
      have HK2 : Aside0 ((wr.drewN nd).heap[gb]? = some (.cells #[.int .i64 0, .int .i64 0, .int .i64 0] 23 (0, 0))) := ⟨HKr.out⟩
      have HV2 := Aside0.mk (Kd.V_drewN HVr.out nd)
      have HB2 : Aside0 (Below w.heap.size w (wr.drewN nd)) := ⟨pw_below_drewN HBr.out nd⟩
      clear HTK HNr HKr HVr HBr
      generalize wr.drewN nd = wx at HN2 HK2 HV2 HB2 ⊢
      have ff := blk_frozen HN2.out 1
      have zz : wx.cell? ⟨gn, 1, none⟩ = some (.int .i64 0) := (blk_cell HN2.out 1).trans rfl
      go_wp2
      refine ⟨.inr (.inr (.inl ⟨rfl, rfl, ⟨blk_put HN2.out 1 _ rfl⟩, ⟨blk_far HK2.out HNE.out _⟩, ⟨Kd.V_far HV2.out (fun k hk => by have := HGN2.out; simp only; omega) _⟩, ⟨below_set HB2.out HGN3.out⟩⟩)), by simp [intOf]⟩
    · have hrd := Kd.V_reads' HVr.out
      have htk := num_Take.calls 6 A c l 10 4 _ _ _ wr hrd.2.2 hrd.2.1 HT2.out
      have HTK := Aside0.mk htk
      clear hrd htk
      go_wp2_with fail
      refine HTK.out.mono ?_
      rintro e we2 ⟨rfl, ⟨nd, rfl⟩⟩
      have HN2 : Aside0 ((wr.drewN nd).heap[gn]? = some (.cells #[.int .i64 g, .int .i64 s, .int .i64 0] 84 (0, 0))) := ⟨HNr.out⟩
      have HK2 : Aside0 ((wr.drewN nd).heap[gb]? = some (.cells #[.int .i64 0, .int .i64 0, .int .i64 0] 23 (0, 0))) := ⟨HKr.out⟩
      have HV2 := Aside0.mk (Kd.V_drewN HVr.out nd)
      have HB2 : Aside0 (Below w.heap.size w (wr.drewN nd)) := ⟨pw_below_drewN HBr.out nd⟩
      clear HTK HNr HKr HVr HBr
      generalize wr.drewN nd = wx at HN2 HK2 HV2 HB2 ⊢
      have ff := blk_frozen HN2.out 2
      have zz : wx.cell? ⟨gn, 2, none⟩ = some (.int .i64 0) := (blk_cell HN2.out 2).trans rfl
      go_wp2
      refine ⟨.inr (.inr (.inr ⟨rfl, rfl, ⟨blk_put HN2.out 2 _ rfl⟩, ⟨blk_far HK2.out HNE.out _⟩, ⟨Kd.V_far HV2.out (fun k hk => by have := HGN2.out; simp only; omega) _⟩, ⟨below_set HB2.out HGN3.out⟩⟩)), by simp [intOf]⟩
    · have z0 : wr.cell? ⟨gn, 0, none⟩ = some (.int .i64 g) := (blk_cell HNr.out 0).trans rfl
      have z1 : wr.cell? ⟨gn, 1, none⟩ = some (.int .i64 s) := (blk_cell HNr.out 1).trans rfl
      have z2 : wr.cell? ⟨gn, 2, none⟩ = some (.int .i64 m) := (blk_cell HNr.out 2).trans rfl
      go_wp2_with (first | ((with_reducible refine gate_dst (N := 9) rfl ?_); refine box_event ?hg (N := 9) ?hd (cs := #[.int .i64 0, .int .i64 0, .int .i64 0]) (t := 23) ?hr ?_; (case hd => rfl); (case hg => rfl); (case hr => first | (go_simp; done) | (go_simp; rfl)); intro gs hgs wf hbox hb; have HBf := Aside0.mk (HBr.out.trans (hb.mono HBr.out.size)); have HS := Aside0.mk hbox; have HGS := Aside0.mk hgs; have HKf := Aside0.mk (blk_below HKr.out hb); have f0 := blk_frozen hbox 0; have f1 := blk_frozen hbox 1; have f2 := blk_frozen hbox 2; have x0 : wf.cell? ⟨gs, 0, none⟩ = some (.int .i64 0) := (blk_cell hbox 0).trans rfl; have x1 : wf.cell? ⟨gs, 1, none⟩ = some (.int .i64 0) := (blk_cell hbox 1).trans rfl; have x2 : wf.cell? ⟨gs, 2, none⟩ = some (.int .i64 0) := (blk_cell hbox 2).trans rfl; clear hb hbox hgs) | fail)
      have HNS : Aside0 (gb ≠ gs) := ⟨by have := blk_lt HKr.out; rw [HGS.out]; omega⟩
      have HGS2 : Aside0 (w.heap.size ≤ gs) := ⟨by rw [HGS.out]; exact HBr.out.size⟩
      have hS3 := blk_put (cs' := #[.int .i64 g, .int .i64 s, .int .i64 m]) (blk_put (cs' := #[.int .i64 g, .int .i64 s, .int .i64 0]) (blk_put (cs' := #[.int .i64 g, .int .i64 0, .int .i64 0]) HS.out 0 (.int .i64 g) rfl) 1 (.int .i64 s) rfl) 2 (.int .i64 m) rfl
      have hK3 := blk_far (blk_far (blk_far HKf.out (p := ⟨gs, 0, none⟩) HNS.out (.int .i64 g)) (p := ⟨gs, 1, none⟩) HNS.out (.int .i64 s)) (p := ⟨gs, 2, none⟩) HNS.out (.int .i64 m)
      have hB3 := below_set (j := 2) (v := .int .i64 m) (below_set (j := 1) (v := .int .i64 s) (below_set (j := 0) (v := .int .i64 g) HBf.out HGS2.out) HGS2.out) HGS2.out
      have HS3 := Aside0.mk hS3
      have HK3 := Aside0.mk hK3
      have HB3 := Aside0.mk hB3
      clear hS3 hK3 hB3 f0 f1 f2 x0 x1 x2 z0 z1 z2
      refine (slot_Print.calls _ _ _ _ _ _ HQ.out).mono ?_
      rintro e wh ⟨rfl, hbh⟩
      have HK4 := Aside0.mk (blk_below HK3.out hbh)
      have HB4 : Aside0 (Below w.heap.size w wh) := ⟨HB3.out.trans (hbh.mono HB3.out.size)⟩
      have hS4 := blk_below HS3.out hbh
      have y0 : wh.cell? ⟨gs, 0, none⟩ = some (.int .i64 g) := (blk_cell hS4 0).trans rfl
      have y1 : wh.cell? ⟨gs, 1, none⟩ = some (.int .i64 s) := (blk_cell hS4 1).trans rfl
      have y2 : wh.cell? ⟨gs, 2, none⟩ = some (.int .i64 m) := (blk_cell hS4 2).trans rfl
      clear hbh hS4 HS3 HK3 HB3 HKf HBf HS HNr HKr HVr HBr
      have f0 := blk_frozen HK4.out 0
      have f1 := blk_frozen HK4.out 1
      have f2 := blk_frozen HK4.out 2
      have z0 : wh.cell? ⟨gb, 0, none⟩ = some (.int .i64 0) := (blk_cell HK4.out 0).trans rfl
      have z1 : wh.cell? ⟨gb, 1, none⟩ = some (.int .i64 0) := (blk_cell HK4.out 1).trans rfl
      have z2 : wh.cell? ⟨gb, 2, none⟩ = some (.int .i64 0) := (blk_cell HK4.out 2).trans rfl
      cases b1 with
      | true =>
        have e1' : (q2 == 0) = false := by simpa using e1
        go_wp2
        refine bodyPost_ret (results_ct rfl _ _ gb 23 #[.int .i64 0, .int .i64 0, .int .i64 0] (0, 0) _ rfl (blk_put (cs := #[.int .i64 0, .int .i64 0, .int .i64 0]) (blk_put (cs := #[.int .i64 0, .int .i64 0, .int .i64 0]) (blk_put (cs := #[.int .i64 0, .int .i64 0, .int .i64 0]) HK4.out 0 _ rfl) 1 _ rfl) 2 _ rfl) Try.underlying23 rfl (by kernel_rfl)) rfl ?_
        exact ⟨by rw [HRR.out]; rfl, below_set (below_set (below_set HB4.out HG2.out) HG2.out) HG2.out⟩
      | false =>
       cases b2 with
       | true =>
        have e1' : (q2 == 0) = true := by simpa using e1
        have e2' : (q.toList == a0.toList) = false := by simpa using e2
        go_wp2
        refine bodyPost_ret (results_ct rfl _ _ gb 23 #[.int .i64 0, .int .i64 0, .int .i64 0] (0, 0) _ rfl (blk_put (cs := #[.int .i64 0, .int .i64 0, .int .i64 0]) (blk_put (cs := #[.int .i64 0, .int .i64 0, .int .i64 0]) (blk_put (cs := #[.int .i64 0, .int .i64 0, .int .i64 0]) HK4.out 0 _ rfl) 1 _ rfl) 2 _ rfl) Try.underlying23 rfl (by kernel_rfl)) rfl ?_
        exact ⟨by rw [HRR.out]; rfl, below_set (below_set (below_set HB4.out HG2.out) HG2.out) HG2.out⟩
       | false =>
        have e1' : (q2 == 0) = true := by simpa using e1
        have e2' : (q.toList == a0.toList) = true := by simpa using e2
        have eq0 : q2 = 0 := by simpa using e1
        go_wp2
        refine bodyPost_ret (results_ct rfl _ _ gb 23 #[.int .i64 g, .int .i64 s, .int .i64 m] (0, 0) _ rfl (blk_put (cs := #[.int .i64 g, .int .i64 s, .int .i64 0]) (blk_put (cs := #[.int .i64 g, .int .i64 0, .int .i64 0]) (blk_put (cs := #[.int .i64 0, .int .i64 0, .int .i64 0]) HK4.out 0 _ rfl) 1 _ rfl) 2 _ rfl) Try.underlying23 rfl (by kernel_rfl)) rfl ?_
        exact ⟨by rw [HRR.out]; rfl, below_set (below_set (below_set HB4.out HG2.out) HG2.out) HG2.out⟩
theorem slot_Parse.calls (a0 : ByteArray) (r1 : Int) (r2 : Int) (r3 : Int) (r4 : Int) (w : World) (h : slot_Parse.f a0 = some (r1, r2, r3, r4)) :
    Calls Try.prog 18 #[.string a0] w fun e w' => e = .returned (.tuple #[.agg #[.int .i64 r1, .int .i64 r2, .int .i64 r3], .int .i64 r4]) ∧ Below w.heap.size w w' := by
  unfold slot_Parse.f at h
  obtain ⟨⟨l, e⟩, ho, h⟩ := Option.bind_eq_some_iff.1 h
  obtain ⟨p, hp, h⟩ := Option.bind_eq_some_iff.1 h
  by_cases hc : e = 0 ∧ p = true
  · rw [if_pos hc] at h
    obtain ⟨rfl, rfl⟩ := hc
    obtain ⟨⟨q, q2⟩, hq, h⟩ := Option.bind_eq_some_iff.1 h
    have hl : l.length = 36 ∧ ∀ x ∈ l, 0 ≤ x ∧ x < 256 := by
      unfold num_Open.f at ho
      split at ho
      · rename_i hs
        injection ho with ho
        injection ho with ho _
        unfold isSealed at hs
        simp only [Bool.and_eq_true, decide_eq_true_eq] at hs
        refine ⟨by rw [← ho, List.length_take, hs.1]; rfl, fun x hx => bytesOf_bd a0 x ?_⟩
        rw [← ho] at hx
        exact List.mem_of_mem_take hx
      · injection ho with ho
        injection ho with _ ho
        cases ho
    have := slot_Parse.good a0 l q q2 (q2 != 0) (q.toList != a0.toList) w ho hp hl.1 hl.2 _ _ _ rfl rfl rfl hq rfl rfl (r1, r2, r3, r4) ?_
    · exact this
    · by_cases hx : q2 = 0 ∧ q.toList = a0.toList
      · rw [if_pos hx] at h
        rw [if_pos ⟨by simpa using hx.1, by simpa using hx.2⟩]
        exact (Option.some.inj h).symm
      · rw [if_neg hx] at h
        rw [if_neg (by simpa using hx)]
        exact (Option.some.inj h).symm
  · rw [if_neg hc] at h
    have h := Option.some.inj h
    simp only [Prod.mk.injEq] at h
    obtain ⟨rfl, rfl, rfl, rfl⟩ := h
    refine slot_Parse.bad a0 l e p w ho hp ?_
    cases p with
    | true => exact .inl fun h => hc ⟨h, rfl⟩
    | false => exact .inr rfl
end Go.Proofs.Ythjnkapkhphpeaa.P
end
