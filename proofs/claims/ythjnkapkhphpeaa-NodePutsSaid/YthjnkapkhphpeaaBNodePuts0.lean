/- Texts of this claim's proof put together: P0, F31, HConcat, F38, F41, HAt, F56. -/
import Derived.Test.YthjnkapkhphpeaaProg
import Derived.Below
import Derived.Deep.Draws
import Derived.Deep.AppendLies
import Derived.Maps.AppendAt
import Derived.OwnWalk
import Derived.Laws.BytesArg
import Derived.Laws.MakeOwn
import Derived.Laws.OwnMore
import Derived.Deep.OwnRows
import Derived.Tactics
import Derived.Lib.ConvBytes
import Derived.Laws.Slices
import Derived.WalkKit
import Derived.KernelRfl
import Derived.RowKit3
import Derived.Deep.LoopGhost
import Derived.Deep.QuietTactic
import Derived.BigQuiet
import Derived.WideLaws
import Derived.Deep.DeepCutAuto
import Derived.Deep.CutBlock
import Derived.Deep.RegionHeld3
import Derived.Laws.Rows
import Derived.Lib.AppendStr
import Derived.ArgAppend
import Derived.Laws.IdiomCopy
import Derived.OrdersHeld
import Derived.Laws.BitsLemmas
import Derived.RowKit
import Derived.Test.YthjnkapkhphpeaaWWords
import Derived.Test.YthjnkapkhphpeaaWLast
import Derived.Test.YthjnkapkhphpeaaWTab
import Derived.Test.YthjnkapkhphpeaaWFour
import Derived.Test.YthjnkapkhphpeaaWQPut
import Derived.Test.YthjnkapkhphpeaaWApart
import Derived.Test.YthjnkapkhphpeaaWArr
import Derived.Test.YthjnkapkhphpeaaWZeros
import Derived.Test.YthjnkapkhphpeaaWFoot
import Derived.Test.YthjnkapkhphpeaaWKept
import Derived.Test.YthjnkapkhphpeaaWShare
import Derived.Test.YthjnkapkhphpeaaWN
import Derived.Test.YthjnkapkhphpeaaWFootNe
import Derived.Test.YthjnkapkhphpeaaWAt
import Derived.Test.YthjnkapkhphpeaaWEqStruct
import Derived.Test.YthjnkapkhphpeaaWRepsOne
import Derived.Test.YthjnkapkhphpeaaWInv
import Derived.Test.YthjnkapkhphpeaaWInvWords
import Derived.Test.YthjnkapkhphpeaaWGuard
import Derived.Test.YthjnkapkhphpeaaWNEv
import Derived.Test.YthjnkapkhphpeaaWMore
import Derived.Shelf.RegionOpenPlain
import Derived.Shelf.Abstract
section
namespace Go.Proofs.Ythjnkapkhphpeaa.P
open Go.RowKit Go.Proofs.YthjnkapkhphpeaaW.PrintWords Go.Proofs.YthjnkapkhphpeaaW.PrintLast Go.Proofs.YthjnkapkhphpeaaW.PrintMore
attribute [local go_sem] max2_int min2_int max_two min_two max_three min_three max_four min_four
set_option linter.unusedVariables false
set_option linter.unusedSimpArgs false



def errW : Option Int → Value
  | none => .nilIface
  | some c => .iface 0 (.int .i64 c)
theorem errW_none : errW none = .nilIface := rfl
theorem errW_some (c : Int) : errW (some c) = .iface 0 (.int .i64 c) := rfl

theorem info5 : (Try.prog.info? 5).map (fun i => (i.zero, i.size, i.bytes)) = some (some (.int .u8 0), 1, 1) := by kernel_rfl
theorem info24 : (Try.prog.info? 24).map (fun i => (i.zero, i.size, i.bytes)) = some (some (.slice none 0 0), 1, 24) := by kernel_rfl
theorem info54 : (Try.prog.info? 54).map (fun i => (i.zero, i.size, i.bytes)) = some (some (.slice none 0 0), 1, 24) := by kernel_rfl
theorem info78 : (Try.prog.info? 78).map (fun i => (i.zero, i.size, i.bytes)) = some (some (.agg #[(.int .i64 0), (.int .i64 0)]), 2, 16) := by kernel_rfl
-- the values' own types
/-! #### struct type 78 -/
structure S78 where
  f0 : Int
  f1 : Int
def z78 : S78 := ⟨(0 : Int), (0 : Int)⟩
def k78 : Kd S78 := Kd.iso (Kd.pair (Kd.int .i64) (Kd.int .i64)) (fun x : S78 => (x.f0, x.f1))
theorem k78_heap : Kd.Heap k78 := Kd.heap_iso _ (Kd.heap_pair (Kd.heap_int .i64) (Kd.heap_int .i64))
theorem k78_open {w : World} {x : S78} {cs : List Value} (h : k78.K w x cs) : cs = [.int .i64 x.f0, .int .i64 x.f1] := by
  obtain ⟨_, _, rfl, rfl, rfl⟩ := h
  exact rfl
theorem k78_openM {w : World} {base : Nat} {ok : Nat → Prop} {x : S78} {cs : List Value} (h : k78.M w base ok x cs) : cs = [.int .i64 x.f0, .int .i64 x.f1] := by
  obtain ⟨_, _, rfl, rfl, rfl⟩ := h
  exact rfl
theorem k78_mk (w : World) (x : S78)  : k78.K w x [.int .i64 x.f0, .int .i64 x.f1] := ⟨[.int .i64 x.f0], [.int .i64 x.f1], rfl, rfl, rfl⟩
theorem k78_mkM (w : World) (base : Nat) (ok : Nat → Prop) (x : S78)  : k78.M w base ok x [.int .i64 x.f0, .int .i64 x.f1] := ⟨[.int .i64 x.f0], [.int .i64 x.f1], rfl, rfl, rfl⟩
theorem k78_mkF (W : World) (ok : Nat → Prop) (x : S78) : Kd.FK k78 W ok x [.int .i64 x.f0, .int .i64 x.f1] := fun W2 _ => k78_mk W2 x
def rd_T78 (xs : List S78) (i : Int) : S78 := xs.getD i.toNat z78
theorem at_T78 {w : World} {A : Option Addr} {n : Nat} {xs : List S78} (h : Kd.C k78 w A n xs) (i : Int) (h0 : 0 ≤ i) (h1 : i < n) : ∃ ad , A = some ad ∧ w.cell? (ad.add (i.toNat * 2)) = some (.int .i64 (rd_T78 xs i).f0) ∧ w.cell? ⟨(ad.add (i.toNat * 2)).block, (ad.add (i.toNat * 2)).off + 1, none⟩ = some (.int .i64 (rd_T78 xs i).f1) := by
  obtain ⟨ad, c, e, _, hK, hc0⟩ := Kd.C_get h z78 i h0 h1
  have hc : ∀ j u, c[j]? = some u → w.cell? (ad.add (i.toNat * 2 + j)) = some u := hc0
  obtain rfl := k78_open hK
  exact ⟨ad, e, hc 0 _ rfl, by rw [← add_field _ _ 1 (by omega)]; exact hc 1 _ rfl⟩

def rd_L3 (xs : List (List Int)) (i : Int) : (List Int) := xs.getD i.toNat ([] : List Int)
theorem at_L3 {w : World} {A : Option Addr} {n : Nat} {xs : List (List Int)} (h : Kd.C (Kd.slice 5 (Kd.int .u8)) w A n xs) (i : Int) (h0 : 0 ≤ i) (h1 : i < n) : ∃ ad A0 c0, A = some ad ∧ w.cell? (ad.add i.toNat) = some (.slice A0 (rd_L3 xs i).length c0) ∧ (rd_L3 xs i).length ≤ c0 ∧ (Kd.int .u8).C w A0 (rd_L3 xs i).length (rd_L3 xs i) := by
  obtain ⟨ad, c, e, _, hK, hc0⟩ := Kd.C_get h ([] : List Int) i h0 h1
  have hc : ∀ j u, c[j]? = some u → w.cell? (ad.add (i.toNat * 1 + j)) = some u := hc0
  obtain ⟨A0, c0, rfl, l0, g0⟩ := hK
  exact ⟨ad, A0, c0, e, by have hq := hc 0 _ rfl; rwa [Nat.mul_one, Nat.add_zero] at hq, l0, g0⟩

def rd_L5 (xs : List (List (List Int))) (i : Int) : (List (List Int)) := xs.getD i.toNat ([] : List (List Int))
theorem at_L5 {w : World} {A : Option Addr} {n : Nat} {xs : List (List (List Int))} (h : Kd.C (Kd.slice 24 (Kd.slice 5 (Kd.int .u8))) w A n xs) (i : Int) (h0 : 0 ≤ i) (h1 : i < n) : ∃ ad A0 c0, A = some ad ∧ w.cell? (ad.add i.toNat) = some (.slice A0 (rd_L5 xs i).length c0) ∧ (rd_L5 xs i).length ≤ c0 ∧ (Kd.slice 5 (Kd.int .u8)).C w A0 (rd_L5 xs i).length (rd_L5 xs i) := by
  obtain ⟨ad, c, e, _, hK, hc0⟩ := Kd.C_get h ([] : List (List Int)) i h0 h1
  have hc : ∀ j u, c[j]? = some u → w.cell? (ad.add (i.toNat * 1 + j)) = some u := hc0
  obtain ⟨A0, c0, rfl, l0, g0⟩ := hK
  exact ⟨ad, A0, c0, e, by have hq := hc 0 _ rfl; rwa [Nat.mul_one, Nat.add_zero] at hq, l0, g0⟩

def rd_L7 (xs : List (List S78)) (i : Int) : (List S78) := xs.getD i.toNat ([] : List S78)
theorem at_L7 {w : World} {A : Option Addr} {n : Nat} {xs : List (List S78)} (h : Kd.C (Kd.slice 78 k78) w A n xs) (i : Int) (h0 : 0 ≤ i) (h1 : i < n) : ∃ ad A0 c0, A = some ad ∧ w.cell? (ad.add i.toNat) = some (.slice A0 (rd_L7 xs i).length c0) ∧ (rd_L7 xs i).length ≤ c0 ∧ k78.C w A0 (rd_L7 xs i).length (rd_L7 xs i) := by
  obtain ⟨ad, c, e, _, hK, hc0⟩ := Kd.C_get h ([] : List S78) i h0 h1
  have hc : ∀ j u, c[j]? = some u → w.cell? (ad.add (i.toNat * 1 + j)) = some u := hc0
  obtain ⟨A0, c0, rfl, l0, g0⟩ := hK
  exact ⟨ad, A0, c0, e, by have hq := hc 0 _ rfl; rwa [Nat.mul_one, Nat.add_zero] at hq, l0, g0⟩

/-! #### struct type 56 -/
structure S56 where
  f0 : Bool
  f1 : (List S78)
def z56 : S56 := ⟨false, ([] : List S78)⟩
def k56 : Kd S56 := Kd.iso (Kd.pair Kd.bool (Kd.slice 78 k78)) (fun x : S56 => (x.f0, x.f1))
theorem k56_heap : Kd.Heap k56 := Kd.heap_iso _ (Kd.heap_pair Kd.heap_bool (Kd.heap_slice 78 k78_heap))
theorem k56_open {w : World} {x : S56} {cs : List Value} (h : k56.K w x cs) : ∃ A1 c1, cs = [.bool x.f0, .slice A1 x.f1.length c1] ∧ x.f1.length ≤ c1 ∧ k78.C w A1 x.f1.length x.f1 := by
  obtain ⟨_, _, rfl, rfl, ⟨A1, c1, rfl, l1, g1⟩⟩ := h
  exact ⟨A1, c1, rfl, l1, g1⟩
theorem k56_openM {w : World} {base : Nat} {ok : Nat → Prop} {x : S56} {cs : List Value} (h : k56.M w base ok x cs) : ∃ v1, cs = [.bool x.f0, v1] ∧ k78.R 78 w base ok v1 x.f1 := by
  obtain ⟨_, _, rfl, rfl, ⟨v1, rfl, g1⟩⟩ := h
  exact ⟨v1, rfl, g1⟩
theorem k56_mk (w : World) (x : S56) {A1 : Option Addr} {c1 : Nat} (l1 : x.f1.length ≤ c1) (g1 : k78.C w A1 x.f1.length x.f1) : k56.K w x [.bool x.f0, .slice A1 x.f1.length c1] := ⟨[.bool x.f0], [.slice A1 x.f1.length c1], rfl, rfl, ⟨A1, c1, rfl, l1, g1⟩⟩
theorem k56_mkM (w : World) (base : Nat) (ok : Nat → Prop) (x : S56) {v1 : Value} (g1 : k78.R 78 w base ok v1 x.f1) : k56.M w base ok x [.bool x.f0, v1] := ⟨[.bool x.f0], [v1], rfl, rfl, ⟨v1, rfl, g1⟩⟩
theorem k56_openF {W : World} {ok : Nat → Prop} {x : S56} {cs : List Value} (h : Kd.FK k56 W ok x cs) : ∃ A1 c1, cs = [.bool x.f0, .slice A1 x.f1.length c1] ∧ x.f1.length ≤ c1 ∧ Kd.F k78 W ok A1 x.f1.length x.f1 := by
  obtain ⟨A1, c1, rfl, l1, _⟩ := k56_open (Kd.FK_now h)
  exact ⟨A1, c1, rfl, l1, (fun W' hW => by obtain ⟨A1_, c1_, he, l1_, g1_⟩ := k56_open (h W' hW); injection (Option.some.inj (show some (Value.slice A1 x.f1.length c1) = some (Value.slice A1_ x.f1.length c1_) from congrArg (fun l => l[1]?) he)) with ha_ _ _; rw [ha_]; exact g1_)⟩
theorem k56_mkF (W : World) (ok : Nat → Prop) (x : S56) {A1 : Option Addr} {c1 : Nat} (l1 : x.f1.length ≤ c1) (g1 : Kd.F k78 W ok A1 x.f1.length x.f1) : Kd.FK k56 W ok x [.bool x.f0, .slice A1 x.f1.length c1] := fun W2 hW => k56_mk W2 x l1 (g1 W2 hW)
def rd_T56 (xs : List S56) (i : Int) : S56 := xs.getD i.toNat z56
theorem at_T56 {w : World} {A : Option Addr} {n : Nat} {xs : List S56} (h : Kd.C k56 w A n xs) (i : Int) (h0 : 0 ≤ i) (h1 : i < n) : ∃ ad A1 c1, A = some ad ∧ w.cell? (ad.add (i.toNat * 2)) = some (.bool (rd_T56 xs i).f0) ∧ w.cell? ⟨(ad.add (i.toNat * 2)).block, (ad.add (i.toNat * 2)).off + 1, none⟩ = some (.slice A1 (rd_T56 xs i).f1.length c1) ∧ (rd_T56 xs i).f1.length ≤ c1 ∧ k78.C w A1 (rd_T56 xs i).f1.length (rd_T56 xs i).f1 := by
  obtain ⟨ad, c, e, _, hK, hc0⟩ := Kd.C_get h z56 i h0 h1
  have hc : ∀ j u, c[j]? = some u → w.cell? (ad.add (i.toNat * 2 + j)) = some u := hc0
  obtain ⟨A1, c1, rfl, l1, g1⟩ := k56_open hK
  exact ⟨ad, A1, c1, e, hc 0 _ rfl, by rw [← add_field _ _ 1 (by omega)]; exact hc 1 _ rfl, l1, g1⟩

def rd_L9 (xs : List (List (List S78))) (i : Int) : (List (List S78)) := xs.getD i.toNat ([] : List (List S78))
theorem at_L9 {w : World} {A : Option Addr} {n : Nat} {xs : List (List (List S78))} (h : Kd.C (Kd.slice 54 (Kd.slice 78 k78)) w A n xs) (i : Int) (h0 : 0 ≤ i) (h1 : i < n) : ∃ ad A0 c0, A = some ad ∧ w.cell? (ad.add i.toNat) = some (.slice A0 (rd_L9 xs i).length c0) ∧ (rd_L9 xs i).length ≤ c0 ∧ (Kd.slice 78 k78).C w A0 (rd_L9 xs i).length (rd_L9 xs i) := by
  obtain ⟨ad, c, e, _, hK, hc0⟩ := Kd.C_get h ([] : List (List S78)) i h0 h1
  have hc : ∀ j u, c[j]? = some u → w.cell? (ad.add (i.toNat * 1 + j)) = some u := hc0
  obtain ⟨A0, c0, rfl, l0, g0⟩ := hK
  exact ⟨ad, A0, c0, e, by have hq := hc 0 _ rfl; rwa [Nat.mul_one, Nat.add_zero] at hq, l0, g0⟩

end Go.Proofs.Ythjnkapkhphpeaa.P
end
section
namespace Go.Proofs.Ythjnkapkhphpeaa.P
open Go.RowKit Go.Proofs.YthjnkapkhphpeaaW.PrintWords Go.Proofs.YthjnkapkhphpeaaW.PrintLast Go.Proofs.YthjnkapkhphpeaaW.PrintMore
attribute [local go_sem] max2_int min2_int max_two min_two max_three min_three max_four min_four
set_option linter.unusedVariables false
set_option linter.unusedSimpArgs false

/-! ### assartref04_Right: function 31 -/
mutual
def assartref04_Right.j0 : Nat → Bool → Bool → List (S78) → Option (Bool)
  | 0, _, _, _ => none
  | k + 1, x14, x201000, x201001 => if x14 = true then (some false) else (assartref04_Right.l0 k 0 x201000 x201001)
def assartref04_Right.l0 : Nat → Int → Bool → List (S78) → Option (Bool)
  | 0, _, _, _ => none
  | k + 1, x3, x201000, x201001 => if x3 < (x201001.length : Int) then (if 0 ≤ x3 then (if ((rd_T78 x201001 x3).f0) < 0 then (some false) else (if ((rd_T78 x201001 x3).f0) > 2147483647 then (some false) else (if ((rd_T78 x201001 x3).f1) < 0 then (some false) else (if ((rd_T78 x201001 x3).f1) > 2147483647 then (some false) else (if x3 > 0 then (if 0 ≤ (wrap64 (x3 - 1)) then (if (wrap64 (x3 - 1)) < (x201001.length : Int) then (if ((rd_T78 x201001 (wrap64 (x3 - 1))).f0) ≥ ((rd_T78 x201001 x3).f0) then (some false) else (assartref04_Right.l0 k (wrap64 (x3 + 1)) x201000 x201001)) else (none)) else (none)) else (assartref04_Right.l0 k (wrap64 (x3 + 1)) x201000 x201001)))))) else (none)) else (some true)
end
def assartref04_Right.f (k : Nat) (a0_0 : Bool) (l0_1 : List (S78)) : Option (Bool) := if (l0_1.length : Int) < 1 then (assartref04_Right.j0 k true a0_0 l0_1) else (assartref04_Right.j0 k (decide ((l0_1.length : Int) > 4)) a0_0 l0_1)
theorem assartref04_Right.mono_l : ∀ k, (∀ y0 y1 y2, LeO (assartref04_Right.j0 k y0 y1 y2) (assartref04_Right.j0 (k + 1) y0 y1 y2)) ∧ (∀ y0 y1 y2, LeO (assartref04_Right.l0 k y0 y1 y2) (assartref04_Right.l0 (k + 1) y0 y1 y2))
  | 0 => ⟨fun _ _ _ r h => by simp [assartref04_Right.j0] at h, fun _ _ _ r h => by simp [assartref04_Right.l0] at h⟩
  | k + 1 => by
    obtain ⟨ih0, ih1⟩ := assartref04_Right.mono_l k
    refine ⟨?_, ?_⟩
    · intro y0 y1 y2
      unfold assartref04_Right.j0
      repeat' first
      | (with_reducible exact ih0 _ _ _)
      | (with_reducible exact ih1 _ _ _)
      | (with_reducible exact LeO.refl _)
      | (with_reducible exact LeO.none _)
      | (with_reducible refine LeO.ite ?_ ?_)
      | (with_reducible refine LeO.bind ?_ (fun _ => ?_))
      | exact ih0 _ _ _
      | exact ih1 _ _ _
      | exact LeO.none _
      | refine LeO.ite ?_ ?_
      | refine LeO.bind ?_ (fun _ => ?_)
    · intro y0 y1 y2
      unfold assartref04_Right.l0
      repeat' first
      | (with_reducible exact ih0 _ _ _)
      | (with_reducible exact ih1 _ _ _)
      | (with_reducible exact LeO.refl _)
      | (with_reducible exact LeO.none _)
      | (with_reducible refine LeO.ite ?_ ?_)
      | (with_reducible refine LeO.bind ?_ (fun _ => ?_))
      | exact ih0 _ _ _
      | exact ih1 _ _ _
      | exact LeO.none _
      | refine LeO.ite ?_ ?_
      | refine LeO.bind ?_ (fun _ => ?_)
theorem assartref04_Right.mono : ∀ a0 a1 k, LeO (assartref04_Right.f k a0 a1) (assartref04_Right.f (k + 1) a0 a1) := by
  intro a0 a1 k
  obtain ⟨ih0, ih1⟩ := assartref04_Right.mono_l k
  unfold assartref04_Right.f
  repeat' first
      | (with_reducible exact ih0 _ _ _)
      | (with_reducible exact ih1 _ _ _)
      | (with_reducible exact LeO.refl _)
      | (with_reducible exact LeO.none _)
      | (with_reducible refine LeO.ite ?_ ?_)
      | (with_reducible refine LeO.bind ?_ (fun _ => ?_))
      | exact ih0 _ _ _
      | exact ih1 _ _ _
      | exact LeO.none _
      | refine LeO.ite ?_ ?_
      | refine LeO.bind ?_ (fun _ => ?_)
set_option maxHeartbeats 8000000 in
set_option maxRecDepth 100000 in
theorem assartref04_Right.calls (k : Nat) (a0_0 : Bool) (A0_1 : Option Addr) (c0_1 : Nat) (l0_1 : List (S78)) (r : Bool) (w : World) (hr0_1 : Kd.C k78 w A0_1 l0_1.length l0_1) (hc0_1 : l0_1.length ≤ c0_1) (h : assartref04_Right.f k a0_0 l0_1 = some r) :
    Calls Try.prog 31 #[.agg #[.bool a0_0, .slice A0_1 l0_1.length c0_1]] w fun e w' => e = .returned (.bool r) ∧ Below w.heap.size w w' := by
  have hu56 := Try.underlying56
  have hu78 := Try.underlying78
  have HR0_1 := Aside0.mk hr0_1
  have HC0_1 := Aside0.mk hc0_1
  clear hr0_1 hc0_1
  have HB := Aside0.mk (Below.refl w.heap.size w)
  have H : (if (l0_1.length : Int) < 1 then (assartref04_Right.j0 k true a0_0 l0_1) else (assartref04_Right.j0 k (decide ((l0_1.length : Int) > 4)) a0_0 l0_1)) = some r := h
  clear h
  have HC2 := Aside0.mk H
  clear H
  go_enter Try.func31, Try.ntmps31
  go_upto_region 1 with (first | ((with_reducible refine gate_dst (N := 1) rfl ?_); (try (refine gate_guard (by rfl) ?_; dsimp only)); refine box_event ?hg (N := 1) ?hd (cs := #[.bool a0_0, .slice A0_1 l0_1.length c0_1]) (t := 56) ?hr ?_; (case hd => rfl); (case hg => rfl); (case hr => first | (go_simp; done) | (go_simp; rfl)); intro gb200 hg w3 hbox hb; have n0_ := Aside0.mk (below_step (by repeat (first | (with_reducible first | exact HB.out | apply below_alloc | apply pw_below_drewN | apply below_drew1) | exact HB.out)) hb); have n1_ := Aside0.mk (hbox); have n2_ := Aside0.mk ((by rw [hg]; exact (below_size (by repeat (first | (with_reducible first | exact HB.out | apply below_alloc | apply pw_below_drewN | apply below_drew1) | exact HB.out))) : w.heap.size ≤ gb200)); have n3_ := Aside0.mk ((by rw [hg]; exact (below_size (by repeat (first | (with_reducible first | exact HB.out | apply below_alloc | apply pw_below_drewN | apply below_drew1) | exact HB.out))) : w.heap.size ≤ gb200)); clear HB; have HB := n0_; have BK200 := n1_; have GW200 := n2_; have GE200 := n3_; clear n0_ n1_ n2_ n3_; clear hb hbox hg))
  repeat (go_quiet (first | ((with_reducible refine gate_dst (N := 1) rfl ?_); (try (refine gate_guard (by rfl) ?_; dsimp only)); refine box_event ?hg (N := 1) ?hd (cs := #[.bool a0_0, .slice A0_1 l0_1.length c0_1]) (t := 56) ?hr ?_; (case hd => rfl); (case hg => rfl); (case hr => first | (go_simp; done) | (go_simp; rfl)); intro gb200 hg w3 hbox hb; have n0_ := Aside0.mk (below_step (by repeat (first | (with_reducible first | exact HB.out | apply below_alloc | apply pw_below_drewN | apply below_drew1) | exact HB.out)) hb); have n1_ := Aside0.mk (hbox); have n2_ := Aside0.mk ((by rw [hg]; exact (below_size (by repeat (first | (with_reducible first | exact HB.out | apply below_alloc | apply pw_below_drewN | apply below_drew1) | exact HB.out))) : w.heap.size ≤ gb200)); have n3_ := Aside0.mk ((by rw [hg]; exact (below_size (by repeat (first | (with_reducible first | exact HB.out | apply below_alloc | apply pw_below_drewN | apply below_drew1) | exact HB.out))) : w.heap.size ≤ gb200)); clear HB; have HB := n0_; have BK200 := n1_; have GW200 := n2_; have GE200 := n3_; clear n0_ n1_ n2_ n3_; clear hb hbox hg)); go_upto_region 1 with (first | ((with_reducible refine gate_dst (N := 1) rfl ?_); (try (refine gate_guard (by rfl) ?_; dsimp only)); refine box_event ?hg (N := 1) ?hd (cs := #[.bool a0_0, .slice A0_1 l0_1.length c0_1]) (t := 56) ?hr ?_; (case hd => rfl); (case hg => rfl); (case hr => first | (go_simp; done) | (go_simp; rfl)); intro gb200 hg w3 hbox hb; have n0_ := Aside0.mk (below_step (by repeat (first | (with_reducible first | exact HB.out | apply below_alloc | apply pw_below_drewN | apply below_drew1) | exact HB.out)) hb); have n1_ := Aside0.mk (hbox); have n2_ := Aside0.mk ((by rw [hg]; exact (below_size (by repeat (first | (with_reducible first | exact HB.out | apply below_alloc | apply pw_below_drewN | apply below_drew1) | exact HB.out))) : w.heap.size ≤ gb200)); have n3_ := Aside0.mk ((by rw [hg]; exact (below_size (by repeat (first | (with_reducible first | exact HB.out | apply below_alloc | apply pw_below_drewN | apply below_drew1) | exact HB.out))) : w.heap.size ≤ gb200)); clear HB; have HB := n0_; have BK200 := n1_; have GW200 := n2_; have GE200 := n3_; clear n0_ n1_ n2_ n3_; clear hb hbox hg)))
  (try simp only [Act.put, List.setIfInBounds_toArray, List.set_cons_zero, List.set_cons_succ])
  go_cut [14] (fun v14 wc => ∃ (kq : Nat) (x14_1 : Bool), v14 = .bool x14_1 ∧ Aside0 (assartref04_Right.j0 kq x14_1 a0_0 l0_1 = some r) ∧ Aside0 (kq ≤ k) ∧ Aside0 (wc.heap[gb200]? = some (.cells #[.bool a0_0, (.slice A0_1 l0_1.length c0_1)] 56 (0, 0))) ∧ Aside0 (Below w.heap.size w wc))
  case first =>
    have H := HC2.out
    clear HC2
    by_cases c4 : (l0_1.length : Int) < 1
    · rw [if_pos c4] at H
      have c4b0 : decide ((l0_1.length : Int) < 1) = true := decide_eq_true c4
      have c4b1 : decide (l0_1.length < 1) = true := decide_eq_true (by omega)
      clear c4
      (first | rw [c4b0] | (simp only [i64_w, i32_w]; rw [c4b0]) | skip)
      have H' := Aside0.mk H
      clear H
      have hcz5_0 : w3.cell? ⟨gb200, 0, none⟩ = some (.bool a0_0) := (blk_cell BK200.out 0).trans rfl
      have hcz5_1 : w3.cell? ⟨gb200, 1, none⟩ = some (.slice A0_1 l0_1.length c0_1) := (blk_cell BK200.out 1).trans rfl
      have hfz5_0 := blk_frozen BK200.out 0
      have hfz5_1 := blk_frozen BK200.out 1
      go_wp2
      repeat (go_quiet (fail); try go_wp2)
      go_meet
      case rel => exact ⟨_, (true), (by first | rfl | (simp; done) | (simp [*]; done)), H', ⟨by first | omega | exact Nat.le_refl _⟩, ⟨by (with_reducible repeat (first | refine blk_drewN ?_ _ | refine blk_drew ?_ | refine blk_alloc ?_ _)); exact BK200.out⟩, ⟨by repeat (first | (with_reducible first | exact HB.out | apply below_alloc | apply pw_below_drewN | apply below_drew1 | refine below_set ?_ GE200.out) | exact HB.out)⟩⟩
    · rw [if_neg c4] at H
      have c4b0 : decide ((l0_1.length : Int) < 1) = false := decide_eq_false c4
      have c4b1 : decide (l0_1.length < 1) = false := decide_eq_false (by omega)
      clear c4
      (first | rw [c4b0] | (simp only [i64_w, i32_w]; rw [c4b0]) | skip)
      have H' := Aside0.mk H
      clear H
      have hcz6_0 : w3.cell? ⟨gb200, 0, none⟩ = some (.bool a0_0) := (blk_cell BK200.out 0).trans rfl
      have hcz6_1 : w3.cell? ⟨gb200, 1, none⟩ = some (.slice A0_1 l0_1.length c0_1) := (blk_cell BK200.out 1).trans rfl
      have hfz6_0 := blk_frozen BK200.out 0
      have hfz6_1 := blk_frozen BK200.out 1
      go_wp2
      repeat (go_quiet (fail); try go_wp2)
      go_meet
      case rel => exact ⟨_, (decide ((l0_1.length : Int) > 4)), (by first | rfl | (simp; done) | (simp [*]; done)), H', ⟨by first | omega | exact Nat.le_refl _⟩, ⟨by (with_reducible repeat (first | refine blk_drewN ?_ _ | refine blk_drew ?_ | refine blk_alloc ?_ _)); exact BK200.out⟩, ⟨by repeat (first | (with_reducible first | exact HB.out | apply below_alloc | apply pw_below_drewN | apply below_drew1 | refine below_set ?_ GE200.out) | exact HB.out)⟩⟩
  case rest =>
    clear HC2
    try clear p2
    try clear c3
    try clear c4
    try clear c4b0
    try clear c4b1
    try clear hcz5_0
    try clear hcz5_1
    try clear hcz6_0
    try clear hcz6_1
    try clear hfz5_0
    try clear hfz5_1
    try clear hfz6_0
    try clear hfz6_1
    obtain ⟨kq, x14_1, rfl, HA, HJ1, BK200, HB⟩ := hcut
    cases kq with
    | zero => exact absurd HA.out (by simp [assartref04_Right.j0])
    | succ kj1 =>
      have H := HA.out
      clear HA
      simp only [assartref04_Right.j0] at H
      by_cases c7 : x14_1 = true
      · subst c7
        have H1 : (some false) = some r := by rw [if_pos rfl] at H; exact H
        clear H
        have H := H1
        clear H1
        obtain rfl := Option.some.inj H
        go_wp2
        repeat (go_quiet (fail); try go_wp2)
        go_ret
        exact ⟨by first | rfl | (simp [errW_none, errW_some] <;> rfl) | (simp [*, errW_none, errW_some] <;> rfl), by repeat (first | (with_reducible first | exact HB.out | apply below_alloc | apply pw_below_drewN | apply below_drew1 | refine below_set ?_ GE200.out) | exact HB.out)⟩
      · replace c7 := Bool.eq_false_iff.mpr c7
        subst c7
        have H1 : (assartref04_Right.l0 kj1 0 a0_0 l0_1) = some r := by rw [if_neg (show ¬ (false = true) by decide)] at H; exact H
        clear H
        have H := H1
        clear H1
        have H' := Aside0.mk H
        clear H
        go_wp2
        repeat (go_quiet (fail); try go_wp2)
        go_loopg [3] kj1 (fun kq v3 w' => ∃ (x3_2 : Int), v3 = .int .i64 x3_2 ∧ Aside0 (assartref04_Right.l0 kq x3_2 a0_0 l0_1 = some r) ∧ Aside0 (kq ≤ kj1) ∧ Aside0 (w'.heap[gb200]? = some (.cells #[.bool a0_0, (.slice A0_1 l0_1.length c0_1)] 56 (0, 0))) ∧ Aside0 (Below w.heap.size w w'))
        case atStart => exact ⟨(0), (by first | rfl | (simp; done) | (simp [*]; done)), H', ⟨Nat.le_refl _⟩, ⟨by (with_reducible repeat (first | refine blk_drewN ?_ _ | refine blk_drew ?_ | refine blk_alloc ?_ _)); exact BK200.out⟩, ⟨by repeat (first | (with_reducible first | exact HB.out | apply below_alloc | apply pw_below_drewN | apply below_drew1 | refine below_set ?_ GE200.out) | exact HB.out)⟩⟩
        case round =>
          clear H'
          try clear p2
          try clear c3
          try clear c4
          try clear c4b0
          try clear c4b1
          try clear c7
          try clear hcz5_0
          try clear hcz5_1
          try clear hcz6_0
          try clear hcz6_1
          try clear hfz5_0
          try clear hfz5_1
          try clear hfz6_0
          try clear hfz6_1
          try clear p2
          obtain ⟨x3_2, rfl, HA, HK2, BK200, HB⟩ := hrel
          cases gk with
          | zero => exact absurd HA.out (by simp [assartref04_Right.l0])
          | succ k2 =>
            have H := HA.out
            clear HA
            simp only [assartref04_Right.l0] at H
            by_cases c8 : x3_2 < (l0_1.length : Int)
            · rw [if_pos c8] at H
              have c8b0 : decide (x3_2 < (l0_1.length : Int)) = true := decide_eq_true c8
              clear c8
              by_cases c9 : 0 ≤ x3_2
              · rw [if_pos c9] at H
                have c9b0 : decide (0 ≤ x3_2) = true := decide_eq_true c9
                clear c9
                by_cases c10 : ((rd_T78 l0_1 x3_2).f0) < 0
                · rw [if_pos c10] at H
                  have c10b0 : decide (((rd_T78 l0_1 x3_2).f0) < 0) = true := decide_eq_true c10
                  clear c10
                  obtain rfl := Option.some.inj H
                  have hcz11_0 : wr.cell? ⟨gb200, 0, none⟩ = some (.bool a0_0) := (blk_cell BK200.out 0).trans rfl
                  have hcz11_1 : wr.cell? ⟨gb200, 1, none⟩ = some (.slice A0_1 l0_1.length c0_1) := (blk_cell BK200.out 1).trans rfl
                  have hfz11_0 := blk_frozen BK200.out 0
                  have hfz11_1 := blk_frozen BK200.out 1
                  have p201 : 0 ≤ (x3_2 : Int) := of_decide_eq_true (by first | (with_reducible assumption) | assumption)
                  have q201 : x3_2 < (l0_1.length : Int) := of_decide_eq_true (by first | (with_reducible assumption) | assumption)
                  obtain ⟨ad201, e201, hx201_0, hx201_1⟩ := at_T78 HR0_1.out x3_2 p201 q201
                  cases e201
                  replace hx201_0 := (HB.out.cell (World.block_lt_of_cell? w _ hx201_0)).trans hx201_0
                  replace hx201_1 := (HB.out.cell (World.block_lt_of_cell? w _ hx201_1)).trans hx201_1
                  replace p201 := eq_true p201
                  replace q201 := eq_true q201
                  go_wp2_with (first | ((with_reducible refine gate_dst (N := 4) rfl ?_); (try (refine gate_guard (by rfl) ?_; dsimp only)); refine box_event ?hg (N := 4) ?hd (cs := #[.int .i64 0, .int .i64 0]) (t := 78) ?hr ?_; (case hd => rfl); (case hg => rfl); (case hr => first | (go_simp; done) | (go_simp; rfl)); intro gb202 hg w12 hbox hb; have n0_ := Aside0.mk (blk_below (g := gb200) (o := .cells #[.bool a0_0, .slice (some ad201) l0_1.length c0_1] 56 (0, 0)) (by (with_reducible repeat (first | refine blk_drewN ?_ _ | refine blk_drew ?_ | refine blk_alloc ?_ _)); exact BK200.out) hb); have n1_ := Aside0.mk (below_step (by repeat (first | (with_reducible first | exact HB.out | apply below_alloc | apply pw_below_drewN | apply below_drew1 | refine below_set ?_ GE200.out) | exact HB.out)) hb); have n2_ := Aside0.mk (hbox); have n3_ := Aside0.mk ((by rw [hg]; exact (below_size (by repeat (first | (with_reducible first | exact HB.out | apply below_alloc | apply pw_below_drewN | apply below_drew1 | refine below_set ?_ GE200.out) | exact HB.out))) : w.heap.size ≤ gb202)); have n4_ := Aside0.mk ((by rw [hg]; exact (below_size (by repeat (first | (with_reducible first | exact HB.out | apply below_alloc | apply pw_below_drewN | apply below_drew1 | refine below_set ?_ GE200.out) | exact HB.out))) : w.heap.size ≤ gb202)); have n5_ := Aside0.mk ((by rw [hg]; exact Nat.ne_of_lt (blk_lt (g := gb200) (o := .cells #[.bool a0_0, .slice (some ad201) l0_1.length c0_1] 56 (0, 0)) (by (with_reducible repeat (first | refine blk_drewN ?_ _ | refine blk_drew ?_ | refine blk_alloc ?_ _)); exact BK200.out)) : gb200 ≠ gb202)); have n6_ := Aside0.mk ((by rw [hg]; exact Nat.ne_of_gt (blk_lt (g := gb200) (o := .cells #[.bool a0_0, .slice (some ad201) l0_1.length c0_1] 56 (0, 0)) (by (with_reducible repeat (first | refine blk_drewN ?_ _ | refine blk_drew ?_ | refine blk_alloc ?_ _)); exact BK200.out)) : gb202 ≠ gb200)); clear BK200; clear HB; have BK200 := n0_; have HB := n1_; have BK202 := n2_; have GW202 := n3_; have GE202 := n4_; have NB200_202 := n5_; have NB202_200 := n6_; clear n0_ n1_ n2_ n3_ n4_ n5_ n6_; clear hb hbox hg; have hnb13 := NB202_200.out; have hnc13 := NB200_202.out; have hcz14_0 : w12.cell? ⟨gb202, 0, none⟩ = some (.int .i64 0) := (blk_cell BK202.out 0).trans rfl; have hcz14_1 : w12.cell? ⟨gb202, 1, none⟩ = some (.int .i64 0) := (blk_cell BK202.out 1).trans rfl; have hfz14_0 := blk_frozen BK202.out 0; have hfz14_1 := blk_frozen BK202.out 1))
                  repeat (go_quiet (first | ((with_reducible refine gate_dst (N := 4) rfl ?_); (try (refine gate_guard (by rfl) ?_; dsimp only)); refine box_event ?hg (N := 4) ?hd (cs := #[.int .i64 0, .int .i64 0]) (t := 78) ?hr ?_; (case hd => rfl); (case hg => rfl); (case hr => first | (go_simp; done) | (go_simp; rfl)); intro gb202 hg w12 hbox hb; have n0_ := Aside0.mk (blk_below (g := gb200) (o := .cells #[.bool a0_0, .slice (some ad201) l0_1.length c0_1] 56 (0, 0)) (by (with_reducible repeat (first | refine blk_drewN ?_ _ | refine blk_drew ?_ | refine blk_alloc ?_ _)); exact BK200.out) hb); have n1_ := Aside0.mk (below_step (by repeat (first | (with_reducible first | exact HB.out | apply below_alloc | apply pw_below_drewN | apply below_drew1 | refine below_set ?_ GE200.out) | exact HB.out)) hb); have n2_ := Aside0.mk (hbox); have n3_ := Aside0.mk ((by rw [hg]; exact (below_size (by repeat (first | (with_reducible first | exact HB.out | apply below_alloc | apply pw_below_drewN | apply below_drew1 | refine below_set ?_ GE200.out) | exact HB.out))) : w.heap.size ≤ gb202)); have n4_ := Aside0.mk ((by rw [hg]; exact (below_size (by repeat (first | (with_reducible first | exact HB.out | apply below_alloc | apply pw_below_drewN | apply below_drew1 | refine below_set ?_ GE200.out) | exact HB.out))) : w.heap.size ≤ gb202)); have n5_ := Aside0.mk ((by rw [hg]; exact Nat.ne_of_lt (blk_lt (g := gb200) (o := .cells #[.bool a0_0, .slice (some ad201) l0_1.length c0_1] 56 (0, 0)) (by (with_reducible repeat (first | refine blk_drewN ?_ _ | refine blk_drew ?_ | refine blk_alloc ?_ _)); exact BK200.out)) : gb200 ≠ gb202)); have n6_ := Aside0.mk ((by rw [hg]; exact Nat.ne_of_gt (blk_lt (g := gb200) (o := .cells #[.bool a0_0, .slice (some ad201) l0_1.length c0_1] 56 (0, 0)) (by (with_reducible repeat (first | refine blk_drewN ?_ _ | refine blk_drew ?_ | refine blk_alloc ?_ _)); exact BK200.out)) : gb202 ≠ gb200)); clear BK200; clear HB; have BK200 := n0_; have HB := n1_; have BK202 := n2_; have GW202 := n3_; have GE202 := n4_; have NB200_202 := n5_; have NB202_200 := n6_; clear n0_ n1_ n2_ n3_ n4_ n5_ n6_; clear hb hbox hg; have hnb13 := NB202_200.out; have hnc13 := NB200_202.out; have hcz14_0 : w12.cell? ⟨gb202, 0, none⟩ = some (.int .i64 0) := (blk_cell BK202.out 0).trans rfl; have hcz14_1 : w12.cell? ⟨gb202, 1, none⟩ = some (.int .i64 0) := (blk_cell BK202.out 1).trans rfl; have hfz14_0 := blk_frozen BK202.out 0; have hfz14_1 := blk_frozen BK202.out 1)); try go_wp2_with (first | ((with_reducible refine gate_dst (N := 4) rfl ?_); (try (refine gate_guard (by rfl) ?_; dsimp only)); refine box_event ?hg (N := 4) ?hd (cs := #[.int .i64 0, .int .i64 0]) (t := 78) ?hr ?_; (case hd => rfl); (case hg => rfl); (case hr => first | (go_simp; done) | (go_simp; rfl)); intro gb202 hg w12 hbox hb; have n0_ := Aside0.mk (blk_below (g := gb200) (o := .cells #[.bool a0_0, .slice (some ad201) l0_1.length c0_1] 56 (0, 0)) (by (with_reducible repeat (first | refine blk_drewN ?_ _ | refine blk_drew ?_ | refine blk_alloc ?_ _)); exact BK200.out) hb); have n1_ := Aside0.mk (below_step (by repeat (first | (with_reducible first | exact HB.out | apply below_alloc | apply pw_below_drewN | apply below_drew1 | refine below_set ?_ GE200.out) | exact HB.out)) hb); have n2_ := Aside0.mk (hbox); have n3_ := Aside0.mk ((by rw [hg]; exact (below_size (by repeat (first | (with_reducible first | exact HB.out | apply below_alloc | apply pw_below_drewN | apply below_drew1 | refine below_set ?_ GE200.out) | exact HB.out))) : w.heap.size ≤ gb202)); have n4_ := Aside0.mk ((by rw [hg]; exact (below_size (by repeat (first | (with_reducible first | exact HB.out | apply below_alloc | apply pw_below_drewN | apply below_drew1 | refine below_set ?_ GE200.out) | exact HB.out))) : w.heap.size ≤ gb202)); have n5_ := Aside0.mk ((by rw [hg]; exact Nat.ne_of_lt (blk_lt (g := gb200) (o := .cells #[.bool a0_0, .slice (some ad201) l0_1.length c0_1] 56 (0, 0)) (by (with_reducible repeat (first | refine blk_drewN ?_ _ | refine blk_drew ?_ | refine blk_alloc ?_ _)); exact BK200.out)) : gb200 ≠ gb202)); have n6_ := Aside0.mk ((by rw [hg]; exact Nat.ne_of_gt (blk_lt (g := gb200) (o := .cells #[.bool a0_0, .slice (some ad201) l0_1.length c0_1] 56 (0, 0)) (by (with_reducible repeat (first | refine blk_drewN ?_ _ | refine blk_drew ?_ | refine blk_alloc ?_ _)); exact BK200.out)) : gb202 ≠ gb200)); clear BK200; clear HB; have BK200 := n0_; have HB := n1_; have BK202 := n2_; have GW202 := n3_; have GE202 := n4_; have NB200_202 := n5_; have NB202_200 := n6_; clear n0_ n1_ n2_ n3_ n4_ n5_ n6_; clear hb hbox hg; have hnb13 := NB202_200.out; have hnc13 := NB200_202.out; have hcz14_0 : w12.cell? ⟨gb202, 0, none⟩ = some (.int .i64 0) := (blk_cell BK202.out 0).trans rfl; have hcz14_1 : w12.cell? ⟨gb202, 1, none⟩ = some (.int .i64 0) := (blk_cell BK202.out 1).trans rfl; have hfz14_0 := blk_frozen BK202.out 0; have hfz14_1 := blk_frozen BK202.out 1)))
                  go_ret
                  exact ⟨by first | rfl | (simp [errW_none, errW_some] <;> rfl) | (simp [*, errW_none, errW_some] <;> rfl), by repeat (first | (with_reducible first | exact HB.out | apply below_alloc | apply pw_below_drewN | apply below_drew1 | refine below_set ?_ GE200.out | refine below_set ?_ GE202.out) | exact HB.out)⟩
                · rw [if_neg c10] at H
                  have c10b0 : decide (((rd_T78 l0_1 x3_2).f0) < 0) = false := decide_eq_false c10
                  clear c10
                  by_cases c15 : ((rd_T78 l0_1 x3_2).f0) > 2147483647
                  · rw [if_pos c15] at H
                    have c15b0 : decide (2147483647 < ((rd_T78 l0_1 x3_2).f0)) = true := decide_eq_true c15
                    clear c15
                    obtain rfl := Option.some.inj H
                    have hcz16_0 : wr.cell? ⟨gb200, 0, none⟩ = some (.bool a0_0) := (blk_cell BK200.out 0).trans rfl
                    have hcz16_1 : wr.cell? ⟨gb200, 1, none⟩ = some (.slice A0_1 l0_1.length c0_1) := (blk_cell BK200.out 1).trans rfl
                    have hfz16_0 := blk_frozen BK200.out 0
                    have hfz16_1 := blk_frozen BK200.out 1
                    have p201 : 0 ≤ (x3_2 : Int) := of_decide_eq_true (by first | (with_reducible assumption) | assumption)
                    have q201 : x3_2 < (l0_1.length : Int) := of_decide_eq_true (by first | (with_reducible assumption) | assumption)
                    obtain ⟨ad201, e201, hx201_0, hx201_1⟩ := at_T78 HR0_1.out x3_2 p201 q201
                    cases e201
                    replace hx201_0 := (HB.out.cell (World.block_lt_of_cell? w _ hx201_0)).trans hx201_0
                    replace hx201_1 := (HB.out.cell (World.block_lt_of_cell? w _ hx201_1)).trans hx201_1
                    replace p201 := eq_true p201
                    replace q201 := eq_true q201
                    go_wp2_with (first | ((with_reducible refine gate_dst (N := 4) rfl ?_); (try (refine gate_guard (by rfl) ?_; dsimp only)); refine box_event ?hg (N := 4) ?hd (cs := #[.int .i64 0, .int .i64 0]) (t := 78) ?hr ?_; (case hd => rfl); (case hg => rfl); (case hr => first | (go_simp; done) | (go_simp; rfl)); intro gb202 hg w17 hbox hb; have n0_ := Aside0.mk (blk_below (g := gb200) (o := .cells #[.bool a0_0, .slice (some ad201) l0_1.length c0_1] 56 (0, 0)) (by (with_reducible repeat (first | refine blk_drewN ?_ _ | refine blk_drew ?_ | refine blk_alloc ?_ _)); exact BK200.out) hb); have n1_ := Aside0.mk (below_step (by repeat (first | (with_reducible first | exact HB.out | apply below_alloc | apply pw_below_drewN | apply below_drew1 | refine below_set ?_ GE200.out) | exact HB.out)) hb); have n2_ := Aside0.mk (hbox); have n3_ := Aside0.mk ((by rw [hg]; exact (below_size (by repeat (first | (with_reducible first | exact HB.out | apply below_alloc | apply pw_below_drewN | apply below_drew1 | refine below_set ?_ GE200.out) | exact HB.out))) : w.heap.size ≤ gb202)); have n4_ := Aside0.mk ((by rw [hg]; exact (below_size (by repeat (first | (with_reducible first | exact HB.out | apply below_alloc | apply pw_below_drewN | apply below_drew1 | refine below_set ?_ GE200.out) | exact HB.out))) : w.heap.size ≤ gb202)); have n5_ := Aside0.mk ((by rw [hg]; exact Nat.ne_of_lt (blk_lt (g := gb200) (o := .cells #[.bool a0_0, .slice (some ad201) l0_1.length c0_1] 56 (0, 0)) (by (with_reducible repeat (first | refine blk_drewN ?_ _ | refine blk_drew ?_ | refine blk_alloc ?_ _)); exact BK200.out)) : gb200 ≠ gb202)); have n6_ := Aside0.mk ((by rw [hg]; exact Nat.ne_of_gt (blk_lt (g := gb200) (o := .cells #[.bool a0_0, .slice (some ad201) l0_1.length c0_1] 56 (0, 0)) (by (with_reducible repeat (first | refine blk_drewN ?_ _ | refine blk_drew ?_ | refine blk_alloc ?_ _)); exact BK200.out)) : gb202 ≠ gb200)); clear BK200; clear HB; have BK200 := n0_; have HB := n1_; have BK202 := n2_; have GW202 := n3_; have GE202 := n4_; have NB200_202 := n5_; have NB202_200 := n6_; clear n0_ n1_ n2_ n3_ n4_ n5_ n6_; clear hb hbox hg; have hnb18 := NB202_200.out; have hnc18 := NB200_202.out; have hcz19_0 : w17.cell? ⟨gb202, 0, none⟩ = some (.int .i64 0) := (blk_cell BK202.out 0).trans rfl; have hcz19_1 : w17.cell? ⟨gb202, 1, none⟩ = some (.int .i64 0) := (blk_cell BK202.out 1).trans rfl; have hfz19_0 := blk_frozen BK202.out 0; have hfz19_1 := blk_frozen BK202.out 1))
                    repeat (go_quiet (first | ((with_reducible refine gate_dst (N := 4) rfl ?_); (try (refine gate_guard (by rfl) ?_; dsimp only)); refine box_event ?hg (N := 4) ?hd (cs := #[.int .i64 0, .int .i64 0]) (t := 78) ?hr ?_; (case hd => rfl); (case hg => rfl); (case hr => first | (go_simp; done) | (go_simp; rfl)); intro gb202 hg w17 hbox hb; have n0_ := Aside0.mk (blk_below (g := gb200) (o := .cells #[.bool a0_0, .slice (some ad201) l0_1.length c0_1] 56 (0, 0)) (by (with_reducible repeat (first | refine blk_drewN ?_ _ | refine blk_drew ?_ | refine blk_alloc ?_ _)); exact BK200.out) hb); have n1_ := Aside0.mk (below_step (by repeat (first | (with_reducible first | exact HB.out | apply below_alloc | apply pw_below_drewN | apply below_drew1 | refine below_set ?_ GE200.out) | exact HB.out)) hb); have n2_ := Aside0.mk (hbox); have n3_ := Aside0.mk ((by rw [hg]; exact (below_size (by repeat (first | (with_reducible first | exact HB.out | apply below_alloc | apply pw_below_drewN | apply below_drew1 | refine below_set ?_ GE200.out) | exact HB.out))) : w.heap.size ≤ gb202)); have n4_ := Aside0.mk ((by rw [hg]; exact (below_size (by repeat (first | (with_reducible first | exact HB.out | apply below_alloc | apply pw_below_drewN | apply below_drew1 | refine below_set ?_ GE200.out) | exact HB.out))) : w.heap.size ≤ gb202)); have n5_ := Aside0.mk ((by rw [hg]; exact Nat.ne_of_lt (blk_lt (g := gb200) (o := .cells #[.bool a0_0, .slice (some ad201) l0_1.length c0_1] 56 (0, 0)) (by (with_reducible repeat (first | refine blk_drewN ?_ _ | refine blk_drew ?_ | refine blk_alloc ?_ _)); exact BK200.out)) : gb200 ≠ gb202)); have n6_ := Aside0.mk ((by rw [hg]; exact Nat.ne_of_gt (blk_lt (g := gb200) (o := .cells #[.bool a0_0, .slice (some ad201) l0_1.length c0_1] 56 (0, 0)) (by (with_reducible repeat (first | refine blk_drewN ?_ _ | refine blk_drew ?_ | refine blk_alloc ?_ _)); exact BK200.out)) : gb202 ≠ gb200)); clear BK200; clear HB; have BK200 := n0_; have HB := n1_; have BK202 := n2_; have GW202 := n3_; have GE202 := n4_; have NB200_202 := n5_; have NB202_200 := n6_; clear n0_ n1_ n2_ n3_ n4_ n5_ n6_; clear hb hbox hg; have hnb18 := NB202_200.out; have hnc18 := NB200_202.out; have hcz19_0 : w17.cell? ⟨gb202, 0, none⟩ = some (.int .i64 0) := (blk_cell BK202.out 0).trans rfl; have hcz19_1 : w17.cell? ⟨gb202, 1, none⟩ = some (.int .i64 0) := (blk_cell BK202.out 1).trans rfl; have hfz19_0 := blk_frozen BK202.out 0; have hfz19_1 := blk_frozen BK202.out 1)); try go_wp2_with (first | ((with_reducible refine gate_dst (N := 4) rfl ?_); (try (refine gate_guard (by rfl) ?_; dsimp only)); refine box_event ?hg (N := 4) ?hd (cs := #[.int .i64 0, .int .i64 0]) (t := 78) ?hr ?_; (case hd => rfl); (case hg => rfl); (case hr => first | (go_simp; done) | (go_simp; rfl)); intro gb202 hg w17 hbox hb; have n0_ := Aside0.mk (blk_below (g := gb200) (o := .cells #[.bool a0_0, .slice (some ad201) l0_1.length c0_1] 56 (0, 0)) (by (with_reducible repeat (first | refine blk_drewN ?_ _ | refine blk_drew ?_ | refine blk_alloc ?_ _)); exact BK200.out) hb); have n1_ := Aside0.mk (below_step (by repeat (first | (with_reducible first | exact HB.out | apply below_alloc | apply pw_below_drewN | apply below_drew1 | refine below_set ?_ GE200.out) | exact HB.out)) hb); have n2_ := Aside0.mk (hbox); have n3_ := Aside0.mk ((by rw [hg]; exact (below_size (by repeat (first | (with_reducible first | exact HB.out | apply below_alloc | apply pw_below_drewN | apply below_drew1 | refine below_set ?_ GE200.out) | exact HB.out))) : w.heap.size ≤ gb202)); have n4_ := Aside0.mk ((by rw [hg]; exact (below_size (by repeat (first | (with_reducible first | exact HB.out | apply below_alloc | apply pw_below_drewN | apply below_drew1 | refine below_set ?_ GE200.out) | exact HB.out))) : w.heap.size ≤ gb202)); have n5_ := Aside0.mk ((by rw [hg]; exact Nat.ne_of_lt (blk_lt (g := gb200) (o := .cells #[.bool a0_0, .slice (some ad201) l0_1.length c0_1] 56 (0, 0)) (by (with_reducible repeat (first | refine blk_drewN ?_ _ | refine blk_drew ?_ | refine blk_alloc ?_ _)); exact BK200.out)) : gb200 ≠ gb202)); have n6_ := Aside0.mk ((by rw [hg]; exact Nat.ne_of_gt (blk_lt (g := gb200) (o := .cells #[.bool a0_0, .slice (some ad201) l0_1.length c0_1] 56 (0, 0)) (by (with_reducible repeat (first | refine blk_drewN ?_ _ | refine blk_drew ?_ | refine blk_alloc ?_ _)); exact BK200.out)) : gb202 ≠ gb200)); clear BK200; clear HB; have BK200 := n0_; have HB := n1_; have BK202 := n2_; have GW202 := n3_; have GE202 := n4_; have NB200_202 := n5_; have NB202_200 := n6_; clear n0_ n1_ n2_ n3_ n4_ n5_ n6_; clear hb hbox hg; have hnb18 := NB202_200.out; have hnc18 := NB200_202.out; have hcz19_0 : w17.cell? ⟨gb202, 0, none⟩ = some (.int .i64 0) := (blk_cell BK202.out 0).trans rfl; have hcz19_1 : w17.cell? ⟨gb202, 1, none⟩ = some (.int .i64 0) := (blk_cell BK202.out 1).trans rfl; have hfz19_0 := blk_frozen BK202.out 0; have hfz19_1 := blk_frozen BK202.out 1)))
                    go_ret
                    exact ⟨by first | rfl | (simp [errW_none, errW_some] <;> rfl) | (simp [*, errW_none, errW_some] <;> rfl), by repeat (first | (with_reducible first | exact HB.out | apply below_alloc | apply pw_below_drewN | apply below_drew1 | refine below_set ?_ GE200.out | refine below_set ?_ GE202.out) | exact HB.out)⟩
                  · rw [if_neg c15] at H
                    have c15b0 : decide (2147483647 < ((rd_T78 l0_1 x3_2).f0)) = false := decide_eq_false c15
                    clear c15
                    by_cases c20 : ((rd_T78 l0_1 x3_2).f1) < 0
                    · rw [if_pos c20] at H
                      have c20b0 : decide (((rd_T78 l0_1 x3_2).f1) < 0) = true := decide_eq_true c20
                      clear c20
                      obtain rfl := Option.some.inj H
                      have hcz21_0 : wr.cell? ⟨gb200, 0, none⟩ = some (.bool a0_0) := (blk_cell BK200.out 0).trans rfl
                      have hcz21_1 : wr.cell? ⟨gb200, 1, none⟩ = some (.slice A0_1 l0_1.length c0_1) := (blk_cell BK200.out 1).trans rfl
                      have hfz21_0 := blk_frozen BK200.out 0
                      have hfz21_1 := blk_frozen BK200.out 1
                      have p201 : 0 ≤ (x3_2 : Int) := of_decide_eq_true (by first | (with_reducible assumption) | assumption)
                      have q201 : x3_2 < (l0_1.length : Int) := of_decide_eq_true (by first | (with_reducible assumption) | assumption)
                      obtain ⟨ad201, e201, hx201_0, hx201_1⟩ := at_T78 HR0_1.out x3_2 p201 q201
                      cases e201
                      replace hx201_0 := (HB.out.cell (World.block_lt_of_cell? w _ hx201_0)).trans hx201_0
                      replace hx201_1 := (HB.out.cell (World.block_lt_of_cell? w _ hx201_1)).trans hx201_1
                      replace p201 := eq_true p201
                      replace q201 := eq_true q201
                      go_wp2_with (first | ((with_reducible refine gate_dst (N := 4) rfl ?_); (try (refine gate_guard (by rfl) ?_; dsimp only)); refine box_event ?hg (N := 4) ?hd (cs := #[.int .i64 0, .int .i64 0]) (t := 78) ?hr ?_; (case hd => rfl); (case hg => rfl); (case hr => first | (go_simp; done) | (go_simp; rfl)); intro gb202 hg w22 hbox hb; have n0_ := Aside0.mk (blk_below (g := gb200) (o := .cells #[.bool a0_0, .slice (some ad201) l0_1.length c0_1] 56 (0, 0)) (by (with_reducible repeat (first | refine blk_drewN ?_ _ | refine blk_drew ?_ | refine blk_alloc ?_ _)); exact BK200.out) hb); have n1_ := Aside0.mk (below_step (by repeat (first | (with_reducible first | exact HB.out | apply below_alloc | apply pw_below_drewN | apply below_drew1 | refine below_set ?_ GE200.out) | exact HB.out)) hb); have n2_ := Aside0.mk (hbox); have n3_ := Aside0.mk ((by rw [hg]; exact (below_size (by repeat (first | (with_reducible first | exact HB.out | apply below_alloc | apply pw_below_drewN | apply below_drew1 | refine below_set ?_ GE200.out) | exact HB.out))) : w.heap.size ≤ gb202)); have n4_ := Aside0.mk ((by rw [hg]; exact (below_size (by repeat (first | (with_reducible first | exact HB.out | apply below_alloc | apply pw_below_drewN | apply below_drew1 | refine below_set ?_ GE200.out) | exact HB.out))) : w.heap.size ≤ gb202)); have n5_ := Aside0.mk ((by rw [hg]; exact Nat.ne_of_lt (blk_lt (g := gb200) (o := .cells #[.bool a0_0, .slice (some ad201) l0_1.length c0_1] 56 (0, 0)) (by (with_reducible repeat (first | refine blk_drewN ?_ _ | refine blk_drew ?_ | refine blk_alloc ?_ _)); exact BK200.out)) : gb200 ≠ gb202)); have n6_ := Aside0.mk ((by rw [hg]; exact Nat.ne_of_gt (blk_lt (g := gb200) (o := .cells #[.bool a0_0, .slice (some ad201) l0_1.length c0_1] 56 (0, 0)) (by (with_reducible repeat (first | refine blk_drewN ?_ _ | refine blk_drew ?_ | refine blk_alloc ?_ _)); exact BK200.out)) : gb202 ≠ gb200)); clear BK200; clear HB; have BK200 := n0_; have HB := n1_; have BK202 := n2_; have GW202 := n3_; have GE202 := n4_; have NB200_202 := n5_; have NB202_200 := n6_; clear n0_ n1_ n2_ n3_ n4_ n5_ n6_; clear hb hbox hg; have hnb23 := NB202_200.out; have hnc23 := NB200_202.out; have hcz24_0 : w22.cell? ⟨gb202, 0, none⟩ = some (.int .i64 0) := (blk_cell BK202.out 0).trans rfl; have hcz24_1 : w22.cell? ⟨gb202, 1, none⟩ = some (.int .i64 0) := (blk_cell BK202.out 1).trans rfl; have hfz24_0 := blk_frozen BK202.out 0; have hfz24_1 := blk_frozen BK202.out 1))
                      repeat (go_quiet (first | ((with_reducible refine gate_dst (N := 4) rfl ?_); (try (refine gate_guard (by rfl) ?_; dsimp only)); refine box_event ?hg (N := 4) ?hd (cs := #[.int .i64 0, .int .i64 0]) (t := 78) ?hr ?_; (case hd => rfl); (case hg => rfl); (case hr => first | (go_simp; done) | (go_simp; rfl)); intro gb202 hg w22 hbox hb; have n0_ := Aside0.mk (blk_below (g := gb200) (o := .cells #[.bool a0_0, .slice (some ad201) l0_1.length c0_1] 56 (0, 0)) (by (with_reducible repeat (first | refine blk_drewN ?_ _ | refine blk_drew ?_ | refine blk_alloc ?_ _)); exact BK200.out) hb); have n1_ := Aside0.mk (below_step (by repeat (first | (with_reducible first | exact HB.out | apply below_alloc | apply pw_below_drewN | apply below_drew1 | refine below_set ?_ GE200.out) | exact HB.out)) hb); have n2_ := Aside0.mk (hbox); have n3_ := Aside0.mk ((by rw [hg]; exact (below_size (by repeat (first | (with_reducible first | exact HB.out | apply below_alloc | apply pw_below_drewN | apply below_drew1 | refine below_set ?_ GE200.out) | exact HB.out))) : w.heap.size ≤ gb202)); have n4_ := Aside0.mk ((by rw [hg]; exact (below_size (by repeat (first | (with_reducible first | exact HB.out | apply below_alloc | apply pw_below_drewN | apply below_drew1 | refine below_set ?_ GE200.out) | exact HB.out))) : w.heap.size ≤ gb202)); have n5_ := Aside0.mk ((by rw [hg]; exact Nat.ne_of_lt (blk_lt (g := gb200) (o := .cells #[.bool a0_0, .slice (some ad201) l0_1.length c0_1] 56 (0, 0)) (by (with_reducible repeat (first | refine blk_drewN ?_ _ | refine blk_drew ?_ | refine blk_alloc ?_ _)); exact BK200.out)) : gb200 ≠ gb202)); have n6_ := Aside0.mk ((by rw [hg]; exact Nat.ne_of_gt (blk_lt (g := gb200) (o := .cells #[.bool a0_0, .slice (some ad201) l0_1.length c0_1] 56 (0, 0)) (by (with_reducible repeat (first | refine blk_drewN ?_ _ | refine blk_drew ?_ | refine blk_alloc ?_ _)); exact BK200.out)) : gb202 ≠ gb200)); clear BK200; clear HB; have BK200 := n0_; have HB := n1_; have BK202 := n2_; have GW202 := n3_; have GE202 := n4_; have NB200_202 := n5_; have NB202_200 := n6_; clear n0_ n1_ n2_ n3_ n4_ n5_ n6_; clear hb hbox hg; have hnb23 := NB202_200.out; have hnc23 := NB200_202.out; have hcz24_0 : w22.cell? ⟨gb202, 0, none⟩ = some (.int .i64 0) := (blk_cell BK202.out 0).trans rfl; have hcz24_1 : w22.cell? ⟨gb202, 1, none⟩ = some (.int .i64 0) := (blk_cell BK202.out 1).trans rfl; have hfz24_0 := blk_frozen BK202.out 0; have hfz24_1 := blk_frozen BK202.out 1)); try go_wp2_with (first | ((with_reducible refine gate_dst (N := 4) rfl ?_); (try (refine gate_guard (by rfl) ?_; dsimp only)); refine box_event ?hg (N := 4) ?hd (cs := #[.int .i64 0, .int .i64 0]) (t := 78) ?hr ?_; (case hd => rfl); (case hg => rfl); (case hr => first | (go_simp; done) | (go_simp; rfl)); intro gb202 hg w22 hbox hb; have n0_ := Aside0.mk (blk_below (g := gb200) (o := .cells #[.bool a0_0, .slice (some ad201) l0_1.length c0_1] 56 (0, 0)) (by (with_reducible repeat (first | refine blk_drewN ?_ _ | refine blk_drew ?_ | refine blk_alloc ?_ _)); exact BK200.out) hb); have n1_ := Aside0.mk (below_step (by repeat (first | (with_reducible first | exact HB.out | apply below_alloc | apply pw_below_drewN | apply below_drew1 | refine below_set ?_ GE200.out) | exact HB.out)) hb); have n2_ := Aside0.mk (hbox); have n3_ := Aside0.mk ((by rw [hg]; exact (below_size (by repeat (first | (with_reducible first | exact HB.out | apply below_alloc | apply pw_below_drewN | apply below_drew1 | refine below_set ?_ GE200.out) | exact HB.out))) : w.heap.size ≤ gb202)); have n4_ := Aside0.mk ((by rw [hg]; exact (below_size (by repeat (first | (with_reducible first | exact HB.out | apply below_alloc | apply pw_below_drewN | apply below_drew1 | refine below_set ?_ GE200.out) | exact HB.out))) : w.heap.size ≤ gb202)); have n5_ := Aside0.mk ((by rw [hg]; exact Nat.ne_of_lt (blk_lt (g := gb200) (o := .cells #[.bool a0_0, .slice (some ad201) l0_1.length c0_1] 56 (0, 0)) (by (with_reducible repeat (first | refine blk_drewN ?_ _ | refine blk_drew ?_ | refine blk_alloc ?_ _)); exact BK200.out)) : gb200 ≠ gb202)); have n6_ := Aside0.mk ((by rw [hg]; exact Nat.ne_of_gt (blk_lt (g := gb200) (o := .cells #[.bool a0_0, .slice (some ad201) l0_1.length c0_1] 56 (0, 0)) (by (with_reducible repeat (first | refine blk_drewN ?_ _ | refine blk_drew ?_ | refine blk_alloc ?_ _)); exact BK200.out)) : gb202 ≠ gb200)); clear BK200; clear HB; have BK200 := n0_; have HB := n1_; have BK202 := n2_; have GW202 := n3_; have GE202 := n4_; have NB200_202 := n5_; have NB202_200 := n6_; clear n0_ n1_ n2_ n3_ n4_ n5_ n6_; clear hb hbox hg; have hnb23 := NB202_200.out; have hnc23 := NB200_202.out; have hcz24_0 : w22.cell? ⟨gb202, 0, none⟩ = some (.int .i64 0) := (blk_cell BK202.out 0).trans rfl; have hcz24_1 : w22.cell? ⟨gb202, 1, none⟩ = some (.int .i64 0) := (blk_cell BK202.out 1).trans rfl; have hfz24_0 := blk_frozen BK202.out 0; have hfz24_1 := blk_frozen BK202.out 1)))
                      go_ret
                      exact ⟨by first | rfl | (simp [errW_none, errW_some] <;> rfl) | (simp [*, errW_none, errW_some] <;> rfl), by repeat (first | (with_reducible first | exact HB.out | apply below_alloc | apply pw_below_drewN | apply below_drew1 | refine below_set ?_ GE200.out | refine below_set ?_ GE202.out) | exact HB.out)⟩
                    · rw [if_neg c20] at H
                      have c20b0 : decide (((rd_T78 l0_1 x3_2).f1) < 0) = false := decide_eq_false c20
                      clear c20
                      by_cases c25 : ((rd_T78 l0_1 x3_2).f1) > 2147483647
                      · rw [if_pos c25] at H
                        have c25b0 : decide (2147483647 < ((rd_T78 l0_1 x3_2).f1)) = true := decide_eq_true c25
                        clear c25
                        obtain rfl := Option.some.inj H
                        have hcz26_0 : wr.cell? ⟨gb200, 0, none⟩ = some (.bool a0_0) := (blk_cell BK200.out 0).trans rfl
                        have hcz26_1 : wr.cell? ⟨gb200, 1, none⟩ = some (.slice A0_1 l0_1.length c0_1) := (blk_cell BK200.out 1).trans rfl
                        have hfz26_0 := blk_frozen BK200.out 0
                        have hfz26_1 := blk_frozen BK200.out 1
                        have p201 : 0 ≤ (x3_2 : Int) := of_decide_eq_true (by first | (with_reducible assumption) | assumption)
                        have q201 : x3_2 < (l0_1.length : Int) := of_decide_eq_true (by first | (with_reducible assumption) | assumption)
                        obtain ⟨ad201, e201, hx201_0, hx201_1⟩ := at_T78 HR0_1.out x3_2 p201 q201
                        cases e201
                        replace hx201_0 := (HB.out.cell (World.block_lt_of_cell? w _ hx201_0)).trans hx201_0
                        replace hx201_1 := (HB.out.cell (World.block_lt_of_cell? w _ hx201_1)).trans hx201_1
                        replace p201 := eq_true p201
                        replace q201 := eq_true q201
                        go_wp2_with (first | ((with_reducible refine gate_dst (N := 4) rfl ?_); (try (refine gate_guard (by rfl) ?_; dsimp only)); refine box_event ?hg (N := 4) ?hd (cs := #[.int .i64 0, .int .i64 0]) (t := 78) ?hr ?_; (case hd => rfl); (case hg => rfl); (case hr => first | (go_simp; done) | (go_simp; rfl)); intro gb202 hg w27 hbox hb; have n0_ := Aside0.mk (blk_below (g := gb200) (o := .cells #[.bool a0_0, .slice (some ad201) l0_1.length c0_1] 56 (0, 0)) (by (with_reducible repeat (first | refine blk_drewN ?_ _ | refine blk_drew ?_ | refine blk_alloc ?_ _)); exact BK200.out) hb); have n1_ := Aside0.mk (below_step (by repeat (first | (with_reducible first | exact HB.out | apply below_alloc | apply pw_below_drewN | apply below_drew1 | refine below_set ?_ GE200.out) | exact HB.out)) hb); have n2_ := Aside0.mk (hbox); have n3_ := Aside0.mk ((by rw [hg]; exact (below_size (by repeat (first | (with_reducible first | exact HB.out | apply below_alloc | apply pw_below_drewN | apply below_drew1 | refine below_set ?_ GE200.out) | exact HB.out))) : w.heap.size ≤ gb202)); have n4_ := Aside0.mk ((by rw [hg]; exact (below_size (by repeat (first | (with_reducible first | exact HB.out | apply below_alloc | apply pw_below_drewN | apply below_drew1 | refine below_set ?_ GE200.out) | exact HB.out))) : w.heap.size ≤ gb202)); have n5_ := Aside0.mk ((by rw [hg]; exact Nat.ne_of_lt (blk_lt (g := gb200) (o := .cells #[.bool a0_0, .slice (some ad201) l0_1.length c0_1] 56 (0, 0)) (by (with_reducible repeat (first | refine blk_drewN ?_ _ | refine blk_drew ?_ | refine blk_alloc ?_ _)); exact BK200.out)) : gb200 ≠ gb202)); have n6_ := Aside0.mk ((by rw [hg]; exact Nat.ne_of_gt (blk_lt (g := gb200) (o := .cells #[.bool a0_0, .slice (some ad201) l0_1.length c0_1] 56 (0, 0)) (by (with_reducible repeat (first | refine blk_drewN ?_ _ | refine blk_drew ?_ | refine blk_alloc ?_ _)); exact BK200.out)) : gb202 ≠ gb200)); clear BK200; clear HB; have BK200 := n0_; have HB := n1_; have BK202 := n2_; have GW202 := n3_; have GE202 := n4_; have NB200_202 := n5_; have NB202_200 := n6_; clear n0_ n1_ n2_ n3_ n4_ n5_ n6_; clear hb hbox hg; have hnb28 := NB202_200.out; have hnc28 := NB200_202.out; have hcz29_0 : w27.cell? ⟨gb202, 0, none⟩ = some (.int .i64 0) := (blk_cell BK202.out 0).trans rfl; have hcz29_1 : w27.cell? ⟨gb202, 1, none⟩ = some (.int .i64 0) := (blk_cell BK202.out 1).trans rfl; have hfz29_0 := blk_frozen BK202.out 0; have hfz29_1 := blk_frozen BK202.out 1))
                        repeat (go_quiet (first | ((with_reducible refine gate_dst (N := 4) rfl ?_); (try (refine gate_guard (by rfl) ?_; dsimp only)); refine box_event ?hg (N := 4) ?hd (cs := #[.int .i64 0, .int .i64 0]) (t := 78) ?hr ?_; (case hd => rfl); (case hg => rfl); (case hr => first | (go_simp; done) | (go_simp; rfl)); intro gb202 hg w27 hbox hb; have n0_ := Aside0.mk (blk_below (g := gb200) (o := .cells #[.bool a0_0, .slice (some ad201) l0_1.length c0_1] 56 (0, 0)) (by (with_reducible repeat (first | refine blk_drewN ?_ _ | refine blk_drew ?_ | refine blk_alloc ?_ _)); exact BK200.out) hb); have n1_ := Aside0.mk (below_step (by repeat (first | (with_reducible first | exact HB.out | apply below_alloc | apply pw_below_drewN | apply below_drew1 | refine below_set ?_ GE200.out) | exact HB.out)) hb); have n2_ := Aside0.mk (hbox); have n3_ := Aside0.mk ((by rw [hg]; exact (below_size (by repeat (first | (with_reducible first | exact HB.out | apply below_alloc | apply pw_below_drewN | apply below_drew1 | refine below_set ?_ GE200.out) | exact HB.out))) : w.heap.size ≤ gb202)); have n4_ := Aside0.mk ((by rw [hg]; exact (below_size (by repeat (first | (with_reducible first | exact HB.out | apply below_alloc | apply pw_below_drewN | apply below_drew1 | refine below_set ?_ GE200.out) | exact HB.out))) : w.heap.size ≤ gb202)); have n5_ := Aside0.mk ((by rw [hg]; exact Nat.ne_of_lt (blk_lt (g := gb200) (o := .cells #[.bool a0_0, .slice (some ad201) l0_1.length c0_1] 56 (0, 0)) (by (with_reducible repeat (first | refine blk_drewN ?_ _ | refine blk_drew ?_ | refine blk_alloc ?_ _)); exact BK200.out)) : gb200 ≠ gb202)); have n6_ := Aside0.mk ((by rw [hg]; exact Nat.ne_of_gt (blk_lt (g := gb200) (o := .cells #[.bool a0_0, .slice (some ad201) l0_1.length c0_1] 56 (0, 0)) (by (with_reducible repeat (first | refine blk_drewN ?_ _ | refine blk_drew ?_ | refine blk_alloc ?_ _)); exact BK200.out)) : gb202 ≠ gb200)); clear BK200; clear HB; have BK200 := n0_; have HB := n1_; have BK202 := n2_; have GW202 := n3_; have GE202 := n4_; have NB200_202 := n5_; have NB202_200 := n6_; clear n0_ n1_ n2_ n3_ n4_ n5_ n6_; clear hb hbox hg; have hnb28 := NB202_200.out; have hnc28 := NB200_202.out; have hcz29_0 : w27.cell? ⟨gb202, 0, none⟩ = some (.int .i64 0) := (blk_cell BK202.out 0).trans rfl; have hcz29_1 : w27.cell? ⟨gb202, 1, none⟩ = some (.int .i64 0) := (blk_cell BK202.out 1).trans rfl; have hfz29_0 := blk_frozen BK202.out 0; have hfz29_1 := blk_frozen BK202.out 1)); try go_wp2_with (first | ((with_reducible refine gate_dst (N := 4) rfl ?_); (try (refine gate_guard (by rfl) ?_; dsimp only)); refine box_event ?hg (N := 4) ?hd (cs := #[.int .i64 0, .int .i64 0]) (t := 78) ?hr ?_; (case hd => rfl); (case hg => rfl); (case hr => first | (go_simp; done) | (go_simp; rfl)); intro gb202 hg w27 hbox hb; have n0_ := Aside0.mk (blk_below (g := gb200) (o := .cells #[.bool a0_0, .slice (some ad201) l0_1.length c0_1] 56 (0, 0)) (by (with_reducible repeat (first | refine blk_drewN ?_ _ | refine blk_drew ?_ | refine blk_alloc ?_ _)); exact BK200.out) hb); have n1_ := Aside0.mk (below_step (by repeat (first | (with_reducible first | exact HB.out | apply below_alloc | apply pw_below_drewN | apply below_drew1 | refine below_set ?_ GE200.out) | exact HB.out)) hb); have n2_ := Aside0.mk (hbox); have n3_ := Aside0.mk ((by rw [hg]; exact (below_size (by repeat (first | (with_reducible first | exact HB.out | apply below_alloc | apply pw_below_drewN | apply below_drew1 | refine below_set ?_ GE200.out) | exact HB.out))) : w.heap.size ≤ gb202)); have n4_ := Aside0.mk ((by rw [hg]; exact (below_size (by repeat (first | (with_reducible first | exact HB.out | apply below_alloc | apply pw_below_drewN | apply below_drew1 | refine below_set ?_ GE200.out) | exact HB.out))) : w.heap.size ≤ gb202)); have n5_ := Aside0.mk ((by rw [hg]; exact Nat.ne_of_lt (blk_lt (g := gb200) (o := .cells #[.bool a0_0, .slice (some ad201) l0_1.length c0_1] 56 (0, 0)) (by (with_reducible repeat (first | refine blk_drewN ?_ _ | refine blk_drew ?_ | refine blk_alloc ?_ _)); exact BK200.out)) : gb200 ≠ gb202)); have n6_ := Aside0.mk ((by rw [hg]; exact Nat.ne_of_gt (blk_lt (g := gb200) (o := .cells #[.bool a0_0, .slice (some ad201) l0_1.length c0_1] 56 (0, 0)) (by (with_reducible repeat (first | refine blk_drewN ?_ _ | refine blk_drew ?_ | refine blk_alloc ?_ _)); exact BK200.out)) : gb202 ≠ gb200)); clear BK200; clear HB; have BK200 := n0_; have HB := n1_; have BK202 := n2_; have GW202 := n3_; have GE202 := n4_; have NB200_202 := n5_; have NB202_200 := n6_; clear n0_ n1_ n2_ n3_ n4_ n5_ n6_; clear hb hbox hg; have hnb28 := NB202_200.out; have hnc28 := NB200_202.out; have hcz29_0 : w27.cell? ⟨gb202, 0, none⟩ = some (.int .i64 0) := (blk_cell BK202.out 0).trans rfl; have hcz29_1 : w27.cell? ⟨gb202, 1, none⟩ = some (.int .i64 0) := (blk_cell BK202.out 1).trans rfl; have hfz29_0 := blk_frozen BK202.out 0; have hfz29_1 := blk_frozen BK202.out 1)))
                        go_ret
                        exact ⟨by first | rfl | (simp [errW_none, errW_some] <;> rfl) | (simp [*, errW_none, errW_some] <;> rfl), by repeat (first | (with_reducible first | exact HB.out | apply below_alloc | apply pw_below_drewN | apply below_drew1 | refine below_set ?_ GE200.out | refine below_set ?_ GE202.out) | exact HB.out)⟩
                      · rw [if_neg c25] at H
                        have c25b0 : decide (2147483647 < ((rd_T78 l0_1 x3_2).f1)) = false := decide_eq_false c25
                        clear c25
                        by_cases c30 : x3_2 > 0
                        · rw [if_pos c30] at H
                          have c30b0 : decide (0 < x3_2) = true := decide_eq_true c30
                          clear c30
                          obtain ⟨ji31, hji31⟩ : ∃ j_ : Int, (wrap64 (x3_2 - 1)) = j_ := ⟨_, rfl⟩
                          replace H : (if 0 ≤ (ji31) then (if (ji31) < (l0_1.length : Int) then (if ((rd_T78 l0_1 (ji31)).f0) ≥ ((rd_T78 l0_1 x3_2).f0) then (some false) else (assartref04_Right.l0 k2 (wrap64 (x3_2 + 1)) a0_0 l0_1)) else (none)) else (none)) = some r := by first | (rw [hji31] at H; exact H) | (simp only [hji31] at H ⊢; exact H)
                          have hji31w : (IntKind.i64.wrap (x3_2 - 1)) = ji31 := (i64_w _).trans hji31
                          by_cases c32 : 0 ≤ (ji31)
                          · rw [if_pos c32] at H
                            have c32b0 : decide (0 ≤ (ji31)) = true := decide_eq_true c32
                            clear c32
                            by_cases c33 : (ji31) < (l0_1.length : Int)
                            · rw [if_pos c33] at H
                              have c33b0 : decide ((ji31) < (l0_1.length : Int)) = true := decide_eq_true c33
                              clear c33
                              by_cases c34 : ((rd_T78 l0_1 (ji31)).f0) ≥ ((rd_T78 l0_1 x3_2).f0)
                              · rw [if_pos c34] at H
                                have c34b0 : decide (((rd_T78 l0_1 x3_2).f0) ≤ ((rd_T78 l0_1 (ji31)).f0)) = true := decide_eq_true c34
                                clear c34
                                obtain rfl := Option.some.inj H
                                have hcz35_0 : wr.cell? ⟨gb200, 0, none⟩ = some (.bool a0_0) := (blk_cell BK200.out 0).trans rfl
                                have hcz35_1 : wr.cell? ⟨gb200, 1, none⟩ = some (.slice A0_1 l0_1.length c0_1) := (blk_cell BK200.out 1).trans rfl
                                have hfz35_0 := blk_frozen BK200.out 0
                                have hfz35_1 := blk_frozen BK200.out 1
                                have p201 : 0 ≤ (x3_2 : Int) := of_decide_eq_true (by first | (with_reducible assumption) | assumption)
                                have q201 : x3_2 < (l0_1.length : Int) := of_decide_eq_true (by first | (with_reducible assumption) | assumption)
                                obtain ⟨ad201, e201, hx201_0, hx201_1⟩ := at_T78 HR0_1.out x3_2 p201 q201
                                cases e201
                                replace hx201_0 := (HB.out.cell (World.block_lt_of_cell? w _ hx201_0)).trans hx201_0
                                replace hx201_1 := (HB.out.cell (World.block_lt_of_cell? w _ hx201_1)).trans hx201_1
                                replace p201 := eq_true p201
                                replace q201 := eq_true q201
                                go_wp2_with (first | ((with_reducible refine gate_dst (N := 4) rfl ?_); (try (refine gate_guard (by rfl) ?_; dsimp only)); refine box_event ?hg (N := 4) ?hd (cs := #[.int .i64 0, .int .i64 0]) (t := 78) ?hr ?_; (case hd => rfl); (case hg => rfl); (case hr => first | (go_simp; done) | (go_simp; rfl)); intro gb202 hg w36 hbox hb; have n0_ := Aside0.mk (blk_below (g := gb200) (o := .cells #[.bool a0_0, .slice (some ad201) l0_1.length c0_1] 56 (0, 0)) (by (with_reducible repeat (first | refine blk_drewN ?_ _ | refine blk_drew ?_ | refine blk_alloc ?_ _)); exact BK200.out) hb); have n1_ := Aside0.mk (below_step (by repeat (first | (with_reducible first | exact HB.out | apply below_alloc | apply pw_below_drewN | apply below_drew1 | refine below_set ?_ GE200.out) | exact HB.out)) hb); have n2_ := Aside0.mk (hbox); have n3_ := Aside0.mk ((by rw [hg]; exact (below_size (by repeat (first | (with_reducible first | exact HB.out | apply below_alloc | apply pw_below_drewN | apply below_drew1 | refine below_set ?_ GE200.out) | exact HB.out))) : w.heap.size ≤ gb202)); have n4_ := Aside0.mk ((by rw [hg]; exact (below_size (by repeat (first | (with_reducible first | exact HB.out | apply below_alloc | apply pw_below_drewN | apply below_drew1 | refine below_set ?_ GE200.out) | exact HB.out))) : w.heap.size ≤ gb202)); have n5_ := Aside0.mk ((by rw [hg]; exact Nat.ne_of_lt (blk_lt (g := gb200) (o := .cells #[.bool a0_0, .slice (some ad201) l0_1.length c0_1] 56 (0, 0)) (by (with_reducible repeat (first | refine blk_drewN ?_ _ | refine blk_drew ?_ | refine blk_alloc ?_ _)); exact BK200.out)) : gb200 ≠ gb202)); have n6_ := Aside0.mk ((by rw [hg]; exact Nat.ne_of_gt (blk_lt (g := gb200) (o := .cells #[.bool a0_0, .slice (some ad201) l0_1.length c0_1] 56 (0, 0)) (by (with_reducible repeat (first | refine blk_drewN ?_ _ | refine blk_drew ?_ | refine blk_alloc ?_ _)); exact BK200.out)) : gb202 ≠ gb200)); clear BK200; clear HB; have BK200 := n0_; have HB := n1_; have BK202 := n2_; have GW202 := n3_; have GE202 := n4_; have NB200_202 := n5_; have NB202_200 := n6_; clear n0_ n1_ n2_ n3_ n4_ n5_ n6_; clear hb hbox hg; have hnb37 := NB202_200.out; have hnc37 := NB200_202.out; have hcz38_0 : w36.cell? ⟨gb202, 0, none⟩ = some (.int .i64 0) := (blk_cell BK202.out 0).trans rfl; have hcz38_1 : w36.cell? ⟨gb202, 1, none⟩ = some (.int .i64 0) := (blk_cell BK202.out 1).trans rfl; have hfz38_0 := blk_frozen BK202.out 0; have hfz38_1 := blk_frozen BK202.out 1; have hcz39_0 : w36.cell? ⟨gb200, 0, none⟩ = some (.bool a0_0) := (blk_cell BK200.out 0).trans rfl; have hcz39_1 : w36.cell? ⟨gb200, 1, none⟩ = some (.slice (some ad201) l0_1.length c0_1) := (blk_cell BK200.out 1).trans rfl; have hfz39_0 := blk_frozen BK200.out 0; have hfz39_1 := blk_frozen BK200.out 1; have p203 : 0 ≤ ((ji31) : Int) := of_decide_eq_true (by first | (with_reducible assumption) | assumption); have q203 : (ji31) < (l0_1.length : Int) := of_decide_eq_true (by first | (with_reducible assumption) | assumption); obtain ⟨ad203, e203, hx203_0, hx203_1⟩ := at_T78 HR0_1.out (ji31) p203 q203; obtain rfl : ad201 = ad203 := (by injection e203); have hn203_0 : ad201.block ≠ gb202 := Nat.ne_of_lt (Nat.lt_of_lt_of_le (by have := World.block_lt_of_cell? _ _ hx203_0; first | rwa [add_block] at this | exact this) GW202.out); have hn203_1 : ad201.block ≠ gb202 := Nat.ne_of_lt (Nat.lt_of_lt_of_le (by have := World.block_lt_of_cell? _ _ hx203_0; first | rwa [add_block] at this | exact this) GW202.out); replace hx203_0 := (HB.out.cell (World.block_lt_of_cell? w _ hx203_0)).trans hx203_0; replace hx203_1 := (HB.out.cell (World.block_lt_of_cell? w _ hx203_1)).trans hx203_1; replace hx203_0 := (cell_far (p := ⟨gb202, 0, none⟩) (by first | (rw [add_block]; exact hn203_0) | (show (Addr.add _ _).block ≠ _; rw [add_block]; exact hn203_0) | exact hn203_0) (.int .i64 ((rd_T78 l0_1 x3_2).f0))).trans hx203_0; replace hx203_1 := (cell_far (p := ⟨gb202, 0, none⟩) (by first | (rw [add_block]; exact hn203_0) | (show (Addr.add _ _).block ≠ _; rw [add_block]; exact hn203_0) | exact hn203_0) (.int .i64 ((rd_T78 l0_1 x3_2).f0))).trans hx203_1; replace hx203_0 := (cell_far (p := ⟨gb202, 1, none⟩) (by first | (rw [add_block]; exact hn203_1) | (show (Addr.add _ _).block ≠ _; rw [add_block]; exact hn203_1) | exact hn203_1) (.int .i64 ((rd_T78 l0_1 x3_2).f1))).trans hx203_0; replace hx203_1 := (cell_far (p := ⟨gb202, 1, none⟩) (by first | (rw [add_block]; exact hn203_1) | (show (Addr.add _ _).block ≠ _; rw [add_block]; exact hn203_1) | exact hn203_1) (.int .i64 ((rd_T78 l0_1 x3_2).f1))).trans hx203_1; (try have hy203_0 := fun (n_ : Nat) => (show ((((w36.drewN n_).setCell ⟨gb202, 0, none⟩ (.int .i64 ((rd_T78 l0_1 x3_2).f0))).setCell ⟨gb202, 1, none⟩ (.int .i64 ((rd_T78 l0_1 x3_2).f1)))).cell? _ = some _ from hx203_0)); (try have hy203_1 := fun (n_ : Nat) => (show ((((w36.drewN n_).setCell ⟨gb202, 0, none⟩ (.int .i64 ((rd_T78 l0_1 x3_2).f0))).setCell ⟨gb202, 1, none⟩ (.int .i64 ((rd_T78 l0_1 x3_2).f1)))).cell? _ = some _ from hx203_1)); clear hn203_0; clear hn203_1; replace p203 := eq_true p203; replace q203 := eq_true q203))
                                repeat (go_quiet (first | ((with_reducible refine gate_dst (N := 4) rfl ?_); (try (refine gate_guard (by rfl) ?_; dsimp only)); refine box_event ?hg (N := 4) ?hd (cs := #[.int .i64 0, .int .i64 0]) (t := 78) ?hr ?_; (case hd => rfl); (case hg => rfl); (case hr => first | (go_simp; done) | (go_simp; rfl)); intro gb202 hg w36 hbox hb; have n0_ := Aside0.mk (blk_below (g := gb200) (o := .cells #[.bool a0_0, .slice (some ad201) l0_1.length c0_1] 56 (0, 0)) (by (with_reducible repeat (first | refine blk_drewN ?_ _ | refine blk_drew ?_ | refine blk_alloc ?_ _)); exact BK200.out) hb); have n1_ := Aside0.mk (below_step (by repeat (first | (with_reducible first | exact HB.out | apply below_alloc | apply pw_below_drewN | apply below_drew1 | refine below_set ?_ GE200.out) | exact HB.out)) hb); have n2_ := Aside0.mk (hbox); have n3_ := Aside0.mk ((by rw [hg]; exact (below_size (by repeat (first | (with_reducible first | exact HB.out | apply below_alloc | apply pw_below_drewN | apply below_drew1 | refine below_set ?_ GE200.out) | exact HB.out))) : w.heap.size ≤ gb202)); have n4_ := Aside0.mk ((by rw [hg]; exact (below_size (by repeat (first | (with_reducible first | exact HB.out | apply below_alloc | apply pw_below_drewN | apply below_drew1 | refine below_set ?_ GE200.out) | exact HB.out))) : w.heap.size ≤ gb202)); have n5_ := Aside0.mk ((by rw [hg]; exact Nat.ne_of_lt (blk_lt (g := gb200) (o := .cells #[.bool a0_0, .slice (some ad201) l0_1.length c0_1] 56 (0, 0)) (by (with_reducible repeat (first | refine blk_drewN ?_ _ | refine blk_drew ?_ | refine blk_alloc ?_ _)); exact BK200.out)) : gb200 ≠ gb202)); have n6_ := Aside0.mk ((by rw [hg]; exact Nat.ne_of_gt (blk_lt (g := gb200) (o := .cells #[.bool a0_0, .slice (some ad201) l0_1.length c0_1] 56 (0, 0)) (by (with_reducible repeat (first | refine blk_drewN ?_ _ | refine blk_drew ?_ | refine blk_alloc ?_ _)); exact BK200.out)) : gb202 ≠ gb200)); clear BK200; clear HB; have BK200 := n0_; have HB := n1_; have BK202 := n2_; have GW202 := n3_; have GE202 := n4_; have NB200_202 := n5_; have NB202_200 := n6_; clear n0_ n1_ n2_ n3_ n4_ n5_ n6_; clear hb hbox hg; have hnb37 := NB202_200.out; have hnc37 := NB200_202.out; have hcz38_0 : w36.cell? ⟨gb202, 0, none⟩ = some (.int .i64 0) := (blk_cell BK202.out 0).trans rfl; have hcz38_1 : w36.cell? ⟨gb202, 1, none⟩ = some (.int .i64 0) := (blk_cell BK202.out 1).trans rfl; have hfz38_0 := blk_frozen BK202.out 0; have hfz38_1 := blk_frozen BK202.out 1; have hcz39_0 : w36.cell? ⟨gb200, 0, none⟩ = some (.bool a0_0) := (blk_cell BK200.out 0).trans rfl; have hcz39_1 : w36.cell? ⟨gb200, 1, none⟩ = some (.slice (some ad201) l0_1.length c0_1) := (blk_cell BK200.out 1).trans rfl; have hfz39_0 := blk_frozen BK200.out 0; have hfz39_1 := blk_frozen BK200.out 1; have p203 : 0 ≤ ((ji31) : Int) := of_decide_eq_true (by first | (with_reducible assumption) | assumption); have q203 : (ji31) < (l0_1.length : Int) := of_decide_eq_true (by first | (with_reducible assumption) | assumption); obtain ⟨ad203, e203, hx203_0, hx203_1⟩ := at_T78 HR0_1.out (ji31) p203 q203; obtain rfl : ad201 = ad203 := (by injection e203); have hn203_0 : ad201.block ≠ gb202 := Nat.ne_of_lt (Nat.lt_of_lt_of_le (by have := World.block_lt_of_cell? _ _ hx203_0; first | rwa [add_block] at this | exact this) GW202.out); have hn203_1 : ad201.block ≠ gb202 := Nat.ne_of_lt (Nat.lt_of_lt_of_le (by have := World.block_lt_of_cell? _ _ hx203_0; first | rwa [add_block] at this | exact this) GW202.out); replace hx203_0 := (HB.out.cell (World.block_lt_of_cell? w _ hx203_0)).trans hx203_0; replace hx203_1 := (HB.out.cell (World.block_lt_of_cell? w _ hx203_1)).trans hx203_1; replace hx203_0 := (cell_far (p := ⟨gb202, 0, none⟩) (by first | (rw [add_block]; exact hn203_0) | (show (Addr.add _ _).block ≠ _; rw [add_block]; exact hn203_0) | exact hn203_0) (.int .i64 ((rd_T78 l0_1 x3_2).f0))).trans hx203_0; replace hx203_1 := (cell_far (p := ⟨gb202, 0, none⟩) (by first | (rw [add_block]; exact hn203_0) | (show (Addr.add _ _).block ≠ _; rw [add_block]; exact hn203_0) | exact hn203_0) (.int .i64 ((rd_T78 l0_1 x3_2).f0))).trans hx203_1; replace hx203_0 := (cell_far (p := ⟨gb202, 1, none⟩) (by first | (rw [add_block]; exact hn203_1) | (show (Addr.add _ _).block ≠ _; rw [add_block]; exact hn203_1) | exact hn203_1) (.int .i64 ((rd_T78 l0_1 x3_2).f1))).trans hx203_0; replace hx203_1 := (cell_far (p := ⟨gb202, 1, none⟩) (by first | (rw [add_block]; exact hn203_1) | (show (Addr.add _ _).block ≠ _; rw [add_block]; exact hn203_1) | exact hn203_1) (.int .i64 ((rd_T78 l0_1 x3_2).f1))).trans hx203_1; (try have hy203_0 := fun (n_ : Nat) => (show ((((w36.drewN n_).setCell ⟨gb202, 0, none⟩ (.int .i64 ((rd_T78 l0_1 x3_2).f0))).setCell ⟨gb202, 1, none⟩ (.int .i64 ((rd_T78 l0_1 x3_2).f1)))).cell? _ = some _ from hx203_0)); (try have hy203_1 := fun (n_ : Nat) => (show ((((w36.drewN n_).setCell ⟨gb202, 0, none⟩ (.int .i64 ((rd_T78 l0_1 x3_2).f0))).setCell ⟨gb202, 1, none⟩ (.int .i64 ((rd_T78 l0_1 x3_2).f1)))).cell? _ = some _ from hx203_1)); clear hn203_0; clear hn203_1; replace p203 := eq_true p203; replace q203 := eq_true q203)); try go_wp2_with (first | ((with_reducible refine gate_dst (N := 4) rfl ?_); (try (refine gate_guard (by rfl) ?_; dsimp only)); refine box_event ?hg (N := 4) ?hd (cs := #[.int .i64 0, .int .i64 0]) (t := 78) ?hr ?_; (case hd => rfl); (case hg => rfl); (case hr => first | (go_simp; done) | (go_simp; rfl)); intro gb202 hg w36 hbox hb; have n0_ := Aside0.mk (blk_below (g := gb200) (o := .cells #[.bool a0_0, .slice (some ad201) l0_1.length c0_1] 56 (0, 0)) (by (with_reducible repeat (first | refine blk_drewN ?_ _ | refine blk_drew ?_ | refine blk_alloc ?_ _)); exact BK200.out) hb); have n1_ := Aside0.mk (below_step (by repeat (first | (with_reducible first | exact HB.out | apply below_alloc | apply pw_below_drewN | apply below_drew1 | refine below_set ?_ GE200.out) | exact HB.out)) hb); have n2_ := Aside0.mk (hbox); have n3_ := Aside0.mk ((by rw [hg]; exact (below_size (by repeat (first | (with_reducible first | exact HB.out | apply below_alloc | apply pw_below_drewN | apply below_drew1 | refine below_set ?_ GE200.out) | exact HB.out))) : w.heap.size ≤ gb202)); have n4_ := Aside0.mk ((by rw [hg]; exact (below_size (by repeat (first | (with_reducible first | exact HB.out | apply below_alloc | apply pw_below_drewN | apply below_drew1 | refine below_set ?_ GE200.out) | exact HB.out))) : w.heap.size ≤ gb202)); have n5_ := Aside0.mk ((by rw [hg]; exact Nat.ne_of_lt (blk_lt (g := gb200) (o := .cells #[.bool a0_0, .slice (some ad201) l0_1.length c0_1] 56 (0, 0)) (by (with_reducible repeat (first | refine blk_drewN ?_ _ | refine blk_drew ?_ | refine blk_alloc ?_ _)); exact BK200.out)) : gb200 ≠ gb202)); have n6_ := Aside0.mk ((by rw [hg]; exact Nat.ne_of_gt (blk_lt (g := gb200) (o := .cells #[.bool a0_0, .slice (some ad201) l0_1.length c0_1] 56 (0, 0)) (by (with_reducible repeat (first | refine blk_drewN ?_ _ | refine blk_drew ?_ | refine blk_alloc ?_ _)); exact BK200.out)) : gb202 ≠ gb200)); clear BK200; clear HB; have BK200 := n0_; have HB := n1_; have BK202 := n2_; have GW202 := n3_; have GE202 := n4_; have NB200_202 := n5_; have NB202_200 := n6_; clear n0_ n1_ n2_ n3_ n4_ n5_ n6_; clear hb hbox hg; have hnb37 := NB202_200.out; have hnc37 := NB200_202.out; have hcz38_0 : w36.cell? ⟨gb202, 0, none⟩ = some (.int .i64 0) := (blk_cell BK202.out 0).trans rfl; have hcz38_1 : w36.cell? ⟨gb202, 1, none⟩ = some (.int .i64 0) := (blk_cell BK202.out 1).trans rfl; have hfz38_0 := blk_frozen BK202.out 0; have hfz38_1 := blk_frozen BK202.out 1; have hcz39_0 : w36.cell? ⟨gb200, 0, none⟩ = some (.bool a0_0) := (blk_cell BK200.out 0).trans rfl; have hcz39_1 : w36.cell? ⟨gb200, 1, none⟩ = some (.slice (some ad201) l0_1.length c0_1) := (blk_cell BK200.out 1).trans rfl; have hfz39_0 := blk_frozen BK200.out 0; have hfz39_1 := blk_frozen BK200.out 1; have p203 : 0 ≤ ((ji31) : Int) := of_decide_eq_true (by first | (with_reducible assumption) | assumption); have q203 : (ji31) < (l0_1.length : Int) := of_decide_eq_true (by first | (with_reducible assumption) | assumption); obtain ⟨ad203, e203, hx203_0, hx203_1⟩ := at_T78 HR0_1.out (ji31) p203 q203; obtain rfl : ad201 = ad203 := (by injection e203); have hn203_0 : ad201.block ≠ gb202 := Nat.ne_of_lt (Nat.lt_of_lt_of_le (by have := World.block_lt_of_cell? _ _ hx203_0; first | rwa [add_block] at this | exact this) GW202.out); have hn203_1 : ad201.block ≠ gb202 := Nat.ne_of_lt (Nat.lt_of_lt_of_le (by have := World.block_lt_of_cell? _ _ hx203_0; first | rwa [add_block] at this | exact this) GW202.out); replace hx203_0 := (HB.out.cell (World.block_lt_of_cell? w _ hx203_0)).trans hx203_0; replace hx203_1 := (HB.out.cell (World.block_lt_of_cell? w _ hx203_1)).trans hx203_1; replace hx203_0 := (cell_far (p := ⟨gb202, 0, none⟩) (by first | (rw [add_block]; exact hn203_0) | (show (Addr.add _ _).block ≠ _; rw [add_block]; exact hn203_0) | exact hn203_0) (.int .i64 ((rd_T78 l0_1 x3_2).f0))).trans hx203_0; replace hx203_1 := (cell_far (p := ⟨gb202, 0, none⟩) (by first | (rw [add_block]; exact hn203_0) | (show (Addr.add _ _).block ≠ _; rw [add_block]; exact hn203_0) | exact hn203_0) (.int .i64 ((rd_T78 l0_1 x3_2).f0))).trans hx203_1; replace hx203_0 := (cell_far (p := ⟨gb202, 1, none⟩) (by first | (rw [add_block]; exact hn203_1) | (show (Addr.add _ _).block ≠ _; rw [add_block]; exact hn203_1) | exact hn203_1) (.int .i64 ((rd_T78 l0_1 x3_2).f1))).trans hx203_0; replace hx203_1 := (cell_far (p := ⟨gb202, 1, none⟩) (by first | (rw [add_block]; exact hn203_1) | (show (Addr.add _ _).block ≠ _; rw [add_block]; exact hn203_1) | exact hn203_1) (.int .i64 ((rd_T78 l0_1 x3_2).f1))).trans hx203_1; (try have hy203_0 := fun (n_ : Nat) => (show ((((w36.drewN n_).setCell ⟨gb202, 0, none⟩ (.int .i64 ((rd_T78 l0_1 x3_2).f0))).setCell ⟨gb202, 1, none⟩ (.int .i64 ((rd_T78 l0_1 x3_2).f1)))).cell? _ = some _ from hx203_0)); (try have hy203_1 := fun (n_ : Nat) => (show ((((w36.drewN n_).setCell ⟨gb202, 0, none⟩ (.int .i64 ((rd_T78 l0_1 x3_2).f0))).setCell ⟨gb202, 1, none⟩ (.int .i64 ((rd_T78 l0_1 x3_2).f1)))).cell? _ = some _ from hx203_1)); clear hn203_0; clear hn203_1; replace p203 := eq_true p203; replace q203 := eq_true q203)))
                                go_ret
                                exact ⟨by first | rfl | (simp [errW_none, errW_some] <;> rfl) | (simp only [← hji31]; first | rfl | (simp [errW_none, errW_some] <;> rfl)) | (simp [*, errW_none, errW_some] <;> rfl), by repeat (first | (with_reducible first | exact HB.out | apply below_alloc | apply pw_below_drewN | apply below_drew1 | refine below_set ?_ GE200.out | refine below_set ?_ GE202.out) | exact HB.out)⟩
                              · rw [if_neg c34] at H
                                have c34b0 : decide (((rd_T78 l0_1 x3_2).f0) ≤ ((rd_T78 l0_1 (ji31)).f0)) = false := decide_eq_false c34
                                clear c34
                                have H' := Aside0.mk H
                                clear H
                                have hcz40_0 : wr.cell? ⟨gb200, 0, none⟩ = some (.bool a0_0) := (blk_cell BK200.out 0).trans rfl
                                have hcz40_1 : wr.cell? ⟨gb200, 1, none⟩ = some (.slice A0_1 l0_1.length c0_1) := (blk_cell BK200.out 1).trans rfl
                                have hfz40_0 := blk_frozen BK200.out 0
                                have hfz40_1 := blk_frozen BK200.out 1
                                have p201 : 0 ≤ (x3_2 : Int) := of_decide_eq_true (by first | (with_reducible assumption) | assumption)
                                have q201 : x3_2 < (l0_1.length : Int) := of_decide_eq_true (by first | (with_reducible assumption) | assumption)
                                obtain ⟨ad201, e201, hx201_0, hx201_1⟩ := at_T78 HR0_1.out x3_2 p201 q201
                                cases e201
                                replace hx201_0 := (HB.out.cell (World.block_lt_of_cell? w _ hx201_0)).trans hx201_0
                                replace hx201_1 := (HB.out.cell (World.block_lt_of_cell? w _ hx201_1)).trans hx201_1
                                replace p201 := eq_true p201
                                replace q201 := eq_true q201
                                go_wp2_with (first | ((with_reducible refine gate_dst (N := 4) rfl ?_); (try (refine gate_guard (by rfl) ?_; dsimp only)); refine box_event ?hg (N := 4) ?hd (cs := #[.int .i64 0, .int .i64 0]) (t := 78) ?hr ?_; (case hd => rfl); (case hg => rfl); (case hr => first | (go_simp; done) | (go_simp; rfl)); intro gb202 hg w41 hbox hb; have n0_ := Aside0.mk (blk_below (g := gb200) (o := .cells #[.bool a0_0, .slice (some ad201) l0_1.length c0_1] 56 (0, 0)) (by (with_reducible repeat (first | refine blk_drewN ?_ _ | refine blk_drew ?_ | refine blk_alloc ?_ _)); exact BK200.out) hb); have n1_ := Aside0.mk (below_step (by repeat (first | (with_reducible first | exact HB.out | apply below_alloc | apply pw_below_drewN | apply below_drew1 | refine below_set ?_ GE200.out) | exact HB.out)) hb); have n2_ := Aside0.mk (hbox); have n3_ := Aside0.mk ((by rw [hg]; exact (below_size (by repeat (first | (with_reducible first | exact HB.out | apply below_alloc | apply pw_below_drewN | apply below_drew1 | refine below_set ?_ GE200.out) | exact HB.out))) : w.heap.size ≤ gb202)); have n4_ := Aside0.mk ((by rw [hg]; exact (below_size (by repeat (first | (with_reducible first | exact HB.out | apply below_alloc | apply pw_below_drewN | apply below_drew1 | refine below_set ?_ GE200.out) | exact HB.out))) : w.heap.size ≤ gb202)); have n5_ := Aside0.mk ((by rw [hg]; exact Nat.ne_of_lt (blk_lt (g := gb200) (o := .cells #[.bool a0_0, .slice (some ad201) l0_1.length c0_1] 56 (0, 0)) (by (with_reducible repeat (first | refine blk_drewN ?_ _ | refine blk_drew ?_ | refine blk_alloc ?_ _)); exact BK200.out)) : gb200 ≠ gb202)); have n6_ := Aside0.mk ((by rw [hg]; exact Nat.ne_of_gt (blk_lt (g := gb200) (o := .cells #[.bool a0_0, .slice (some ad201) l0_1.length c0_1] 56 (0, 0)) (by (with_reducible repeat (first | refine blk_drewN ?_ _ | refine blk_drew ?_ | refine blk_alloc ?_ _)); exact BK200.out)) : gb202 ≠ gb200)); clear BK200; clear HB; have BK200 := n0_; have HB := n1_; have BK202 := n2_; have GW202 := n3_; have GE202 := n4_; have NB200_202 := n5_; have NB202_200 := n6_; clear n0_ n1_ n2_ n3_ n4_ n5_ n6_; clear hb hbox hg; have hnb42 := NB202_200.out; have hnc42 := NB200_202.out; have hcz43_0 : w41.cell? ⟨gb202, 0, none⟩ = some (.int .i64 0) := (blk_cell BK202.out 0).trans rfl; have hcz43_1 : w41.cell? ⟨gb202, 1, none⟩ = some (.int .i64 0) := (blk_cell BK202.out 1).trans rfl; have hfz43_0 := blk_frozen BK202.out 0; have hfz43_1 := blk_frozen BK202.out 1; have hcz44_0 : w41.cell? ⟨gb200, 0, none⟩ = some (.bool a0_0) := (blk_cell BK200.out 0).trans rfl; have hcz44_1 : w41.cell? ⟨gb200, 1, none⟩ = some (.slice (some ad201) l0_1.length c0_1) := (blk_cell BK200.out 1).trans rfl; have hfz44_0 := blk_frozen BK200.out 0; have hfz44_1 := blk_frozen BK200.out 1; have p203 : 0 ≤ ((ji31) : Int) := of_decide_eq_true (by first | (with_reducible assumption) | assumption); have q203 : (ji31) < (l0_1.length : Int) := of_decide_eq_true (by first | (with_reducible assumption) | assumption); obtain ⟨ad203, e203, hx203_0, hx203_1⟩ := at_T78 HR0_1.out (ji31) p203 q203; obtain rfl : ad201 = ad203 := (by injection e203); have hn203_0 : ad201.block ≠ gb202 := Nat.ne_of_lt (Nat.lt_of_lt_of_le (by have := World.block_lt_of_cell? _ _ hx203_0; first | rwa [add_block] at this | exact this) GW202.out); have hn203_1 : ad201.block ≠ gb202 := Nat.ne_of_lt (Nat.lt_of_lt_of_le (by have := World.block_lt_of_cell? _ _ hx203_0; first | rwa [add_block] at this | exact this) GW202.out); replace hx203_0 := (HB.out.cell (World.block_lt_of_cell? w _ hx203_0)).trans hx203_0; replace hx203_1 := (HB.out.cell (World.block_lt_of_cell? w _ hx203_1)).trans hx203_1; replace hx203_0 := (cell_far (p := ⟨gb202, 0, none⟩) (by first | (rw [add_block]; exact hn203_0) | (show (Addr.add _ _).block ≠ _; rw [add_block]; exact hn203_0) | exact hn203_0) (.int .i64 ((rd_T78 l0_1 x3_2).f0))).trans hx203_0; replace hx203_1 := (cell_far (p := ⟨gb202, 0, none⟩) (by first | (rw [add_block]; exact hn203_0) | (show (Addr.add _ _).block ≠ _; rw [add_block]; exact hn203_0) | exact hn203_0) (.int .i64 ((rd_T78 l0_1 x3_2).f0))).trans hx203_1; replace hx203_0 := (cell_far (p := ⟨gb202, 1, none⟩) (by first | (rw [add_block]; exact hn203_1) | (show (Addr.add _ _).block ≠ _; rw [add_block]; exact hn203_1) | exact hn203_1) (.int .i64 ((rd_T78 l0_1 x3_2).f1))).trans hx203_0; replace hx203_1 := (cell_far (p := ⟨gb202, 1, none⟩) (by first | (rw [add_block]; exact hn203_1) | (show (Addr.add _ _).block ≠ _; rw [add_block]; exact hn203_1) | exact hn203_1) (.int .i64 ((rd_T78 l0_1 x3_2).f1))).trans hx203_1; (try have hy203_0 := fun (n_ : Nat) => (show ((((w41.drewN n_).setCell ⟨gb202, 0, none⟩ (.int .i64 ((rd_T78 l0_1 x3_2).f0))).setCell ⟨gb202, 1, none⟩ (.int .i64 ((rd_T78 l0_1 x3_2).f1)))).cell? _ = some _ from hx203_0)); (try have hy203_1 := fun (n_ : Nat) => (show ((((w41.drewN n_).setCell ⟨gb202, 0, none⟩ (.int .i64 ((rd_T78 l0_1 x3_2).f0))).setCell ⟨gb202, 1, none⟩ (.int .i64 ((rd_T78 l0_1 x3_2).f1)))).cell? _ = some _ from hx203_1)); clear hn203_0; clear hn203_1; replace p203 := eq_true p203; replace q203 := eq_true q203))
                                repeat (go_quiet (first | ((with_reducible refine gate_dst (N := 4) rfl ?_); (try (refine gate_guard (by rfl) ?_; dsimp only)); refine box_event ?hg (N := 4) ?hd (cs := #[.int .i64 0, .int .i64 0]) (t := 78) ?hr ?_; (case hd => rfl); (case hg => rfl); (case hr => first | (go_simp; done) | (go_simp; rfl)); intro gb202 hg w41 hbox hb; have n0_ := Aside0.mk (blk_below (g := gb200) (o := .cells #[.bool a0_0, .slice (some ad201) l0_1.length c0_1] 56 (0, 0)) (by (with_reducible repeat (first | refine blk_drewN ?_ _ | refine blk_drew ?_ | refine blk_alloc ?_ _)); exact BK200.out) hb); have n1_ := Aside0.mk (below_step (by repeat (first | (with_reducible first | exact HB.out | apply below_alloc | apply pw_below_drewN | apply below_drew1 | refine below_set ?_ GE200.out) | exact HB.out)) hb); have n2_ := Aside0.mk (hbox); have n3_ := Aside0.mk ((by rw [hg]; exact (below_size (by repeat (first | (with_reducible first | exact HB.out | apply below_alloc | apply pw_below_drewN | apply below_drew1 | refine below_set ?_ GE200.out) | exact HB.out))) : w.heap.size ≤ gb202)); have n4_ := Aside0.mk ((by rw [hg]; exact (below_size (by repeat (first | (with_reducible first | exact HB.out | apply below_alloc | apply pw_below_drewN | apply below_drew1 | refine below_set ?_ GE200.out) | exact HB.out))) : w.heap.size ≤ gb202)); have n5_ := Aside0.mk ((by rw [hg]; exact Nat.ne_of_lt (blk_lt (g := gb200) (o := .cells #[.bool a0_0, .slice (some ad201) l0_1.length c0_1] 56 (0, 0)) (by (with_reducible repeat (first | refine blk_drewN ?_ _ | refine blk_drew ?_ | refine blk_alloc ?_ _)); exact BK200.out)) : gb200 ≠ gb202)); have n6_ := Aside0.mk ((by rw [hg]; exact Nat.ne_of_gt (blk_lt (g := gb200) (o := .cells #[.bool a0_0, .slice (some ad201) l0_1.length c0_1] 56 (0, 0)) (by (with_reducible repeat (first | refine blk_drewN ?_ _ | refine blk_drew ?_ | refine blk_alloc ?_ _)); exact BK200.out)) : gb202 ≠ gb200)); clear BK200; clear HB; have BK200 := n0_; have HB := n1_; have BK202 := n2_; have GW202 := n3_; have GE202 := n4_; have NB200_202 := n5_; have NB202_200 := n6_; clear n0_ n1_ n2_ n3_ n4_ n5_ n6_; clear hb hbox hg; have hnb42 := NB202_200.out; have hnc42 := NB200_202.out; have hcz43_0 : w41.cell? ⟨gb202, 0, none⟩ = some (.int .i64 0) := (blk_cell BK202.out 0).trans rfl; have hcz43_1 : w41.cell? ⟨gb202, 1, none⟩ = some (.int .i64 0) := (blk_cell BK202.out 1).trans rfl; have hfz43_0 := blk_frozen BK202.out 0; have hfz43_1 := blk_frozen BK202.out 1; have hcz44_0 : w41.cell? ⟨gb200, 0, none⟩ = some (.bool a0_0) := (blk_cell BK200.out 0).trans rfl; have hcz44_1 : w41.cell? ⟨gb200, 1, none⟩ = some (.slice (some ad201) l0_1.length c0_1) := (blk_cell BK200.out 1).trans rfl; have hfz44_0 := blk_frozen BK200.out 0; have hfz44_1 := blk_frozen BK200.out 1; have p203 : 0 ≤ ((ji31) : Int) := of_decide_eq_true (by first | (with_reducible assumption) | assumption); have q203 : (ji31) < (l0_1.length : Int) := of_decide_eq_true (by first | (with_reducible assumption) | assumption); obtain ⟨ad203, e203, hx203_0, hx203_1⟩ := at_T78 HR0_1.out (ji31) p203 q203; obtain rfl : ad201 = ad203 := (by injection e203); have hn203_0 : ad201.block ≠ gb202 := Nat.ne_of_lt (Nat.lt_of_lt_of_le (by have := World.block_lt_of_cell? _ _ hx203_0; first | rwa [add_block] at this | exact this) GW202.out); have hn203_1 : ad201.block ≠ gb202 := Nat.ne_of_lt (Nat.lt_of_lt_of_le (by have := World.block_lt_of_cell? _ _ hx203_0; first | rwa [add_block] at this | exact this) GW202.out); replace hx203_0 := (HB.out.cell (World.block_lt_of_cell? w _ hx203_0)).trans hx203_0; replace hx203_1 := (HB.out.cell (World.block_lt_of_cell? w _ hx203_1)).trans hx203_1; replace hx203_0 := (cell_far (p := ⟨gb202, 0, none⟩) (by first | (rw [add_block]; exact hn203_0) | (show (Addr.add _ _).block ≠ _; rw [add_block]; exact hn203_0) | exact hn203_0) (.int .i64 ((rd_T78 l0_1 x3_2).f0))).trans hx203_0; replace hx203_1 := (cell_far (p := ⟨gb202, 0, none⟩) (by first | (rw [add_block]; exact hn203_0) | (show (Addr.add _ _).block ≠ _; rw [add_block]; exact hn203_0) | exact hn203_0) (.int .i64 ((rd_T78 l0_1 x3_2).f0))).trans hx203_1; replace hx203_0 := (cell_far (p := ⟨gb202, 1, none⟩) (by first | (rw [add_block]; exact hn203_1) | (show (Addr.add _ _).block ≠ _; rw [add_block]; exact hn203_1) | exact hn203_1) (.int .i64 ((rd_T78 l0_1 x3_2).f1))).trans hx203_0; replace hx203_1 := (cell_far (p := ⟨gb202, 1, none⟩) (by first | (rw [add_block]; exact hn203_1) | (show (Addr.add _ _).block ≠ _; rw [add_block]; exact hn203_1) | exact hn203_1) (.int .i64 ((rd_T78 l0_1 x3_2).f1))).trans hx203_1; (try have hy203_0 := fun (n_ : Nat) => (show ((((w41.drewN n_).setCell ⟨gb202, 0, none⟩ (.int .i64 ((rd_T78 l0_1 x3_2).f0))).setCell ⟨gb202, 1, none⟩ (.int .i64 ((rd_T78 l0_1 x3_2).f1)))).cell? _ = some _ from hx203_0)); (try have hy203_1 := fun (n_ : Nat) => (show ((((w41.drewN n_).setCell ⟨gb202, 0, none⟩ (.int .i64 ((rd_T78 l0_1 x3_2).f0))).setCell ⟨gb202, 1, none⟩ (.int .i64 ((rd_T78 l0_1 x3_2).f1)))).cell? _ = some _ from hx203_1)); clear hn203_0; clear hn203_1; replace p203 := eq_true p203; replace q203 := eq_true q203)); try go_wp2_with (first | ((with_reducible refine gate_dst (N := 4) rfl ?_); (try (refine gate_guard (by rfl) ?_; dsimp only)); refine box_event ?hg (N := 4) ?hd (cs := #[.int .i64 0, .int .i64 0]) (t := 78) ?hr ?_; (case hd => rfl); (case hg => rfl); (case hr => first | (go_simp; done) | (go_simp; rfl)); intro gb202 hg w41 hbox hb; have n0_ := Aside0.mk (blk_below (g := gb200) (o := .cells #[.bool a0_0, .slice (some ad201) l0_1.length c0_1] 56 (0, 0)) (by (with_reducible repeat (first | refine blk_drewN ?_ _ | refine blk_drew ?_ | refine blk_alloc ?_ _)); exact BK200.out) hb); have n1_ := Aside0.mk (below_step (by repeat (first | (with_reducible first | exact HB.out | apply below_alloc | apply pw_below_drewN | apply below_drew1 | refine below_set ?_ GE200.out) | exact HB.out)) hb); have n2_ := Aside0.mk (hbox); have n3_ := Aside0.mk ((by rw [hg]; exact (below_size (by repeat (first | (with_reducible first | exact HB.out | apply below_alloc | apply pw_below_drewN | apply below_drew1 | refine below_set ?_ GE200.out) | exact HB.out))) : w.heap.size ≤ gb202)); have n4_ := Aside0.mk ((by rw [hg]; exact (below_size (by repeat (first | (with_reducible first | exact HB.out | apply below_alloc | apply pw_below_drewN | apply below_drew1 | refine below_set ?_ GE200.out) | exact HB.out))) : w.heap.size ≤ gb202)); have n5_ := Aside0.mk ((by rw [hg]; exact Nat.ne_of_lt (blk_lt (g := gb200) (o := .cells #[.bool a0_0, .slice (some ad201) l0_1.length c0_1] 56 (0, 0)) (by (with_reducible repeat (first | refine blk_drewN ?_ _ | refine blk_drew ?_ | refine blk_alloc ?_ _)); exact BK200.out)) : gb200 ≠ gb202)); have n6_ := Aside0.mk ((by rw [hg]; exact Nat.ne_of_gt (blk_lt (g := gb200) (o := .cells #[.bool a0_0, .slice (some ad201) l0_1.length c0_1] 56 (0, 0)) (by (with_reducible repeat (first | refine blk_drewN ?_ _ | refine blk_drew ?_ | refine blk_alloc ?_ _)); exact BK200.out)) : gb202 ≠ gb200)); clear BK200; clear HB; have BK200 := n0_; have HB := n1_; have BK202 := n2_; have GW202 := n3_; have GE202 := n4_; have NB200_202 := n5_; have NB202_200 := n6_; clear n0_ n1_ n2_ n3_ n4_ n5_ n6_; clear hb hbox hg; have hnb42 := NB202_200.out; have hnc42 := NB200_202.out; have hcz43_0 : w41.cell? ⟨gb202, 0, none⟩ = some (.int .i64 0) := (blk_cell BK202.out 0).trans rfl; have hcz43_1 : w41.cell? ⟨gb202, 1, none⟩ = some (.int .i64 0) := (blk_cell BK202.out 1).trans rfl; have hfz43_0 := blk_frozen BK202.out 0; have hfz43_1 := blk_frozen BK202.out 1; have hcz44_0 : w41.cell? ⟨gb200, 0, none⟩ = some (.bool a0_0) := (blk_cell BK200.out 0).trans rfl; have hcz44_1 : w41.cell? ⟨gb200, 1, none⟩ = some (.slice (some ad201) l0_1.length c0_1) := (blk_cell BK200.out 1).trans rfl; have hfz44_0 := blk_frozen BK200.out 0; have hfz44_1 := blk_frozen BK200.out 1; have p203 : 0 ≤ ((ji31) : Int) := of_decide_eq_true (by first | (with_reducible assumption) | assumption); have q203 : (ji31) < (l0_1.length : Int) := of_decide_eq_true (by first | (with_reducible assumption) | assumption); obtain ⟨ad203, e203, hx203_0, hx203_1⟩ := at_T78 HR0_1.out (ji31) p203 q203; obtain rfl : ad201 = ad203 := (by injection e203); have hn203_0 : ad201.block ≠ gb202 := Nat.ne_of_lt (Nat.lt_of_lt_of_le (by have := World.block_lt_of_cell? _ _ hx203_0; first | rwa [add_block] at this | exact this) GW202.out); have hn203_1 : ad201.block ≠ gb202 := Nat.ne_of_lt (Nat.lt_of_lt_of_le (by have := World.block_lt_of_cell? _ _ hx203_0; first | rwa [add_block] at this | exact this) GW202.out); replace hx203_0 := (HB.out.cell (World.block_lt_of_cell? w _ hx203_0)).trans hx203_0; replace hx203_1 := (HB.out.cell (World.block_lt_of_cell? w _ hx203_1)).trans hx203_1; replace hx203_0 := (cell_far (p := ⟨gb202, 0, none⟩) (by first | (rw [add_block]; exact hn203_0) | (show (Addr.add _ _).block ≠ _; rw [add_block]; exact hn203_0) | exact hn203_0) (.int .i64 ((rd_T78 l0_1 x3_2).f0))).trans hx203_0; replace hx203_1 := (cell_far (p := ⟨gb202, 0, none⟩) (by first | (rw [add_block]; exact hn203_0) | (show (Addr.add _ _).block ≠ _; rw [add_block]; exact hn203_0) | exact hn203_0) (.int .i64 ((rd_T78 l0_1 x3_2).f0))).trans hx203_1; replace hx203_0 := (cell_far (p := ⟨gb202, 1, none⟩) (by first | (rw [add_block]; exact hn203_1) | (show (Addr.add _ _).block ≠ _; rw [add_block]; exact hn203_1) | exact hn203_1) (.int .i64 ((rd_T78 l0_1 x3_2).f1))).trans hx203_0; replace hx203_1 := (cell_far (p := ⟨gb202, 1, none⟩) (by first | (rw [add_block]; exact hn203_1) | (show (Addr.add _ _).block ≠ _; rw [add_block]; exact hn203_1) | exact hn203_1) (.int .i64 ((rd_T78 l0_1 x3_2).f1))).trans hx203_1; (try have hy203_0 := fun (n_ : Nat) => (show ((((w41.drewN n_).setCell ⟨gb202, 0, none⟩ (.int .i64 ((rd_T78 l0_1 x3_2).f0))).setCell ⟨gb202, 1, none⟩ (.int .i64 ((rd_T78 l0_1 x3_2).f1)))).cell? _ = some _ from hx203_0)); (try have hy203_1 := fun (n_ : Nat) => (show ((((w41.drewN n_).setCell ⟨gb202, 0, none⟩ (.int .i64 ((rd_T78 l0_1 x3_2).f0))).setCell ⟨gb202, 1, none⟩ (.int .i64 ((rd_T78 l0_1 x3_2).f1)))).cell? _ = some _ from hx203_1)); clear hn203_0; clear hn203_1; replace p203 := eq_true p203; replace q203 := eq_true q203)))
                                go_roundg k2
                                case measure => have := HJ1.out; have := HK2.out; omega
                                case rel => exact ⟨(wrap64 (x3_2 + 1)), (by first | rfl | (simp; done) | (simp [*]; done)), H', ⟨by have := HJ1.out; have := HK2.out; omega⟩, ⟨by (with_reducible repeat (first | refine blk_drewN ?_ _ | refine blk_drew ?_ | refine blk_alloc ?_ _)); refine blk_far ?_ NB200_202.out _; (with_reducible repeat (first | refine blk_drewN ?_ _ | refine blk_drew ?_ | refine blk_alloc ?_ _)); refine blk_far ?_ NB200_202.out _; (with_reducible repeat (first | refine blk_drewN ?_ _ | refine blk_drew ?_ | refine blk_alloc ?_ _)); exact BK200.out⟩, ⟨by repeat (first | (with_reducible first | exact HB.out | apply below_alloc | apply pw_below_drewN | apply below_drew1 | refine below_set ?_ GE200.out | refine below_set ?_ GE202.out) | exact HB.out)⟩⟩
                            · rw [if_neg c33] at H
                              exact absurd H (by simp)
                          · rw [if_neg c32] at H
                            exact absurd H (by simp)
                        · rw [if_neg c30] at H
                          have c30b0 : decide (0 < x3_2) = false := decide_eq_false c30
                          clear c30
                          have H' := Aside0.mk H
                          clear H
                          have hcz45_0 : wr.cell? ⟨gb200, 0, none⟩ = some (.bool a0_0) := (blk_cell BK200.out 0).trans rfl
                          have hcz45_1 : wr.cell? ⟨gb200, 1, none⟩ = some (.slice A0_1 l0_1.length c0_1) := (blk_cell BK200.out 1).trans rfl
                          have hfz45_0 := blk_frozen BK200.out 0
                          have hfz45_1 := blk_frozen BK200.out 1
                          have p201 : 0 ≤ (x3_2 : Int) := of_decide_eq_true (by first | (with_reducible assumption) | assumption)
                          have q201 : x3_2 < (l0_1.length : Int) := of_decide_eq_true (by first | (with_reducible assumption) | assumption)
                          obtain ⟨ad201, e201, hx201_0, hx201_1⟩ := at_T78 HR0_1.out x3_2 p201 q201
                          cases e201
                          replace hx201_0 := (HB.out.cell (World.block_lt_of_cell? w _ hx201_0)).trans hx201_0
                          replace hx201_1 := (HB.out.cell (World.block_lt_of_cell? w _ hx201_1)).trans hx201_1
                          replace p201 := eq_true p201
                          replace q201 := eq_true q201
                          go_wp2_with (first | ((with_reducible refine gate_dst (N := 4) rfl ?_); (try (refine gate_guard (by rfl) ?_; dsimp only)); refine box_event ?hg (N := 4) ?hd (cs := #[.int .i64 0, .int .i64 0]) (t := 78) ?hr ?_; (case hd => rfl); (case hg => rfl); (case hr => first | (go_simp; done) | (go_simp; rfl)); intro gb202 hg w46 hbox hb; have n0_ := Aside0.mk (blk_below (g := gb200) (o := .cells #[.bool a0_0, .slice (some ad201) l0_1.length c0_1] 56 (0, 0)) (by (with_reducible repeat (first | refine blk_drewN ?_ _ | refine blk_drew ?_ | refine blk_alloc ?_ _)); exact BK200.out) hb); have n1_ := Aside0.mk (below_step (by repeat (first | (with_reducible first | exact HB.out | apply below_alloc | apply pw_below_drewN | apply below_drew1 | refine below_set ?_ GE200.out) | exact HB.out)) hb); have n2_ := Aside0.mk (hbox); have n3_ := Aside0.mk ((by rw [hg]; exact (below_size (by repeat (first | (with_reducible first | exact HB.out | apply below_alloc | apply pw_below_drewN | apply below_drew1 | refine below_set ?_ GE200.out) | exact HB.out))) : w.heap.size ≤ gb202)); have n4_ := Aside0.mk ((by rw [hg]; exact (below_size (by repeat (first | (with_reducible first | exact HB.out | apply below_alloc | apply pw_below_drewN | apply below_drew1 | refine below_set ?_ GE200.out) | exact HB.out))) : w.heap.size ≤ gb202)); have n5_ := Aside0.mk ((by rw [hg]; exact Nat.ne_of_lt (blk_lt (g := gb200) (o := .cells #[.bool a0_0, .slice (some ad201) l0_1.length c0_1] 56 (0, 0)) (by (with_reducible repeat (first | refine blk_drewN ?_ _ | refine blk_drew ?_ | refine blk_alloc ?_ _)); exact BK200.out)) : gb200 ≠ gb202)); have n6_ := Aside0.mk ((by rw [hg]; exact Nat.ne_of_gt (blk_lt (g := gb200) (o := .cells #[.bool a0_0, .slice (some ad201) l0_1.length c0_1] 56 (0, 0)) (by (with_reducible repeat (first | refine blk_drewN ?_ _ | refine blk_drew ?_ | refine blk_alloc ?_ _)); exact BK200.out)) : gb202 ≠ gb200)); clear BK200; clear HB; have BK200 := n0_; have HB := n1_; have BK202 := n2_; have GW202 := n3_; have GE202 := n4_; have NB200_202 := n5_; have NB202_200 := n6_; clear n0_ n1_ n2_ n3_ n4_ n5_ n6_; clear hb hbox hg; have hnb47 := NB202_200.out; have hnc47 := NB200_202.out; have hcz48_0 : w46.cell? ⟨gb202, 0, none⟩ = some (.int .i64 0) := (blk_cell BK202.out 0).trans rfl; have hcz48_1 : w46.cell? ⟨gb202, 1, none⟩ = some (.int .i64 0) := (blk_cell BK202.out 1).trans rfl; have hfz48_0 := blk_frozen BK202.out 0; have hfz48_1 := blk_frozen BK202.out 1))
                          repeat (go_quiet (first | ((with_reducible refine gate_dst (N := 4) rfl ?_); (try (refine gate_guard (by rfl) ?_; dsimp only)); refine box_event ?hg (N := 4) ?hd (cs := #[.int .i64 0, .int .i64 0]) (t := 78) ?hr ?_; (case hd => rfl); (case hg => rfl); (case hr => first | (go_simp; done) | (go_simp; rfl)); intro gb202 hg w46 hbox hb; have n0_ := Aside0.mk (blk_below (g := gb200) (o := .cells #[.bool a0_0, .slice (some ad201) l0_1.length c0_1] 56 (0, 0)) (by (with_reducible repeat (first | refine blk_drewN ?_ _ | refine blk_drew ?_ | refine blk_alloc ?_ _)); exact BK200.out) hb); have n1_ := Aside0.mk (below_step (by repeat (first | (with_reducible first | exact HB.out | apply below_alloc | apply pw_below_drewN | apply below_drew1 | refine below_set ?_ GE200.out) | exact HB.out)) hb); have n2_ := Aside0.mk (hbox); have n3_ := Aside0.mk ((by rw [hg]; exact (below_size (by repeat (first | (with_reducible first | exact HB.out | apply below_alloc | apply pw_below_drewN | apply below_drew1 | refine below_set ?_ GE200.out) | exact HB.out))) : w.heap.size ≤ gb202)); have n4_ := Aside0.mk ((by rw [hg]; exact (below_size (by repeat (first | (with_reducible first | exact HB.out | apply below_alloc | apply pw_below_drewN | apply below_drew1 | refine below_set ?_ GE200.out) | exact HB.out))) : w.heap.size ≤ gb202)); have n5_ := Aside0.mk ((by rw [hg]; exact Nat.ne_of_lt (blk_lt (g := gb200) (o := .cells #[.bool a0_0, .slice (some ad201) l0_1.length c0_1] 56 (0, 0)) (by (with_reducible repeat (first | refine blk_drewN ?_ _ | refine blk_drew ?_ | refine blk_alloc ?_ _)); exact BK200.out)) : gb200 ≠ gb202)); have n6_ := Aside0.mk ((by rw [hg]; exact Nat.ne_of_gt (blk_lt (g := gb200) (o := .cells #[.bool a0_0, .slice (some ad201) l0_1.length c0_1] 56 (0, 0)) (by (with_reducible repeat (first | refine blk_drewN ?_ _ | refine blk_drew ?_ | refine blk_alloc ?_ _)); exact BK200.out)) : gb202 ≠ gb200)); clear BK200; clear HB; have BK200 := n0_; have HB := n1_; have BK202 := n2_; have GW202 := n3_; have GE202 := n4_; have NB200_202 := n5_; have NB202_200 := n6_; clear n0_ n1_ n2_ n3_ n4_ n5_ n6_; clear hb hbox hg; have hnb47 := NB202_200.out; have hnc47 := NB200_202.out; have hcz48_0 : w46.cell? ⟨gb202, 0, none⟩ = some (.int .i64 0) := (blk_cell BK202.out 0).trans rfl; have hcz48_1 : w46.cell? ⟨gb202, 1, none⟩ = some (.int .i64 0) := (blk_cell BK202.out 1).trans rfl; have hfz48_0 := blk_frozen BK202.out 0; have hfz48_1 := blk_frozen BK202.out 1)); try go_wp2_with (first | ((with_reducible refine gate_dst (N := 4) rfl ?_); (try (refine gate_guard (by rfl) ?_; dsimp only)); refine box_event ?hg (N := 4) ?hd (cs := #[.int .i64 0, .int .i64 0]) (t := 78) ?hr ?_; (case hd => rfl); (case hg => rfl); (case hr => first | (go_simp; done) | (go_simp; rfl)); intro gb202 hg w46 hbox hb; have n0_ := Aside0.mk (blk_below (g := gb200) (o := .cells #[.bool a0_0, .slice (some ad201) l0_1.length c0_1] 56 (0, 0)) (by (with_reducible repeat (first | refine blk_drewN ?_ _ | refine blk_drew ?_ | refine blk_alloc ?_ _)); exact BK200.out) hb); have n1_ := Aside0.mk (below_step (by repeat (first | (with_reducible first | exact HB.out | apply below_alloc | apply pw_below_drewN | apply below_drew1 | refine below_set ?_ GE200.out) | exact HB.out)) hb); have n2_ := Aside0.mk (hbox); have n3_ := Aside0.mk ((by rw [hg]; exact (below_size (by repeat (first | (with_reducible first | exact HB.out | apply below_alloc | apply pw_below_drewN | apply below_drew1 | refine below_set ?_ GE200.out) | exact HB.out))) : w.heap.size ≤ gb202)); have n4_ := Aside0.mk ((by rw [hg]; exact (below_size (by repeat (first | (with_reducible first | exact HB.out | apply below_alloc | apply pw_below_drewN | apply below_drew1 | refine below_set ?_ GE200.out) | exact HB.out))) : w.heap.size ≤ gb202)); have n5_ := Aside0.mk ((by rw [hg]; exact Nat.ne_of_lt (blk_lt (g := gb200) (o := .cells #[.bool a0_0, .slice (some ad201) l0_1.length c0_1] 56 (0, 0)) (by (with_reducible repeat (first | refine blk_drewN ?_ _ | refine blk_drew ?_ | refine blk_alloc ?_ _)); exact BK200.out)) : gb200 ≠ gb202)); have n6_ := Aside0.mk ((by rw [hg]; exact Nat.ne_of_gt (blk_lt (g := gb200) (o := .cells #[.bool a0_0, .slice (some ad201) l0_1.length c0_1] 56 (0, 0)) (by (with_reducible repeat (first | refine blk_drewN ?_ _ | refine blk_drew ?_ | refine blk_alloc ?_ _)); exact BK200.out)) : gb202 ≠ gb200)); clear BK200; clear HB; have BK200 := n0_; have HB := n1_; have BK202 := n2_; have GW202 := n3_; have GE202 := n4_; have NB200_202 := n5_; have NB202_200 := n6_; clear n0_ n1_ n2_ n3_ n4_ n5_ n6_; clear hb hbox hg; have hnb47 := NB202_200.out; have hnc47 := NB200_202.out; have hcz48_0 : w46.cell? ⟨gb202, 0, none⟩ = some (.int .i64 0) := (blk_cell BK202.out 0).trans rfl; have hcz48_1 : w46.cell? ⟨gb202, 1, none⟩ = some (.int .i64 0) := (blk_cell BK202.out 1).trans rfl; have hfz48_0 := blk_frozen BK202.out 0; have hfz48_1 := blk_frozen BK202.out 1)))
                          go_roundg k2
                          case measure => have := HJ1.out; have := HK2.out; omega
                          case rel => exact ⟨(wrap64 (x3_2 + 1)), (by first | rfl | (simp; done) | (simp [*]; done)), H', ⟨by have := HJ1.out; have := HK2.out; omega⟩, ⟨by (with_reducible repeat (first | refine blk_drewN ?_ _ | refine blk_drew ?_ | refine blk_alloc ?_ _)); refine blk_far ?_ NB200_202.out _; (with_reducible repeat (first | refine blk_drewN ?_ _ | refine blk_drew ?_ | refine blk_alloc ?_ _)); refine blk_far ?_ NB200_202.out _; (with_reducible repeat (first | refine blk_drewN ?_ _ | refine blk_drew ?_ | refine blk_alloc ?_ _)); exact BK200.out⟩, ⟨by repeat (first | (with_reducible first | exact HB.out | apply below_alloc | apply pw_below_drewN | apply below_drew1 | refine below_set ?_ GE200.out | refine below_set ?_ GE202.out) | exact HB.out)⟩⟩
              · rw [if_neg c9] at H
                exact absurd H (by simp)
            · rw [if_neg c8] at H
              have c8b0 : decide (x3_2 < (l0_1.length : Int)) = false := decide_eq_false c8
              clear c8
              obtain rfl := Option.some.inj H
              have hcz49_0 : wr.cell? ⟨gb200, 0, none⟩ = some (.bool a0_0) := (blk_cell BK200.out 0).trans rfl
              have hcz49_1 : wr.cell? ⟨gb200, 1, none⟩ = some (.slice A0_1 l0_1.length c0_1) := (blk_cell BK200.out 1).trans rfl
              have hfz49_0 := blk_frozen BK200.out 0
              have hfz49_1 := blk_frozen BK200.out 1
              go_wp2
              repeat (go_quiet (fail); try go_wp2)
              go_ret
              exact ⟨by first | rfl | (simp [errW_none, errW_some] <;> rfl) | (simp [*, errW_none, errW_some] <;> rfl), by repeat (first | (with_reducible first | exact HB.out | apply below_alloc | apply pw_below_drewN | apply below_drew1 | refine below_set ?_ GE200.out) | exact HB.out)⟩

end Go.Proofs.Ythjnkapkhphpeaa.P
end
section
/- slices.Grow of nothing and slices.Concat, for rows of bytes and rows of items: what they make. -/
namespace Go.Proofs.Ythjnkapkhphpeaa.P
open Go.RowKit Go.Proofs.YthjnkapkhphpeaaW.PrintWords Go.Proofs.YthjnkapkhphpeaaW.PrintLast Go.Proofs.YthjnkapkhphpeaaW.PrintMore
set_option linter.unusedVariables false
set_option linter.unusedSimpArgs false
theorem cut_hm {P : Program} (t e : TypeId) (kh : IntKind) {i : TypeInfo} (ht : P.underlying t = some (.slice e)) (hi : P.info? e = some i) (A : Option Addr) (n c : Nat) (j : Int) (h0 : 0 ≤ j) (hm : j ≤ n) (hc : n ≤ c) :
    ∀ W : World, (Instr.slice t (.slice A n c) none (some (.int kh j)) (some (.int kh j))).run P W = .ok (.slice A j.toNat j.toNat) W := by
  intro W
  have hel : P.elem t = e := by simp [Program.elem, ht]
  have hu : P.underlying t = some (.slice (P.elem t)) := by rw [hel]; exact ht
  have ha : (A.map fun x => x.add 0) = A := by cases A <;> simp [Addr.add]
  rw [run_slice_hm W t A n c hu kh kh j j h0 (Int.le_refl _) (by omega), hel]
  simp [sizeOf, typeInfo, hi, sliced, Result.andThen, ha]
theorem w64_id {n : Int} (h0 : 0 ≤ n) (h1 : n ≤ 1000000) : wrap64 n = n := by unfold wrap64; omega
theorem w64_succ {k n : Nat} (h : k < n) (hn : n ≤ 1000000) : wrap64 ((k : Int) + 1) = ((k + 1 : Nat) : Int) := by unfold wrap64; omega
theorem meas_ {n k : Nat} (h : k < n) (hk : wrap64 ((k : Int) + 1) = ((k + 1 : Nat) : Int)) : n - (intOf (Value.int .i64 (wrap64 ((k : Int) + 1)))).toNat < n - (intOf (Value.int .i64 (k : Int))).toNat := by
  rw [hk]
  show n - (k + 1) < n - k
  omega
theorem w64_add {x y z : Nat} (h : z = x + y) (hz : z ≤ 1000000) : wrap64 ((x : Int) + (y : Int)) = (z : Int) := by unfold wrap64; omega
set_option maxHeartbeats 4000000 in
set_option maxRecDepth 100000 in
theorem GrowB.nil_ (n : Int) (w : World) (h0 : 0 ≤ n) (h1 : n ≤ 1000000) :
    Calls Try.prog 64 #[.slice none 0 0, .int .i64 n] w fun e w' => ∃ v : Value, e = .returned v ∧ Kd.R (Kd.int .u8) 5 w' w.heap.size (fun _ => True) v [] ∧ Below w.heap.size w w' := by
  have hd : decide (n < 0) = false := decide_eq_false (by omega)
  have hw : wrap64 n = n := w64_id h0 h1
  by_cases hz : n = 0
  · subst hz
    clear h0 h1 hd hw
    go_enter Try.func64, Try.ntmps64
    go_wp2
    go_ret
    exact ⟨_, rfl, Kd.R_nil _ _ _ _ _, Below.refl _ _⟩
  · have hd2 : decide (0 < wrap64 n) = true := by rw [hw]; exact decide_eq_true (by omega)
    have HN : Aside0 (wrap64 n ≤ 1000000) := ⟨by rw [hw]; exact h1⟩
    have HN0 : Aside0 (0 ≤ wrap64 n) := ⟨by rw [hw]; exact h0⟩
    clear h1 h0 hz hw
    go_enter Try.func64, Try.ntmps64
    go_wp2_with ((with_reducible refine gate_builtin (b := .append) (xs := #[.tmp 20, .tmp 21]) rfl ?_); at_builtin; refine Kd.R_append_zeros (Kd.int .u8) (w0 := w) w.heap.size rfl (.tmp 20) (.tmp 21) 24 3 5 (.int .u8 0) 1 rfl Try.underlying24 Try.underlying3 info5 rfl (by decide) (by omega) (.slice none 0 0) [] (0 : Int) (wrap64 n) (fun _ => True) rfl rfl ?aZ (fun _ _ => trivial) ?aO HN0.out ?aB ?aS ?aL ?_)
    case aZ => exact rfl
    case aO => exact Kd.R_nil _ _ _ _ _
    case aB => exact Below.refl _ _
    case aS => exact Nat.le_refl _
    case aL => have := HN.out; have := HN0.out; simp only [List.length_nil]; omega
    intro v1 w1 hR hB hg hv
    obtain ⟨A, c, rfl, hc, hC⟩ := Kd.R_reads hR
    have HR := Aside0.mk (Kd.R_take (m := 0) hR (Nat.zero_le _))
    have HB := Aside0.mk hB
    obtain ⟨i0, hi0, _⟩ := Option.map_eq_some_iff.1 info5
    have hcut := cut_to (P := Try.prog) 24 5 .i64 Try.underlying24 hi0 A _ c 0 (by omega) (by omega) hc
    clear hR hB hg hv hc hC hi0
    go_wp2
    go_ret
    exact ⟨_, rfl, HR.out, HB.out⟩
def slices_Concat_byte_byte.f (l : List (List Int)) : Option (List Int) := if l.flatten.length ≤ 1000000 ∧ l.length ≤ 1000000 then some l.flatten else none
theorem flat_takeB (l : List (List Int)) (k : Nat) (h : k < l.length) : (l.take (k + 1)).flatten = (l.take k).flatten ++ l[k] := by
  rw [List.take_succ_eq_append_getElem h, List.flatten_append]
  simp
theorem flat_leB (l : List (List Int)) (k : Nat) : (l.take k).flatten.length ≤ l.flatten.length := by
  conv => rhs; rw [← List.take_append_drop k l, List.flatten_append, List.length_append]
  omega
theorem rows_atB {e : Nat} {w : World} {A : Option Addr} {xs : List (List Int)} (h : Kd.C (Kd.slice e (Kd.int .u8)) w A xs.length xs) (k : Nat) (hk : k < xs.length) : ∃ ad A' c', A = some ad ∧ w.cell? (ad.add k) = some (.slice A' xs[k].length c') ∧ xs[k].length ≤ c' ∧ (Kd.int .u8).C w A' xs[k].length xs[k] := by
  obtain ⟨ad, c, e, _, hK, hc0⟩ := Kd.C_get h ([] : List Int) (k : Int) (by omega) (by omega)
  have hc : ∀ j u, c[j]? = some u → w.cell? (ad.add ((k : Int).toNat * 1 + j)) = some u := hc0
  rw [Int.toNat_natCast] at hK hc
  have hd : xs.getD k ([] : List Int) = xs[k] := by simp [hk]
  rw [hd] at hK
  obtain ⟨A0, c0, rfl, l0, g0⟩ := hK
  exact ⟨ad, A0, c0, e, by have hq := hc 0 _ rfl; rwa [Nat.mul_one, Nat.add_zero] at hq, l0, g0⟩
set_option maxHeartbeats 4000000 in
set_option maxRecDepth 100000 in
theorem slices_Concat_byte_byte.calls (A0 : Option Addr) (c0 : Nat) (l0 : List (List Int)) (r : List Int) (w : World) (hr0 : Kd.C (Kd.slice 5 (Kd.int .u8)) w A0 l0.length l0) (hc0 : l0.length ≤ c0) (h : slices_Concat_byte_byte.f l0 = some r) :
    Calls Try.prog 54 #[.slice A0 l0.length c0] w fun e w' => ∃ v0_ : Value, e = .returned (v0_) ∧ Kd.R (Kd.int .u8) 5 w' w.heap.size (fun _ => True) v0_ r ∧ Below w.heap.size w w' := by
  unfold slices_Concat_byte_byte.f at h
  have hlt : l0.flatten.length ≤ 1000000 ∧ l0.length ≤ 1000000 := by
    by_cases hlt : l0.flatten.length ≤ 1000000 ∧ l0.length ≤ 1000000
    · exact hlt
    · rw [if_neg hlt] at h
      cases h
  rw [if_pos hlt] at h
  obtain rfl := Option.some.inj h
  clear h
  obtain ⟨hF, hL⟩ := hlt
  have HF := Aside0.mk hF
  have HL := Aside0.mk hL
  have HR0 := Aside0.mk hr0
  clear hF hL hr0 hc0
  go_enter Try.func54, Try.ntmps54
  go_wp2
  go_loopw [3, 11] (fun s i wr => ∃ k : Nat, k ≤ l0.length ∧ i = .int .i64 k ∧ w = wr ∧ ∃ x : Nat, Aside0 (x = (l0.take k).flatten.length) ∧ s = .int .i64 x) (fun _ i _ => l0.length - (intOf i).toNat)
  case atStart => exact ⟨0, Nat.zero_le _, rfl, rfl, 0, ⟨rfl⟩, rfl⟩
  case round =>
    obtain ⟨k, hk, rfl, rfl, x, HXX, rfl⟩ := hrel
    by_cases hlt : k < l0.length
    · have p1 : (0 : Int) ≤ k := by omega
      have q1 : (k : Int) < l0.length := by omega
      have HK1 : Aside0 (wrap64 ((k : Int) + 1) = ((k + 1 : Nat) : Int)) := ⟨w64_succ hlt HL.out⟩
      have hx2 := flat_takeB l0 k hlt
      have hx3 := flat_leB l0 (k + 1)
      obtain ⟨ad, A', c', rfl, hx, _, _⟩ := rows_atB HR0.out k hlt
      obtain ⟨y, hy⟩ : ∃ y : Nat, y = (l0.take (k + 1)).flatten.length := ⟨_, rfl⟩
      have hs : wrap64 ((x : Int) + (l0[k].length : Int)) = (y : Int) := by
        have h2 := HXX.out
        rw [hx2, List.length_append, ← h2] at hy
        exact w64_add hy (by rw [hy, h2, ← List.length_append, ← hx2]; exact Nat.le_trans hx3 HF.out)
      have hneg : decide ((y : Int) < 0) = false := decide_eq_false (by omega)
      have HY := Aside0.mk hy
      clear hx2 hx3 hy
      go_wp2
      refine ⟨⟨k + 1, by omega, congrArg (Value.int .i64) HK1.out, trivial, y, HY, congrArg (Value.int .i64) hs⟩, ?_⟩
      exact meas_ hlt HK1.out
    · obtain rfl : k = l0.length := by omega
      have HFI : Aside0 ((x : Int) ≤ 1000000) := ⟨by have := HF.out; have := HXX.out; rw [List.take_length] at this; omega⟩
      clear hk hlt
      go_wp2_with fail
      refine (GrowB.nil_ _ _ (by omega) HFI.out).mono ?_
      rintro e wg ⟨v, rfl, hr, hb⟩
      have HRg := Aside0.mk hr
      have HBg := Aside0.mk hb
      clear hr hb
      go_wp2_with fail
      go_loopw [6, 27] (fun v6 i wr => ∃ k : Nat, k ≤ l0.length ∧ i = .int .i64 k ∧ Aside0 (Kd.R (Kd.int .u8) 5 wr w.heap.size (fun _ => True) v6 (l0.take k).flatten) ∧ Aside0 (Below w.heap.size w wr)) (fun _ i _ => l0.length - (intOf i).toNat)
      case atStart => exact ⟨0, Nat.zero_le _, rfl, HRg, HBg⟩
      case round =>
        obtain ⟨k, hk, rfl, HRk, HBk⟩ := hrel
        by_cases hlt : k < l0.length
        · have p1 : (0 : Int) ≤ k := by omega
          have q1 : (k : Int) < l0.length := by omega
          have HK1 : Aside0 (wrap64 ((k : Int) + 1) = ((k + 1 : Nat) : Int)) := ⟨w64_succ hlt HL.out⟩
          have HX2 := Aside0.mk (flat_takeB l0 k hlt)
          have HX3 := Aside0.mk (flat_leB l0 (k + 1))
          obtain ⟨ad, A', c', rfl, hx, _, hC⟩ := rows_atB (Kd.C_below HR0.out HBk.out) k hlt
          have HC := Aside0.mk hC
          clear hC
          go_wp2_with ((with_reducible refine gate_builtin (b := .append) (xs := #[.tmp 31, .tmp 32]) rfl ?_); at_builtin; refine Kd.R_append_rows (Kd.int .u8) (w0 := w) w.heap.size rfl (.tmp 31) (.tmp 32) 24 5 (.int .u8 0) 1 rfl Try.underlying24 info5 rfl (by decide) (by omega) _ (l0.take k).flatten l0[k] A' l0[k].length c' (fun _ => True) (fun _ => False) rfl rfl ?aO ?aR (fun _ _ h => h) (fun _ h => h.elim) (fun _ _ => trivial) ?aB ?aS ?aL ?_)
          case aO => exact HRk.out
          case aR => exact HC.out
          case aB => exact HBk.out
          case aS => exact HBk.out.size
          case aL =>
            have h1 := HX2.out
            have h2 := HX3.out
            have h3 := HF.out
            rw [h1, List.length_append] at h2
            omega
          intro v1 w1 hR hB hg hv
          rw [← HX2.out] at hR
          have HR1 := Aside0.mk hR
          have HB1 := Aside0.mk hB
          clear hR hB hg hv HC
          go_wp2
          refine ⟨⟨k + 1, by omega, congrArg (Value.int .i64) HK1.out, HR1, HB1⟩, ?_⟩
          exact meas_ hlt HK1.out
        · obtain rfl : k = l0.length := by omega
          rw [List.take_length] at HRk
          go_wp2
          go_ret
          exact ⟨_, rfl, HRk.out, HBk.out⟩
set_option maxHeartbeats 4000000 in
set_option maxRecDepth 100000 in
theorem GrowI.nil_ (n : Int) (w : World) (h0 : 0 ≤ n) (h1 : n ≤ 1000000) :
    Calls Try.prog 65 #[.slice none 0 0, .int .i64 n] w fun e w' => ∃ v : Value, e = .returned v ∧ Kd.R k78 78 w' w.heap.size (fun _ => True) v [] ∧ Below w.heap.size w w' := by
  have hd : decide (n < 0) = false := decide_eq_false (by omega)
  have hw : wrap64 n = n := w64_id h0 h1
  by_cases hz : n = 0
  · subst hz
    clear h0 h1 hd hw
    go_enter Try.func65, Try.ntmps65
    go_wp2
    go_ret
    exact ⟨_, rfl, Kd.R_nil _ _ _ _ _, Below.refl _ _⟩
  · have hd2 : decide (0 < wrap64 n) = true := by rw [hw]; exact decide_eq_true (by omega)
    have HN : Aside0 (wrap64 n ≤ 1000000) := ⟨by rw [hw]; exact h1⟩
    have HN0 : Aside0 (0 ≤ wrap64 n) := ⟨by rw [hw]; exact h0⟩
    clear h1 h0 hz hw
    go_enter Try.func65, Try.ntmps65
    go_wp2_with ((with_reducible refine gate_builtin (b := .append) (xs := #[.tmp 20, .tmp 21]) rfl ?_); at_builtin; refine Kd.R_append_zeros k78 (w0 := w) w.heap.size rfl (.tmp 20) (.tmp 21) 54 3 78 (.agg #[(.int .i64 0), (.int .i64 0)]) 16 rfl Try.underlying54 Try.underlying3 info78 rfl (by decide) (by omega) (.slice none 0 0) [] z78 (wrap64 n) (fun _ => True) rfl rfl ?aZ (fun _ _ => trivial) ?aO HN0.out ?aB ?aS ?aL ?_)
    case aZ => exact k78_mkM _ _ _ z78
    case aO => exact Kd.R_nil _ _ _ _ _
    case aB => exact Below.refl _ _
    case aS => exact Nat.le_refl _
    case aL => have := HN.out; have := HN0.out; simp only [List.length_nil]; omega
    intro v1 w1 hR hB hg hv
    obtain ⟨A, c, rfl, hc, hC⟩ := Kd.R_reads hR
    have HR := Aside0.mk (Kd.R_take (m := 0) hR (Nat.zero_le _))
    have HB := Aside0.mk hB
    obtain ⟨i0, hi0, _⟩ := Option.map_eq_some_iff.1 info78
    have hcut := cut_to (P := Try.prog) 54 78 .i64 Try.underlying54 hi0 A _ c 0 (by omega) (by omega) hc
    clear hR hB hg hv hc hC hi0
    go_wp2
    go_ret
    exact ⟨_, rfl, HR.out, HB.out⟩
def api_Item_59.f (l : List (List S78)) : Option (List S78) := if l.flatten.length ≤ 1000000 ∧ l.length ≤ 1000000 then some l.flatten else none
theorem flat_takeI (l : List (List S78)) (k : Nat) (h : k < l.length) : (l.take (k + 1)).flatten = (l.take k).flatten ++ l[k] := by
  rw [List.take_succ_eq_append_getElem h, List.flatten_append]
  simp
theorem flat_leI (l : List (List S78)) (k : Nat) : (l.take k).flatten.length ≤ l.flatten.length := by
  conv => rhs; rw [← List.take_append_drop k l, List.flatten_append, List.length_append]
  omega
theorem rows_atI {e : Nat} {w : World} {A : Option Addr} {xs : List (List S78)} (h : Kd.C (Kd.slice e k78) w A xs.length xs) (k : Nat) (hk : k < xs.length) : ∃ ad A' c', A = some ad ∧ w.cell? (ad.add k) = some (.slice A' xs[k].length c') ∧ xs[k].length ≤ c' ∧ k78.C w A' xs[k].length xs[k] := by
  obtain ⟨ad, c, e, _, hK, hc0⟩ := Kd.C_get h ([] : List S78) (k : Int) (by omega) (by omega)
  have hc : ∀ j u, c[j]? = some u → w.cell? (ad.add ((k : Int).toNat * 1 + j)) = some u := hc0
  rw [Int.toNat_natCast] at hK hc
  have hd : xs.getD k ([] : List S78) = xs[k] := by simp [hk]
  rw [hd] at hK
  obtain ⟨A0, c0, rfl, l0, g0⟩ := hK
  exact ⟨ad, A0, c0, e, by have hq := hc 0 _ rfl; rwa [Nat.mul_one, Nat.add_zero] at hq, l0, g0⟩
set_option maxHeartbeats 4000000 in
set_option maxRecDepth 100000 in
theorem api_Item_59.calls (A0 : Option Addr) (c0 : Nat) (l0 : List (List S78)) (r : List S78) (w : World) (hr0 : Kd.C (Kd.slice 78 k78) w A0 l0.length l0) (hc0 : l0.length ≤ c0) (h : api_Item_59.f l0 = some r) :
    Calls Try.prog 59 #[.slice A0 l0.length c0] w fun e w' => ∃ v0_ : Value, e = .returned (v0_) ∧ Kd.R k78 78 w' w.heap.size (fun _ => True) v0_ r ∧ Below w.heap.size w w' := by
  unfold api_Item_59.f at h
  have hlt : l0.flatten.length ≤ 1000000 ∧ l0.length ≤ 1000000 := by
    by_cases hlt : l0.flatten.length ≤ 1000000 ∧ l0.length ≤ 1000000
    · exact hlt
    · rw [if_neg hlt] at h
      cases h
  rw [if_pos hlt] at h
  obtain rfl := Option.some.inj h
  clear h
  obtain ⟨hF, hL⟩ := hlt
  have HF := Aside0.mk hF
  have HL := Aside0.mk hL
  have HR0 := Aside0.mk hr0
  clear hF hL hr0 hc0
  go_enter Try.func59, Try.ntmps59
  go_wp2
  go_loopw [3, 11] (fun s i wr => ∃ k : Nat, k ≤ l0.length ∧ i = .int .i64 k ∧ w = wr ∧ ∃ x : Nat, Aside0 (x = (l0.take k).flatten.length) ∧ s = .int .i64 x) (fun _ i _ => l0.length - (intOf i).toNat)
  case atStart => exact ⟨0, Nat.zero_le _, rfl, rfl, 0, ⟨rfl⟩, rfl⟩
  case round =>
    obtain ⟨k, hk, rfl, rfl, x, HXX, rfl⟩ := hrel
    by_cases hlt : k < l0.length
    · have p1 : (0 : Int) ≤ k := by omega
      have q1 : (k : Int) < l0.length := by omega
      have HK1 : Aside0 (wrap64 ((k : Int) + 1) = ((k + 1 : Nat) : Int)) := ⟨w64_succ hlt HL.out⟩
      have hx2 := flat_takeI l0 k hlt
      have hx3 := flat_leI l0 (k + 1)
      obtain ⟨ad, A', c', rfl, hx, _, _⟩ := rows_atI HR0.out k hlt
      obtain ⟨y, hy⟩ : ∃ y : Nat, y = (l0.take (k + 1)).flatten.length := ⟨_, rfl⟩
      have hs : wrap64 ((x : Int) + (l0[k].length : Int)) = (y : Int) := by
        have h2 := HXX.out
        rw [hx2, List.length_append, ← h2] at hy
        exact w64_add hy (by rw [hy, h2, ← List.length_append, ← hx2]; exact Nat.le_trans hx3 HF.out)
      have hneg : decide ((y : Int) < 0) = false := decide_eq_false (by omega)
      have HY := Aside0.mk hy
      clear hx2 hx3 hy
      go_wp2
      refine ⟨⟨k + 1, by omega, congrArg (Value.int .i64) HK1.out, trivial, y, HY, congrArg (Value.int .i64) hs⟩, ?_⟩
      exact meas_ hlt HK1.out
    · obtain rfl : k = l0.length := by omega
      have HFI : Aside0 ((x : Int) ≤ 1000000) := ⟨by have := HF.out; have := HXX.out; rw [List.take_length] at this; omega⟩
      clear hk hlt
      go_wp2_with fail
      refine (GrowI.nil_ _ _ (by omega) HFI.out).mono ?_
      rintro e wg ⟨v, rfl, hr, hb⟩
      have HRg := Aside0.mk hr
      have HBg := Aside0.mk hb
      clear hr hb
      go_wp2_with fail
      go_loopw [6, 27] (fun v6 i wr => ∃ k : Nat, k ≤ l0.length ∧ i = .int .i64 k ∧ Aside0 (Kd.R k78 78 wr w.heap.size (fun _ => True) v6 (l0.take k).flatten) ∧ Aside0 (Below w.heap.size w wr)) (fun _ i _ => l0.length - (intOf i).toNat)
      case atStart => exact ⟨0, Nat.zero_le _, rfl, HRg, HBg⟩
      case round =>
        obtain ⟨k, hk, rfl, HRk, HBk⟩ := hrel
        by_cases hlt : k < l0.length
        · have p1 : (0 : Int) ≤ k := by omega
          have q1 : (k : Int) < l0.length := by omega
          have HK1 : Aside0 (wrap64 ((k : Int) + 1) = ((k + 1 : Nat) : Int)) := ⟨w64_succ hlt HL.out⟩
          have HX2 := Aside0.mk (flat_takeI l0 k hlt)
          have HX3 := Aside0.mk (flat_leI l0 (k + 1))
          obtain ⟨ad, A', c', rfl, hx, _, hC⟩ := rows_atI (Kd.C_below HR0.out HBk.out) k hlt
          have HC := Aside0.mk hC
          clear hC
          go_wp2_with ((with_reducible refine gate_builtin (b := .append) (xs := #[.tmp 31, .tmp 32]) rfl ?_); at_builtin; refine Kd.R_append_rows k78 (w0 := w) w.heap.size rfl (.tmp 31) (.tmp 32) 54 78 (.agg #[(.int .i64 0), (.int .i64 0)]) 16 rfl Try.underlying54 info78 rfl (by decide) (by omega) _ (l0.take k).flatten l0[k] A' l0[k].length c' (fun _ => True) (fun _ => False) rfl rfl ?aO ?aR (fun _ _ h => h) (fun _ h => h.elim) (fun _ _ => trivial) ?aB ?aS ?aL ?_)
          case aO => exact HRk.out
          case aR => exact HC.out
          case aB => exact HBk.out
          case aS => exact HBk.out.size
          case aL =>
            have h1 := HX2.out
            have h2 := HX3.out
            have h3 := HF.out
            rw [h1, List.length_append] at h2
            omega
          intro v1 w1 hR hB hg hv
          rw [← HX2.out] at hR
          have HR1 := Aside0.mk hR
          have HB1 := Aside0.mk hB
          clear hR hB hg hv HC
          go_wp2
          refine ⟨⟨k + 1, by omega, congrArg (Value.int .i64) HK1.out, HR1, HB1⟩, ?_⟩
          exact meas_ hlt HK1.out
        · obtain rfl : k = l0.length := by omega
          rw [List.take_length] at HRk
          go_wp2
          go_ret
          exact ⟨_, rfl, HRk.out, HBk.out⟩
end Go.Proofs.Ythjnkapkhphpeaa.P
end
section
/- node.Split: items in rows that nodes can have (drafted by xprint.py, mended by mend.py). -/
namespace Go.Proofs.Ythjnkapkhphpeaa.P
open Go.RowKit Go.Proofs.YthjnkapkhphpeaaW.PrintWords Go.Proofs.YthjnkapkhphpeaaW.PrintLast Go.Proofs.YthjnkapkhphpeaaW.PrintMore
attribute [local go_sem] max2_int min2_int max_two min_two max_three min_three max_four min_four
set_option linter.unusedVariables false
set_option linter.unusedSimpArgs false

/-! ### node_Split: function 38 -/
def node_Split.f : Nat → List (S78) → Option ((List (List (S78))))
  | 0, _ => none
  | k + 1, l0 => if (l0.length : Int) = 0 then (some ([] : List (List (S78)))) else (if (l0.length : Int) ≤ 4 then (some (([l0] : List (List (S78))))) else (if 3 ≤ (l0.length : Int) then ((some (([(l0.take 3)] : List (List (S78))) : List (List (S78)))).bind fun y170 => ((node_Split.f k (l0.drop 3)).bind fun t178 => (if y170.length + t178.length < 5864062014805 then (some (y170 ++ t178)) else (none)))) else (none)))
theorem node_Split.mono_l : ∀ k, (∀ y0, LeO (node_Split.f k y0) (node_Split.f (k + 1) y0))
  | 0 => fun _ r h => by simp [node_Split.f] at h
  | k + 1 => by
    have ih0 := node_Split.mono_l k
    · intro y0
      unfold node_Split.f
      repeat' first
      | (with_reducible exact ih0 _)
      | (with_reducible exact LeO.refl _)
      | (with_reducible exact LeO.none _)
      | (with_reducible refine LeO.ite ?_ ?_)
      | (with_reducible refine LeO.bind ?_ (fun _ => ?_))
      | exact ih0 _
      | exact LeO.none _
      | refine LeO.ite ?_ ?_
      | refine LeO.bind ?_ (fun _ => ?_)
theorem node_Split.mono : ∀ a0 k, LeO (node_Split.f k a0) (node_Split.f (k + 1) a0) := by
  intro a0 k
  have ih0 := node_Split.mono_l k
  exact ih0 a0
def node_Split.T5 : Bool × List (List Nat × List Nat) := (true, [([], []), ([0], [0]), ([1], [1]), ([], []), ([3], [3]), ([4], [4]), ([2, 5, 5], [2, 5]), ([6, 6, 0, 1, 2, 3, 4, 5, 6], [6])])
def node_Split.B5 : List Nat := [0, 1, 3, 0, 8, 24, 63, 127]
theorem node_Split.tab5 : rtab .any (opsOf Try.f38 5) = node_Split.T5 := by kernel_rfl
theorem node_Split.bits5 : waitsOk node_Split.T5.2 node_Split.B5 = true := by kernel_rfl
set_option maxHeartbeats 8000000 in
set_option maxRecDepth 100000 in
theorem node_Split.calls (k : Nat) : ∀ (P0_ : Nat → Prop) (A0 : Option Addr) (c0 : Nat) (l0 : List (S78)) (r : List (List (S78))) (w : World) (hs0 : Kd.V k78 78 w w.heap.size (fun k_ => P0_ k_) (.slice A0 l0.length c0) l0) (h : node_Split.f k l0 = some r),
    Calls Try.prog 38 #[.slice A0 l0.length c0] w fun e w' => ∃ v0_ : Value, e = .returned (v0_) ∧ Kd.N (Kd.slice 78 k78) 54 w' w.heap.size (fun k_ => (P0_ k_ ∨ w.heap.size ≤ k_)) v0_ r ∧ Below w.heap.size w w' := by
  induction k using Nat.strongRecOn with
  | _ k ih =>
  intro P0_ A0 c0 l0 r w hs0 h
  cases k with
  | zero => exact absurd h (by simp [node_Split.f])
  | succ k =>
  simp only [node_Split.f] at h
  have HO0 := Aside0.mk (show Kd.V k78 78 w w.heap.size (fun k_ => (P0_ k_ ∨ w.heap.size ≤ k_)) (.slice A0 l0.length c0) l0 from Kd.V_mono hs0 (fun k_ hk => .inl hk))
  have HB := Aside0.mk (Below.refl w.heap.size w)
  have H : (if (l0.length : Int) = 0 then (some ([] : List (List (S78)))) else (if (l0.length : Int) ≤ 4 then (some (([l0] : List (List (S78))))) else (if 3 ≤ (l0.length : Int) then ((some (([(l0.take 3)] : List (List (S78))) : List (List (S78)))).bind fun y170 => ((node_Split.f k (l0.drop 3)).bind fun t178 => (if y170.length + t178.length < 5864062014805 then (some (y170 ++ t178)) else (none)))) else (none)))) = some r := h
  clear h
  by_cases c2 : (l0.length : Int) = 0
  · rw [if_pos c2] at H
    have c2b0 : ((l0.length : Int) == 0) = true := beq_iff_eq.mpr c2
    have c2b1 : ((l0.length : Int) != 0) = false := bne_eq_false_iff_eq.mpr c2
    clear c2
    obtain rfl := Option.some.inj H
    go_enter Try.func38, Try.ntmps38
    go_wp2
    go_ret
    exact ⟨_, by first | rfl | (simp [errW_none, errW_some] <;> rfl) | (simp [*, errW_none, errW_some] <;> rfl), by first | exact Kd.S_nil _ _ _ _ _ | exact Kd.N_nil _ _ _ _ _ | exact Kd.V_nil _ _ _ _ _ | exact Kd.Q_nil _ _ _ _ _ | exact Kd.R_nil _ _ _ _ _, by repeat (first | (with_reducible first | exact HB.out | apply below_alloc | apply pw_below_drewN | apply below_drew1) | exact HB.out)⟩
  · rw [if_neg c2] at H
    have c2b0 : ((l0.length : Int) == 0) = false := beq_eq_false_iff_ne.mpr c2
    have c2b1 : ((l0.length : Int) != 0) = true := bne_iff_ne.mpr c2
    have c2b2 : ¬ (l0 = []) := fun h_ => c2 (by rw [h_]; rfl)
    by_cases c3 : (l0.length : Int) ≤ 4
    · rw [if_pos c3] at H
      have c3b0 : decide ((l0.length : Int) ≤ 4) = true := decide_eq_true c3
      have c3b1 : decide (l0.length ≤ 4) = true := decide_eq_true (by omega)
      clear c3
      obtain ⟨y162, hy162⟩ : ∃ y_ : List (List (S78)), y_ = (([l0] : List (List (S78)))) := ⟨_, rfl⟩
      replace H : (some y162) = some r := by first | (rw [hy162]; with_reducible exact H) | (have H2_ := (Option.bind_some _ _).symm.trans H; rw [hy162]; with_reducible exact H2_) | (have H2_ := (Option.bind_some _ _).symm.trans H; with_reducible exact H2_) | with_reducible exact H | (rw [hy162]; exact H) | exact H
      have Ny162 := Aside0.mk hy162
      clear hy162
      obtain rfl := Option.some.inj H
      go_enter Try.func38, Try.ntmps38
      go_wp2_with (first | ((with_reducible refine gate_dst (N := 12) rfl ?_); refine Kd.N_lit (Kd.slice 78 k78) _ 54 ?hg (N' := 12) ?hd (xs := ([l0] : List (List (S78)))) (inner := [.slice A0 l0.length c0]) (ok := (fun k_ => (P0_ k_ ∨ w.heap.size ≤ k_))) (okp := (fun k_ => (P0_ k_ ∨ w.heap.size ≤ k_))) ?hr ?hp (fun _ hk => hk) ((show ∀ k_, w.heap.size ≤ k_ → (fun k_ => (P0_ k_ ∨ w.heap.size ≤ k_)) k_ from fun k_ hk => (.inr (Nat.le_trans (below_size (by repeat (first | (with_reducible first | exact HB.out | apply below_alloc | apply pw_below_drewN | apply below_drew1) | exact HB.out))) hk))) _ (Nat.le_refl _)) (Below.refl _ _) (Nat.le_refl _) (by simp) ?_; (case hd => rfl); (case hg => rfl); (case hr => first | (go_simp; done) | (go_simp; rfl)); (case hp => exact (Reps.one (show Kd.FK (Kd.slice 78 k78) _ _ l0 [.slice A0 l0.length c0] from (Kd.FK_slice_mk (Kd.V_reads' (Kd.V_mono (ok' := (fun k_ => (P0_ k_ ∨ w.heap.size ≤ k_))) (HO0.out) (fun k_ hk => hk))).2.1 (Kd.V_F (Kd.V_mono (ok' := (fun k_ => (P0_ k_ ∨ w.heap.size ≤ k_))) (HO0.out) (fun k_ hk => hk))))) (Reps.none _ _))); intro v163 w4 ho5 hb hg_ hnew_; clear hg_ hnew_; (first | rw [← Ny162.out] at ho5 | (simp only [Int.reduceToNat] at ho5; rw [← Ny162.out] at ho5)); have n0_ := Aside0.mk (Kd.V_elder' (by (with_reducible repeat (first | apply Kd.V_alloc | apply Kd.V_drewN | apply Kd.V_drew)); exact HO0.out) (Kd.N_base ho5) hb); have n1_ := Aside0.mk (Kd.N_lower ho5 (below_size (by repeat (first | (with_reducible first | exact HB.out | apply below_alloc | apply pw_below_drewN | apply below_drew1) | exact HB.out)))); have n2_ := Aside0.mk (below_step (by repeat (first | (with_reducible first | exact HB.out | apply below_alloc | apply pw_below_drewN | apply below_drew1) | exact HB.out)) hb); clear HO0; clear HB; have HO0 := n0_; have HO164 := n1_; have HB := n2_; clear n0_ n1_ n2_; clear hb ho5))
      go_ret
      exact ⟨_, by first | rfl | (simp [errW_none, errW_some] <;> rfl) | (simp [*, errW_none, errW_some] <;> rfl), by (with_reducible repeat (first | apply Kd.N_alloc | apply Kd.N_drewN | apply Kd.N_drew)); exact HO164.out, by repeat (first | (with_reducible first | exact HB.out | apply below_alloc | apply pw_below_drewN | apply below_drew1) | exact HB.out)⟩
    · rw [if_neg c3] at H
      have c3b0 : decide ((l0.length : Int) ≤ 4) = false := decide_eq_false c3
      have c3b1 : decide (l0.length ≤ 4) = false := decide_eq_false (by omega)
      clear c3
      by_cases c6 : 3 ≤ (l0.length : Int)
      · rw [if_pos c6] at H
        have c6b0 := eq_true c6
        have c6b1 : decide (3 ≤ (l0.length : Int)) = true := decide_eq_true c6
        clear c6
        obtain ⟨y165, hy165⟩ : ∃ y_ : List (S78), y_ = (l0.take 3) := ⟨_, rfl⟩
        replace H : ((some (([y165] : List (List (S78))) : List (List (S78)))).bind fun y170 => ((node_Split.f k (l0.drop 3)).bind fun t178 => (if y170.length + t178.length < 5864062014805 then (some (y170 ++ t178)) else (none)))) = some r := by first | (rw [hy165]; with_reducible exact H) | (have H2_ := (Option.bind_some _ _).symm.trans H; rw [hy165]; with_reducible exact H2_) | (have H2_ := (Option.bind_some _ _).symm.trans H; with_reducible exact H2_) | with_reducible exact H | (rw [hy165]; exact H) | exact H
        have Ny165 := Aside0.mk hy165
        clear hy165
        obtain ⟨y170, hy170⟩ : ∃ y_ : List (List (S78)), y_ = (([y165] : List (List (S78)))) := ⟨_, rfl⟩
        replace H : ((node_Split.f k (l0.drop 3)).bind fun t178 => (if y170.length + t178.length < 5864062014805 then (some (y170 ++ t178)) else (none))) = some r := by first | (rw [hy170]; with_reducible exact H) | (have H2_ := (Option.bind_some _ _).symm.trans H; rw [hy170]; with_reducible exact H2_) | (have H2_ := (Option.bind_some _ _).symm.trans H; with_reducible exact H2_) | with_reducible exact H | (rw [hy170]; exact H) | exact H
        have Ny170 := Aside0.mk hy170
        clear hy170
        have c7b0 := eq_true (of_decide_eq_true (by first | (with_reducible assumption) | assumption) : 3 ≤ (l0.length : Int))
        obtain ⟨y173, hy173⟩ : ∃ y_ : List (S78), y_ = (l0.drop 3) := ⟨_, rfl⟩
        replace H : ((node_Split.f k y173).bind fun t178 => (if y170.length + t178.length < 5864062014805 then (some (y170 ++ t178)) else (none))) = some r := by first | (rw [hy173]; with_reducible exact H) | (have H2_ := (Option.bind_some _ _).symm.trans H; rw [hy173]; with_reducible exact H2_) | (have H2_ := (Option.bind_some _ _).symm.trans H; with_reducible exact H2_) | with_reducible exact H | (rw [hy173]; exact H) | exact H
        have Ny173 := Aside0.mk hy173
        clear hy173
        replace H := Option.bind_eq_some_iff.mp H
        obtain ⟨t178, A80, H⟩ := H
        replace H : (if y170.length + t178.length < 5864062014805 then (some (y170 ++ t178)) else (none)) = some r := H
        have A8 := Aside0.mk A80
        clear A80
        by_cases c9 : y170.length + t178.length < 5864062014805
        · rw [if_pos c9] at H
          have LMc9 := Aside0.mk c9
          clear c9
          obtain ⟨y181, hy181⟩ : ∃ y_ : List (List (S78)), y_ = (y170 ++ t178) := ⟨_, rfl⟩
          replace H : (some y181) = some r := by first | (rw [hy181]; with_reducible exact H) | (have H2_ := (Option.bind_some _ _).symm.trans H; rw [hy181]; with_reducible exact H2_) | (have H2_ := (Option.bind_some _ _).symm.trans H; with_reducible exact H2_) | with_reducible exact H | (rw [hy181]; exact H) | exact H
          have Ny181 := Aside0.mk hy181
          clear hy181
          obtain rfl := Option.some.inj H
          go_enter Try.func38, Try.ntmps38
          try go_wp2
          have n0_ := Aside0.mk (Kd.V_drew HO0.out)
          have n1_ := Aside0.mk (below_drew1 HB.out)
          clear HO0
          clear HB
          have HO0 := n0_
          have HB := n1_
          clear n0_ n1_
          have q11 : (3 : Int) ≤ ((l0.length : Int) : Int) := of_decide_eq_true (by first | (with_reducible assumption) | assumption)
          obtain ⟨i011, hi011, _, hsz11, _⟩ := info_parts info78
          have hroom11 : l0.length ≤ c0 := (Kd.V_reads' HO0.out).2.1
          have hC11 : Kd.F k78 _ _ A0 l0.length l0 := (Kd.V_at (base := w.heap.size) HO0.out).2.2
          have hcut11 := cut_hm (P := Try.prog) 54 78 .i64 Try.underlying54 hi011 A0 l0.length c0 3 (by omega) q11 hroom11
          have hr11 := Kd.F_take (m := 3) hC11 (by omega)
          have hy11 : y165.length = (3 : Int).toNat := (by rw [Ny165.out, List.length_take]; omega)
          rw [← Ny165.out] at hr11
          rw [← hy11] at hcut11
          have HO169 := Aside0.mk (show Kd.V k78 78 _ w.heap.size _ (.slice A0 y165.length y165.length) y165 from Kd.V_mk (by omega) hr11)
          have HC169 := Aside0.mk (show y165.length ≤ y165.length from by omega)
          clear hr11 hC11 hroom11 hi011 hsz11
          have KY11 := Aside0.mk hy11
          clear hy11
          replace q11 := eq_true q11
          have q12 : (3 : Int) ≤ ((l0.length : Int) : Int) := of_decide_eq_true (by first | (with_reducible assumption) | assumption)
          obtain ⟨i012, hi012, _, hsz12, _⟩ := info_parts info78
          have hroom12 : l0.length ≤ c0 := (Kd.V_reads' HO0.out).2.1
          have hC12 : Kd.F k78 _ _ A0 l0.length l0 := (Kd.V_at (base := w.heap.size) HO0.out).2.2
          have hcut12 := cut_from (P := Try.prog) 54 78 .i64 Try.underlying54 hi012 2 hsz12 A0 l0.length c0 3 (by omega) q12
          have hr12 := Kd.F_cut (m := (3 : Int).toNat) (c := c0) hC12 (by omega) hroom12
          obtain ⟨A12, hA12⟩ : ∃ A1, A1 = (if c0 = (3 : Int).toNat then A0 else (A0 : Option Addr).map (·.add ((3 : Int).toNat * 2))) := ⟨_, rfl⟩
          obtain ⟨c12, hc12⟩ : ∃ c1, c1 = c0 - (3 : Int).toNat := ⟨_, rfl⟩
          have hy12 : y173.length = l0.length - (3 : Int).toNat := (by rw [Ny173.out, List.length_drop] <;> omega)
          rw [show (l0).drop (3 : Int).toNat = y173 from Ny173.out.symm] at hr12
          replace hr12 : Kd.F k78 _ _ A12 y173.length y173 := (by rw [hA12]; exact hr12)
          rw [← hy12, ← hA12, ← hc12] at hcut12
          have HO177 := Aside0.mk (show Kd.V k78 78 _ w.heap.size _ (.slice A12 y173.length c12) y173 from Kd.V_mk (by rw [hy12, hc12]; exact Nat.sub_le_sub_right hroom12 _) hr12)
          have HC177 := Aside0.mk (show y173.length ≤ c12 from by rw [hy12, hc12]; exact Nat.sub_le_sub_right hroom12 _)
          clear hr12 hC12 hroom12 hi012 hsz12 hc12
          have KY12 := Aside0.mk hy12
          have KA12 := Aside0.mk hA12
          clear hy12 hA12
          replace q12 := eq_true q12
          refine start_ (n := 8) (S := fun w' => True) (ds := []) #[false, false, false, false, false, false, false, false] (by kernel_rfl) rfl rfl trivial (fun hHeld => ?_); refine with_tabW node_Split.tab5 node_Split.bits5 (fun HT_ HW_ => ?_)
          generalize w.drew = w10 at HO0 HB HO169 HO177 hHeld ⊢
          refine pure_ (i := 0) (N := some 13) (v := ?_) (a' := ?_) #[true, false, false, false, false, false, false, false] rfl rfl (any_of HT_.out (by kernel_rfl)) (fun _ _ _ h => h) (Or.inl ⟨by rfl, ?_⟩) ?_ ?_
          rotate_left
          · intro w'
            go_simp
            with_reducible rfl
          rotate_left
          · simp only [Act.put, List.setIfInBounds_toArray, List.set_cons_zero, List.set_cons_succ, i64_w, i32_w]
            rfl
          refine pure_ (i := 1) (N := some 14) (v := ?_) (a' := ?_) #[true, true, false, false, false, false, false, false] rfl rfl (any_of HT_.out (by kernel_rfl)) (fun _ _ _ h => h) (Or.inl ⟨by rfl, ?_⟩) ?_ ?_
          rotate_left
          · intro w'
            go_simp
            with_reducible rfl
          rotate_left
          · simp only [Act.put, List.setIfInBounds_toArray, List.set_cons_zero, List.set_cons_succ, i64_w, i32_w]
            rfl
          refine pure_ (i := 3) (N := some 16) (v := ?_) (a' := ?_) #[true, true, false, true, false, false, false, false] rfl rfl (any_of HT_.out (by kernel_rfl)) (fun _ _ _ h => h) (Or.inl ⟨by rfl, ?_⟩) ?_ ?_
          rotate_left
          · intro w'
            go_simp
            with_reducible rfl
          rotate_left
          · simp only [Act.put, List.setIfInBounds_toArray, List.set_cons_zero, List.set_cons_succ, i64_w, i32_w]
            rfl
          refine pure_ (i := 4) (N := some 17) (v := ?_) (a' := ?_) #[true, true, false, true, true, false, false, false] rfl rfl (any_of HT_.out (by kernel_rfl)) (fun _ _ _ h => h) (Or.inl ⟨by rfl, ?_⟩) ?_ ?_
          rotate_left
          · intro w'
            go_simp
            with_reducible rfl
          rotate_left
          · simp only [Act.put, List.setIfInBounds_toArray, List.set_cons_zero, List.set_cons_succ, i64_w, i32_w]
            rfl
          refine join_ (σ := Value × Value) 2 #[true, true, true, true, true, true, false, false] (fun s_ => [(15, s_.1), (18, s_.2)]) (fun s_ w' => (Kd.V k78 78 w' w.heap.size (fun k_ => (P0_ k_ ∨ w.heap.size ≤ k_) ∧ some k_ ≠ (s_.1 : Value).ownBlock ∧ some k_ ≠ (s_.2 : Value).ownBlock) (.slice A0 l0.length c0) l0) ∧ (Kd.V k78 78 w' w.heap.size (fun k_ => (P0_ k_ ∨ w.heap.size ≤ k_) ∧ some k_ ≠ (s_.1 : Value).ownBlock ∧ some k_ ≠ (s_.2 : Value).ownBlock) (.slice A0 y165.length y165.length) y165) ∧ (Kd.N (Kd.slice 78 k78) 54 w' w.heap.size (fun k_ => (P0_ k_ ∨ w.heap.size ≤ k_) ∧ some k_ ≠ (s_.2 : Value).ownBlock) s_.1 y170) ∧ (Kd.V k78 78 w' w.heap.size (fun k_ => (P0_ k_ ∨ w.heap.size ≤ k_) ∧ some k_ ≠ (s_.1 : Value).ownBlock ∧ some k_ ≠ (s_.2 : Value).ownBlock) (.slice A12 y173.length c12) y173) ∧ (Kd.N (Kd.slice 78 k78) 54 w' w.heap.size (fun k_ => (P0_ k_ ∨ w.heap.size ≤ k_) ∧ some k_ ≠ (s_.1 : Value).ownBlock) s_.2 t178) ∧ (Below w.heap.size w w')) ?_ ?_
          rotate_left
          · intro hCont
            refine two_ (i := 2) (j := 5) (Ni := some 15) (Nj := some 18) #[true, true, true, true, true, false, false, false] #[true, true, false, true, true, true, false, false] rfl rfl rfl rfl (two_of HT_.out (by kernel_rfl)) (by decide) (by decide) (fun K hK => ?_) (fun K hK => ?_)
            · skip
              refine Kd.N_lit_step (Kd.slice 78 k78) _ 54 ?hg (N' := 15) ?hd (xs := ([y165] : List (List (S78)))) (inner := [.slice A0 y165.length y165.length]) (ok := (fun k_ => (P0_ k_ ∨ w.heap.size ≤ k_))) (okp := (fun k_ => (P0_ k_ ∨ w.heap.size ≤ k_))) ?hr ?hp (fun _ hk => hk) ((show ∀ k_, w10.heap.size ≤ k_ → (fun k_ => (P0_ k_ ∨ w.heap.size ≤ k_)) k_ from fun k_ hk => (.inr (Nat.le_trans (below_size (by repeat (first | (with_reducible first | exact HB.out | apply below_alloc | apply pw_below_drewN | apply below_drew1) | exact HB.out))) hk))) _ (Nat.le_refl _)) (Below.refl _ _) (Nat.le_refl _) (by simp) ?_; (case hd => rfl); (case hg => rfl); (case hr => first | (go_simp; done) | (go_simp; rfl)); (case hp => exact (Reps.one (show Kd.FK (Kd.slice 78 k78) _ _ y165 [.slice A0 y165.length y165.length] from (Kd.FK_slice_mk (Kd.V_reads' (Kd.V_mono (ok' := (fun k_ => (P0_ k_ ∨ w.heap.size ≤ k_))) (HO169.out) (fun k_ hk => hk))).2.1 (Kd.V_F (Kd.V_mono (ok' := (fun k_ => (P0_ k_ ∨ w.heap.size ≤ k_))) (HO169.out) (fun k_ hk => hk))))) (Reps.none _ _)))
              intro v171 w13 ho14 hb hg_ hnew_
              clear hg_ hnew_
              (first | rw [← Ny170.out] at ho14 | (simp only [Int.reduceToNat] at ho14; rw [← Ny170.out] at ho14))
              have n0_ := Aside0.mk (Kd.V_elder' (by (with_reducible repeat (first | apply Kd.V_alloc | apply Kd.V_drewN | apply Kd.V_drew)); exact HO0.out) (Kd.N_base ho14) hb)
              have n1_ := Aside0.mk (Kd.V_elder' (by (with_reducible repeat (first | apply Kd.V_alloc | apply Kd.V_drewN | apply Kd.V_drew)); exact HO169.out) (Kd.N_base ho14) hb)
              have n2_ := Aside0.mk (Kd.V_elder' (by (with_reducible repeat (first | apply Kd.V_alloc | apply Kd.V_drewN | apply Kd.V_drew)); exact HO177.out) (Kd.N_base ho14) hb)
              have n3_ := Aside0.mk (Kd.N_lower ho14 (below_size (by repeat (first | (with_reducible first | exact HB.out | apply below_alloc | apply pw_below_drewN | apply below_drew1) | exact HB.out))))
              have n4_ := Aside0.mk (below_step (by repeat (first | (with_reducible first | exact HB.out | apply below_alloc | apply pw_below_drewN | apply below_drew1) | exact HB.out)) hb)
              clear HO0
              clear HO169
              clear HO177
              clear HB
              have HO0 := n0_
              have HO169 := n1_
              have HO177 := n2_
              have HO172 := n3_
              have HB := n4_
              clear n0_ n1_ n2_ n3_ n4_
              clear hb ho14
              refine hK.out _ _ trivial (fun hHeld => ?_)
              clear hK K
              refine norm_ (a' := ?_) ?_ ?_
              rotate_left
              · show Act.put _ (some 15) _ = _
                simp only [Act.put, List.setIfInBounds_toArray, List.set_cons_zero, List.set_cons_succ, i64_w, i32_w]
                rfl
              refine one_ (i := 5) (N := some 18) #[true, true, true, true, true, true, false, false] rfl rfl (one_of HT_.out (by kernel_rfl)) (by decide) (fun K hK => ?_)
              refine goes_ Try.func38 (by kernel_rfl) rfl #[.slice A12 y173.length c12] (by rfl) rfl rfl (by (try simp only [List.map_toArray, List.map_cons, List.map_nil]); first | done | rfl | (simp only [List.length_drop, List.length_take]; rfl)) ?_
              with_reducible refine (ih k (by omega) (fun k_ => ((P0_ k_ ∨ w.heap.size ≤ k_) ∧ some k_ ≠ (v171 : Value).ownBlock)) _ _ y173 t178 _ ?side1 A8.out).mono ?_
              (case side1 => exact HO177.out)
              rintro e w15 ⟨v179, rfl, ho0, hb⟩
              refine ⟨_, rfl, ?_⟩
              have n0_ := Aside0.mk (Kd.V_elder' (by (with_reducible repeat (first | apply Kd.V_alloc | apply Kd.V_drewN | apply Kd.V_drew)); exact HO0.out) (Kd.N_base ho0) hb)
              have n1_ := Aside0.mk (Kd.V_elder' (by (with_reducible repeat (first | apply Kd.V_alloc | apply Kd.V_drewN | apply Kd.V_drew)); exact HO169.out) (Kd.N_base ho0) hb)
              have n2_ := Aside0.mk (Kd.V_elder' (by (with_reducible repeat (first | apply Kd.V_alloc | apply Kd.V_drewN | apply Kd.V_drew)); exact HO177.out) (Kd.N_base ho0) hb)
              have n3_ := Aside0.mk (Kd.N_elder' (by (with_reducible repeat (first | apply Kd.N_alloc | apply Kd.N_drewN | apply Kd.N_drew)); exact HO172.out) (Kd.N_base ho0) hb)
              have n4_ := Aside0.mk (Kd.N_lower (Kd.N_mono (ok' := fun k_ => (P0_ k_ ∨ w.heap.size ≤ k_) ∧ some k_ ≠ (v171 : Value).ownBlock) ho0 (fun k_ hk_ => ⟨Or.elim hk_ (fun hs_ => hs_.1) (fun hn_ => (.inr (Nat.le_trans (below_size (by repeat (first | (with_reducible first | exact HB.out | apply below_alloc | apply pw_below_drewN | apply below_drew1) | exact HB.out))) hn_))), Or.elim hk_ (fun hs_ => hs_.2) (fun hn_ => (Kd.fresh' (Kd.N_lt (by (with_reducible repeat (first | apply Kd.N_alloc | apply Kd.N_drewN | apply Kd.N_drew)); exact HO172.out)) k_ hn_))⟩)) (below_size (by repeat (first | (with_reducible first | exact HB.out | apply below_alloc | apply pw_below_drewN | apply below_drew1) | exact HB.out))))
              have n5_ := Aside0.mk (below_step (by repeat (first | (with_reducible first | exact HB.out | apply below_alloc | apply pw_below_drewN | apply below_drew1) | exact HB.out)) hb)
              clear HO0
              clear HO169
              clear HO177
              clear HO172
              clear HB
              have HO0 := n0_
              have HO169 := n1_
              have HO177 := n2_
              have HO172 := n3_
              have HO180 := n4_
              have HB := n5_
              clear n0_ n1_ n2_ n3_ n4_ n5_
              (try clear hb)
              (try clear hb2)
              (try clear hk)
              (try clear hi)
              (try clear ho0)
              refine hK.out _ _ trivial (fun hHeld => ?_)
              clear hK K
              refine norm_ (a' := ?_) ?_ ?_
              rotate_left
              · show Act.put _ (some 18) _ = _
                simp only [Act.put, List.setIfInBounds_toArray, List.set_cons_zero, List.set_cons_succ, i64_w, i32_w]
                rfl
              exact norm_ (by simp only [putAll, Act.put, List.setIfInBounds_toArray, List.set_cons_zero, List.set_cons_succ]) (hCont (v171, v179) _ ⟨(by (with_reducible repeat (first | apply Kd.V_alloc | apply Kd.V_drewN | apply Kd.V_drew)); exact Kd.V_mono HO0.out (fun _ hk => ⟨hk.1.1, ⟨hk.1.2, hk.2⟩⟩)), (by (with_reducible repeat (first | apply Kd.V_alloc | apply Kd.V_drewN | apply Kd.V_drew)); exact Kd.V_mono HO169.out (fun _ hk => ⟨hk.1.1, ⟨hk.1.2, hk.2⟩⟩)), (by (with_reducible repeat (first | apply Kd.N_alloc | apply Kd.N_drewN | apply Kd.N_drew)); exact HO172.out), (by (with_reducible repeat (first | apply Kd.V_alloc | apply Kd.V_drewN | apply Kd.V_drew)); exact Kd.V_mono HO177.out (fun _ hk => ⟨hk.1.1, ⟨hk.1.2, hk.2⟩⟩)), (by (with_reducible repeat (first | apply Kd.N_alloc | apply Kd.N_drewN | apply Kd.N_drew)); exact HO180.out), (by repeat (first | (with_reducible first | exact HB.out | apply below_alloc | apply pw_below_drewN | apply below_drew1) | exact HB.out))⟩)
            · skip
              refine goes_ Try.func38 (by kernel_rfl) rfl #[.slice A12 y173.length c12] (by rfl) rfl rfl (by (try simp only [List.map_toArray, List.map_cons, List.map_nil]); first | done | rfl | (simp only [List.length_drop, List.length_take]; rfl)) ?_
              with_reducible refine (ih k (by omega) (fun k_ => (P0_ k_ ∨ w.heap.size ≤ k_)) _ _ y173 t178 _ ?side1 A8.out).mono ?_
              (case side1 => exact HO177.out)
              rintro e w13 ⟨v179, rfl, ho0, hb⟩
              refine ⟨_, rfl, ?_⟩
              have n0_ := Aside0.mk (Kd.V_elder' (by (with_reducible repeat (first | apply Kd.V_alloc | apply Kd.V_drewN | apply Kd.V_drew)); exact HO0.out) (Kd.N_base ho0) hb)
              have n1_ := Aside0.mk (Kd.V_elder' (by (with_reducible repeat (first | apply Kd.V_alloc | apply Kd.V_drewN | apply Kd.V_drew)); exact HO169.out) (Kd.N_base ho0) hb)
              have n2_ := Aside0.mk (Kd.V_elder' (by (with_reducible repeat (first | apply Kd.V_alloc | apply Kd.V_drewN | apply Kd.V_drew)); exact HO177.out) (Kd.N_base ho0) hb)
              have n3_ := Aside0.mk (Kd.N_lower (Kd.N_mono (ok' := fun k_ => (P0_ k_ ∨ w.heap.size ≤ k_)) ho0 (fun k_ hk_ => Or.elim hk_ (fun hs_ => hs_) (fun hn_ => (.inr (Nat.le_trans (below_size (by repeat (first | (with_reducible first | exact HB.out | apply below_alloc | apply pw_below_drewN | apply below_drew1) | exact HB.out))) hn_))))) (below_size (by repeat (first | (with_reducible first | exact HB.out | apply below_alloc | apply pw_below_drewN | apply below_drew1) | exact HB.out))))
              have n4_ := Aside0.mk (below_step (by repeat (first | (with_reducible first | exact HB.out | apply below_alloc | apply pw_below_drewN | apply below_drew1) | exact HB.out)) hb)
              clear HO0
              clear HO169
              clear HO177
              clear HB
              have HO0 := n0_
              have HO169 := n1_
              have HO177 := n2_
              have HO180 := n3_
              have HB := n4_
              clear n0_ n1_ n2_ n3_ n4_
              (try clear hb)
              (try clear hb2)
              (try clear hk)
              (try clear hi)
              (try clear ho0)
              refine hK.out _ _ trivial (fun hHeld => ?_)
              clear hK K
              refine norm_ (a' := ?_) ?_ ?_
              rotate_left
              · show Act.put _ (some 18) _ = _
                simp only [Act.put, List.setIfInBounds_toArray, List.set_cons_zero, List.set_cons_succ, i64_w, i32_w]
                rfl
              refine one_ (i := 2) (N := some 15) #[true, true, true, true, true, true, false, false] rfl rfl (one_of HT_.out (by kernel_rfl)) (by decide) (fun K hK => ?_)
              refine Kd.N_lit_step (Kd.slice 78 k78) _ 54 ?hg (N' := 15) ?hd (xs := ([y165] : List (List (S78)))) (inner := [.slice A0 y165.length y165.length]) (ok := (fun k_ => (P0_ k_ ∨ w.heap.size ≤ k_) ∧ some k_ ≠ (v179 : Value).ownBlock)) (okp := (fun k_ => (P0_ k_ ∨ w.heap.size ≤ k_) ∧ some k_ ≠ (v179 : Value).ownBlock)) ?hr ?hp (fun _ hk => hk) ((show ∀ k_, w13.heap.size ≤ k_ → (fun k_ => (P0_ k_ ∨ w.heap.size ≤ k_) ∧ some k_ ≠ (v179 : Value).ownBlock) k_ from fun k_ hk => ⟨(.inr (Nat.le_trans (below_size (by repeat (first | (with_reducible first | exact HB.out | apply below_alloc | apply pw_below_drewN | apply below_drew1) | exact HB.out))) hk)), Kd.fresh' (Kd.N_lt (by (with_reducible repeat (first | apply Kd.N_alloc | apply Kd.N_drewN | apply Kd.N_drew)); exact HO180.out)) k_ hk⟩) _ (Nat.le_refl _)) (Below.refl _ _) (Nat.le_refl _) (by simp) ?_; (case hd => rfl); (case hg => rfl); (case hr => first | (go_simp; done) | (go_simp; rfl)); (case hp => exact (Reps.one (show Kd.FK (Kd.slice 78 k78) _ _ y165 [.slice A0 y165.length y165.length] from (Kd.FK_slice_mk (Kd.V_reads' (Kd.V_mono (ok' := (fun k_ => (P0_ k_ ∨ w.heap.size ≤ k_) ∧ some k_ ≠ (v179 : Value).ownBlock)) (HO169.out) (fun k_ hk => ⟨hk.1, hk.2⟩))).2.1 (Kd.V_F (Kd.V_mono (ok' := (fun k_ => (P0_ k_ ∨ w.heap.size ≤ k_) ∧ some k_ ≠ (v179 : Value).ownBlock)) (HO169.out) (fun k_ hk => ⟨hk.1, hk.2⟩))))) (Reps.none _ _)))
              intro v171 w14 ho15 hb hg_ hnew_
              clear hg_ hnew_
              (first | rw [← Ny170.out] at ho15 | (simp only [Int.reduceToNat] at ho15; rw [← Ny170.out] at ho15))
              have n0_ := Aside0.mk (Kd.V_elder' (by (with_reducible repeat (first | apply Kd.V_alloc | apply Kd.V_drewN | apply Kd.V_drew)); exact HO0.out) (Kd.N_base ho15) hb)
              have n1_ := Aside0.mk (Kd.V_elder' (by (with_reducible repeat (first | apply Kd.V_alloc | apply Kd.V_drewN | apply Kd.V_drew)); exact HO169.out) (Kd.N_base ho15) hb)
              have n2_ := Aside0.mk (Kd.V_elder' (by (with_reducible repeat (first | apply Kd.V_alloc | apply Kd.V_drewN | apply Kd.V_drew)); exact HO177.out) (Kd.N_base ho15) hb)
              have n3_ := Aside0.mk (Kd.N_elder' (by (with_reducible repeat (first | apply Kd.N_alloc | apply Kd.N_drewN | apply Kd.N_drew)); exact HO180.out) (Kd.N_base ho15) hb)
              have n4_ := Aside0.mk (Kd.N_lower ho15 (below_size (by repeat (first | (with_reducible first | exact HB.out | apply below_alloc | apply pw_below_drewN | apply below_drew1) | exact HB.out))))
              have n5_ := Aside0.mk (below_step (by repeat (first | (with_reducible first | exact HB.out | apply below_alloc | apply pw_below_drewN | apply below_drew1) | exact HB.out)) hb)
              clear HO0
              clear HO169
              clear HO177
              clear HO180
              clear HB
              have HO0 := n0_
              have HO169 := n1_
              have HO177 := n2_
              have HO180 := n3_
              have HO172 := n4_
              have HB := n5_
              clear n0_ n1_ n2_ n3_ n4_ n5_
              clear hb ho15
              refine hK.out _ _ trivial (fun hHeld => ?_)
              clear hK K
              refine norm_ (a' := ?_) ?_ ?_
              rotate_left
              · show Act.put _ (some 15) _ = _
                simp only [Act.put, List.setIfInBounds_toArray, List.set_cons_zero, List.set_cons_succ, i64_w, i32_w]
                rfl
              exact norm_ (by simp only [putAll, Act.put, List.setIfInBounds_toArray, List.set_cons_zero, List.set_cons_succ]) (hCont (v171, v179) _ ⟨(by (with_reducible repeat (first | apply Kd.V_alloc | apply Kd.V_drewN | apply Kd.V_drew)); exact Kd.V_mono HO0.out (fun _ hk => ⟨hk.1.1, ⟨hk.2, hk.1.2⟩⟩)), (by (with_reducible repeat (first | apply Kd.V_alloc | apply Kd.V_drewN | apply Kd.V_drew)); exact Kd.V_mono HO169.out (fun _ hk => ⟨hk.1.1, ⟨hk.2, hk.1.2⟩⟩)), (by (with_reducible repeat (first | apply Kd.N_alloc | apply Kd.N_drewN | apply Kd.N_drew)); exact HO172.out), (by (with_reducible repeat (first | apply Kd.V_alloc | apply Kd.V_drewN | apply Kd.V_drew)); exact Kd.V_mono HO177.out (fun _ hk => ⟨hk.1.1, ⟨hk.2, hk.1.2⟩⟩)), (by (with_reducible repeat (first | apply Kd.N_alloc | apply Kd.N_drewN | apply Kd.N_drew)); exact HO180.out), (by repeat (first | (with_reducible first | exact HB.out | apply below_alloc | apply pw_below_drewN | apply below_drew1) | exact HB.out))⟩)
          rintro ⟨v171, v179⟩ w16 ⟨h0_, h1_, h2_, h3_, h4_, h5_⟩
          have n0_ : Aside0 (Kd.V k78 78 w16 w.heap.size (fun k_ => (P0_ k_ ∨ w.heap.size ≤ k_) ∧ some k_ ≠ (v171 : Value).ownBlock ∧ some k_ ≠ (v179 : Value).ownBlock) (.slice A0 l0.length c0) l0) := ⟨h0_⟩
          have n1_ : Aside0 (Kd.V k78 78 w16 w.heap.size (fun k_ => (P0_ k_ ∨ w.heap.size ≤ k_) ∧ some k_ ≠ (v171 : Value).ownBlock ∧ some k_ ≠ (v179 : Value).ownBlock) (.slice A0 y165.length y165.length) y165) := ⟨h1_⟩
          have n2_ : Aside0 (Kd.N (Kd.slice 78 k78) 54 w16 w.heap.size (fun k_ => (P0_ k_ ∨ w.heap.size ≤ k_) ∧ some k_ ≠ (v179 : Value).ownBlock) v171 y170) := ⟨h2_⟩
          have n3_ : Aside0 (Kd.V k78 78 w16 w.heap.size (fun k_ => (P0_ k_ ∨ w.heap.size ≤ k_) ∧ some k_ ≠ (v171 : Value).ownBlock ∧ some k_ ≠ (v179 : Value).ownBlock) (.slice A12 y173.length c12) y173) := ⟨h3_⟩
          have n4_ : Aside0 (Kd.N (Kd.slice 78 k78) 54 w16 w.heap.size (fun k_ => (P0_ k_ ∨ w.heap.size ≤ k_) ∧ some k_ ≠ (v171 : Value).ownBlock) v179 t178) := ⟨h4_⟩
          have n5_ : Aside0 (Below w.heap.size w w16) := ⟨h5_⟩
          clear HO0
          clear HB
          clear h0_ h1_ h2_ h3_ h4_ h5_
          have HO0 := n0_
          have HO169 := n1_
          have HO172 := n2_
          have HO177 := n3_
          have HO180 := n4_
          have HB := n5_
          clear n0_ n1_ n2_ n3_ n4_ n5_
          have hHeld := trivial
          obtain ⟨Ao18, co18, eo18⟩ := Kd.N_slice HO180.out
          (first | subst eo18 | (injection eo18 with f1_ f2_ f3_; have f4_ := f1_.symm; have f5_ := f3_.symm; clear f1_ f2_ f3_; subst f4_; subst f5_))
          refine norm_ (a' := ?_) ?_ ?_
          rotate_left
          · simp only [putAll, Act.put, List.setIfInBounds_toArray, List.set_cons_zero, List.set_cons_succ]
            rfl
          refine one_ (i := 6) (N := some 19) #[true, true, true, true, true, true, true, false] rfl rfl (one_of HT_.out (by kernel_rfl)) (by decide) (fun K hK => ?_)
          refine Kd.N_append_rows_step (Kd.slice 78 k78) (w0 := w) w.heap.size (by rfl) (.tmp 15) (.tmp 18) 71 54 (.slice none 0 0) 24 rfl Try.underlying71 info54 rfl (by decide) (by omega) v171 y170 t178 _ _ _ (fun k_ => (P0_ k_ ∨ w.heap.size ≤ k_)) (fun k_ => ((fun k_ => (P0_ k_ ∨ w.heap.size ≤ k_))) k_ ∧ some k_ ≠ (v171 : Value).ownBlock) rfl rfl ?aO ?aR (fun _ hk => hk) ?aF ?aB ?aS ?aL ?_
          (case aR => exact (by skip; exact Kd.N_F (Kd.N_mono (ok' := (fun k_ => ((fun k_ => (P0_ k_ ∨ w.heap.size ≤ k_))) k_ ∧ some k_ ≠ (v171 : Value).ownBlock)) (HO180.out) (fun k_ hk => ⟨hk.1, hk.2⟩))))
          (case aB => exact (by repeat (first | (with_reducible first | exact HB.out | apply below_alloc | apply pw_below_drewN | apply below_drew1) | exact HB.out)))
          (case aF => exact (fun k_ hk => (.inr (Nat.le_trans (below_size (by repeat (first | (with_reducible first | exact HB.out | apply below_alloc | apply pw_below_drewN | apply below_drew1) | exact HB.out))) hk))))
          (case aO => exact (by (with_reducible repeat (first | apply Kd.N_alloc | apply Kd.N_drewN | apply Kd.N_drew)); exact Kd.N_mono HO172.out (fun _ hk => hk.1)))
          (case aS => exact (below_size (by repeat (first | (with_reducible first | exact HB.out | apply below_alloc | apply pw_below_drewN | apply below_drew1) | exact HB.out))))
          (case aL => have := LMc9.out; omega)
          intro v182 w17 ho hb hg hat
          rw [← Ny181.out] at ho
          have n0_ := Aside0.mk (Kd.V_afterv (ok := (fun k_ => (P0_ k_ ∨ w.heap.size ≤ k_) ∧ some k_ ≠ (.slice Ao18 t178.length co18 : Value).ownBlock)) (by (with_reducible repeat (first | apply Kd.V_alloc | apply Kd.V_drewN | apply Kd.V_drew)); exact Kd.V_mono HO0.out (fun _ hk => ⟨⟨hk.1, hk.2.2⟩, hk.2.1⟩)) hg hat)
          have n1_ := Aside0.mk (Kd.V_afterv (ok := (fun k_ => (P0_ k_ ∨ w.heap.size ≤ k_) ∧ some k_ ≠ (.slice Ao18 t178.length co18 : Value).ownBlock)) (by (with_reducible repeat (first | apply Kd.V_alloc | apply Kd.V_drewN | apply Kd.V_drew)); exact Kd.V_mono HO169.out (fun _ hk => ⟨⟨hk.1, hk.2.2⟩, hk.2.1⟩)) hg hat)
          have n2_ := Aside0.mk (Kd.V_afterv (ok := (fun k_ => (P0_ k_ ∨ w.heap.size ≤ k_) ∧ some k_ ≠ (.slice Ao18 t178.length co18 : Value).ownBlock)) (by (with_reducible repeat (first | apply Kd.V_alloc | apply Kd.V_drewN | apply Kd.V_drew)); exact Kd.V_mono HO177.out (fun _ hk => ⟨⟨hk.1, hk.2.2⟩, hk.2.1⟩)) hg hat)
          have n3_ := Aside0.mk (Kd.N_afterv (ok := (fun k_ => (P0_ k_ ∨ w.heap.size ≤ k_))) (by (with_reducible repeat (first | apply Kd.N_alloc | apply Kd.N_drewN | apply Kd.N_drew)); exact HO180.out) hg hat)
          have n4_ := Aside0.mk (hb)
          have n5_ := Aside0.mk (ho)
          clear HO0
          clear HO169
          clear HO177
          clear HO180
          clear HB
          clear HO172
          have HO0 := n0_
          have HO169 := n1_
          have HO177 := n2_
          have HO180 := n3_
          have HB := n4_
          have HO183 := n5_
          clear n0_ n1_ n2_ n3_ n4_ n5_
          clear ho hb hg hat
          refine hK.out _ _ trivial (fun hHeld => ?_)
          clear hK K
          refine norm_ (a' := ?_) ?_ ?_
          rotate_left
          · show Act.put _ (some 19) _ = _
            simp only [Act.put, List.setIfInBounds_toArray, List.set_cons_zero, List.set_cons_succ, i64_w, i32_w]
            rfl
          refine pure_ (i := 7) (N := some 2) (v := ?_) (a' := ?_) #[true, true, true, true, true, true, true, true] rfl rfl (any_of HT_.out (by kernel_rfl)) (fun _ _ _ h => h) (Or.inl ⟨by rfl, ?_⟩) ?_ ?_
          rotate_left
          · intro w'
            go_simp
            with_reducible rfl
          rotate_left
          · simp only [Act.put, List.setIfInBounds_toArray, List.set_cons_zero, List.set_cons_succ, i64_w, i32_w]
            rfl
          refine done_ (done_of HT_.out (by kernel_rfl)) ?_
          try go_wp2
          go_ret
          exact ⟨_, by first | rfl | (simp [errW_none, errW_some] <;> rfl) | (simp [*, errW_none, errW_some] <;> rfl), by (with_reducible repeat (first | apply Kd.N_alloc | apply Kd.N_drewN | apply Kd.N_drew)); exact HO183.out, by repeat (first | (with_reducible first | exact HB.out | apply below_alloc | apply pw_below_drewN | apply below_drew1) | exact HB.out)⟩
        · rw [if_neg c9] at H
          exact absurd H (by simp)
      · rw [if_neg c6] at H
        exact absurd H (by simp)

end Go.Proofs.Ythjnkapkhphpeaa.P
end
section
/- node.With: items with others instead of some (drafted by xprint.py, mended by mend.py). -/
namespace Go.Proofs.Ythjnkapkhphpeaa.P
open Go.RowKit Go.Proofs.YthjnkapkhphpeaaW.PrintWords Go.Proofs.YthjnkapkhphpeaaW.PrintLast Go.Proofs.YthjnkapkhphpeaaW.PrintMore
attribute [local go_sem] max2_int min2_int max_two min_two max_three min_three max_four min_four
set_option linter.unusedVariables false
set_option linter.unusedSimpArgs false

/-! ### node_With: function 41 -/
def node_With.f (l0 : List (S78)) (a1 : Int) (a2 : Int) (l3 : List (S78)) : Option ((List (S78))) := if 0 ≤ a1 then (if a1 ≤ (l0.length : Int) then (if 0 ≤ (wrap64 (a1 + a2)) then (if (wrap64 (a1 + a2)) ≤ (l0.length : Int) then ((api_Item_59.f (([(l0.take (a1 : Int).toNat), l3, (l0.drop ((wrap64 (a1 + a2)) : Int).toNat)] : List (List (S78))))).bind fun t197 => (some t197)) else (none)) else (none)) else (none)) else (none)
def node_With.T1 : Bool × List (List Nat × List Nat) := (true, [([], []), ([], []), ([], []), ([0, 1, 2], [0, 1, 2]), ([], []), ([], []), ([], []), ([], []), ([6, 7], [6, 7]), ([5, 8], [5, 8]), ([3, 4, 9], [3, 4, 9]), ([10], [10]), ([11, 11, 0, 1, 2, 3, 4, 5, 6, 7, 8, 9, 10, 11], [11])])
def node_With.B1 : List Nat := [0, 0, 0, 7, 0, 0, 0, 0, 192, 480, 1023, 2047, 4095]
theorem node_With.tab1 : rtab .any (opsOf Try.f41 1) = node_With.T1 := by kernel_rfl
theorem node_With.bits1 : waitsOk node_With.T1.2 node_With.B1 = true := by kernel_rfl
set_option maxHeartbeats 8000000 in
set_option maxRecDepth 100000 in
theorem node_With.calls (P0_ : Nat → Prop) (A0 : Option Addr) (c0 : Nat) (l0 : List (S78)) (a1 : Int) (a2 : Int) (P3_ : Nat → Prop) (A3 : Option Addr) (c3 : Nat) (l3 : List (S78)) (r : List (S78)) (w : World) (hs0 : Kd.V k78 78 w w.heap.size (fun k_ => P0_ k_) (.slice A0 l0.length c0) l0) (hs3 : Kd.V k78 78 w w.heap.size (fun k_ => P3_ k_) (.slice A3 l3.length c3) l3) (h : node_With.f l0 a1 a2 l3 = some r) :
    Calls Try.prog 41 #[.slice A0 l0.length c0, .int .i64 a1, .int .i64 a2, .slice A3 l3.length c3] w fun e w' => ∃ v0_ : Value, e = .returned (v0_) ∧ Kd.R k78 78 w' w.heap.size (fun k_ => (w.heap.size ≤ k_)) v0_ r ∧ Below w.heap.size w w' := by
  have HO0 := Aside0.mk (show Kd.V k78 78 w w.heap.size (fun k_ => ((P0_ k_ ∨ P3_ k_) ∨ w.heap.size ≤ k_)) (.slice A0 l0.length c0) l0 from Kd.V_mono hs0 (fun k_ hk => .inl (.inl hk)))
  have HO3 := Aside0.mk (show Kd.V k78 78 w w.heap.size (fun k_ => ((P0_ k_ ∨ P3_ k_) ∨ w.heap.size ≤ k_)) (.slice A3 l3.length c3) l3 from Kd.V_mono hs3 (fun k_ hk => .inl (.inr hk)))
  have HB := Aside0.mk (Below.refl w.heap.size w)
  have H : (if 0 ≤ a1 then (if a1 ≤ (l0.length : Int) then (if 0 ≤ (wrap64 (a1 + a2)) then (if (wrap64 (a1 + a2)) ≤ (l0.length : Int) then ((api_Item_59.f (([(l0.take (a1 : Int).toNat), l3, (l0.drop ((wrap64 (a1 + a2)) : Int).toNat)] : List (List (S78))))).bind fun t197 => (some t197)) else (none)) else (none)) else (none)) else (none)) = some r := h
  clear h
  by_cases c5 : 0 ≤ a1
  · rw [if_pos c5] at H
    have c5b0 := eq_true c5
    have c5b1 : decide (0 ≤ a1) = true := decide_eq_true c5
    clear c5
    by_cases c6 : a1 ≤ (l0.length : Int)
    · rw [if_pos c6] at H
      have c6b0 := eq_true c6
      have c6b1 : decide (a1 ≤ (l0.length : Int)) = true := decide_eq_true c6
      clear c6
      obtain ⟨y184, hy184⟩ : ∃ y_ : List (S78), y_ = (l0.take (a1 : Int).toNat) := ⟨_, rfl⟩
      replace H : (if 0 ≤ (wrap64 (a1 + a2)) then (if (wrap64 (a1 + a2)) ≤ (l0.length : Int) then ((api_Item_59.f (([y184, l3, (l0.drop ((wrap64 (a1 + a2)) : Int).toNat)] : List (List (S78))))).bind fun t197 => (some t197)) else (none)) else (none)) = some r := by first | (rw [hy184]; with_reducible exact H) | (have H2_ := (Option.bind_some _ _).symm.trans H; rw [hy184]; with_reducible exact H2_) | (have H2_ := (Option.bind_some _ _).symm.trans H; with_reducible exact H2_) | with_reducible exact H | (rw [hy184]; exact H) | exact H
      have Ny184 := Aside0.mk hy184
      clear hy184
      obtain ⟨ji7, hji7⟩ : ∃ j_ : Int, (wrap64 (a1 + a2)) = j_ := ⟨_, rfl⟩
      replace H : (if 0 ≤ (ji7) then (if (ji7) ≤ (l0.length : Int) then ((api_Item_59.f (([y184, l3, (l0.drop ((ji7) : Int).toNat)] : List (List (S78))))).bind fun t197 => (some t197)) else (none)) else (none)) = some r := by first | (rw [hji7] at H; exact H) | (simp only [hji7] at H ⊢; exact H)
      have hji7w : (IntKind.i64.wrap (a1 + a2)) = ji7 := (i64_w _).trans hji7
      by_cases c8 : 0 ≤ (ji7)
      · rw [if_pos c8] at H
        have c8b0 := eq_true c8
        have c8b1 : decide (0 ≤ (ji7)) = true := decide_eq_true c8
        clear c8
        by_cases c9 : (ji7) ≤ (l0.length : Int)
        · rw [if_pos c9] at H
          have c9b0 := eq_true c9
          have c9b1 : decide ((ji7) ≤ (l0.length : Int)) = true := decide_eq_true c9
          clear c9
          obtain ⟨y189, hy189⟩ : ∃ y_ : List (S78), y_ = (l0.drop ((ji7) : Int).toNat) := ⟨_, rfl⟩
          replace H : ((api_Item_59.f (([y184, l3, y189] : List (List (S78))))).bind fun t197 => (some t197)) = some r := by first | (rw [hy189]; with_reducible exact H) | (have H2_ := (Option.bind_some _ _).symm.trans H; rw [hy189]; with_reducible exact H2_) | (have H2_ := (Option.bind_some _ _).symm.trans H; with_reducible exact H2_) | with_reducible exact H | (rw [hy189]; exact H) | exact H
          have Ny189 := Aside0.mk hy189
          clear hy189
          obtain ⟨y194, hy194⟩ : ∃ y_ : List (List (S78)), y_ = (([y184, l3, y189] : List (List (S78)))) := ⟨_, rfl⟩
          replace H : ((api_Item_59.f y194).bind fun t197 => (some t197)) = some r := by first | (rw [hy194]; with_reducible exact H) | (have H2_ := (Option.bind_some _ _).symm.trans H; rw [hy194]; with_reducible exact H2_) | (have H2_ := (Option.bind_some _ _).symm.trans H; with_reducible exact H2_) | with_reducible exact H | (rw [hy194]; exact H) | exact H
          have Ny194 := Aside0.mk hy194
          clear hy194
          replace H := Option.bind_eq_some_iff.mp H
          obtain ⟨t197, A100, H⟩ := H
          replace H : (some t197) = some r := H
          have A10 := Aside0.mk A100
          clear A100
          obtain rfl := Option.some.inj H
          go_enter Try.func41, Try.ntmps41
          try go_wp2
          have n0_ := Aside0.mk (Kd.V_drew HO0.out)
          have n1_ := Aside0.mk (Kd.V_drew HO3.out)
          have n2_ := Aside0.mk (below_drew1 HB.out)
          clear HO0
          clear HO3
          clear HB
          have HO0 := n0_
          have HO3 := n1_
          have HB := n2_
          clear n0_ n1_ n2_
          have q12 : (a1 : Int) ≤ ((l0.length : Int) : Int) := of_decide_eq_true (by first | (with_reducible assumption) | assumption)
          obtain ⟨i012, hi012, _, hsz12, _⟩ := info_parts info78
          have hroom12 : l0.length ≤ c0 := (Kd.V_reads' HO0.out).2.1
          have hC12 : Kd.F k78 _ _ A0 l0.length l0 := (Kd.V_at (base := w.heap.size) HO0.out).2.2
          have hcut12 := cut_hm (P := Try.prog) 54 78 .i64 Try.underlying54 hi012 A0 l0.length c0 a1 (of_decide_eq_true (by first | (with_reducible assumption) | assumption)) q12 hroom12
          have hr12 := Kd.F_take (m := (a1 : Int).toNat) hC12 (by omega)
          have hy12 : y184.length = (a1 : Int).toNat := (by rw [Ny184.out, List.length_take]; omega)
          rw [← Ny184.out] at hr12
          rw [← hy12] at hcut12
          have HO188 := Aside0.mk (show Kd.V k78 78 _ w.heap.size _ (.slice A0 y184.length y184.length) y184 from Kd.V_mk (by omega) hr12)
          have HC188 := Aside0.mk (show y184.length ≤ y184.length from by omega)
          clear hr12 hC12 hroom12 hi012 hsz12
          have KY12 := Aside0.mk hy12
          clear hy12
          replace q12 := eq_true q12
          have q13 : ((ji7) : Int) ≤ ((l0.length : Int) : Int) := of_decide_eq_true (by first | (with_reducible assumption) | assumption)
          obtain ⟨i013, hi013, _, hsz13, _⟩ := info_parts info78
          have hroom13 : l0.length ≤ c0 := (Kd.V_reads' HO0.out).2.1
          have hC13 : Kd.F k78 _ _ A0 l0.length l0 := (Kd.V_at (base := w.heap.size) HO0.out).2.2
          have q013 : (0 : Int) ≤ ((ji7) : Int) := of_decide_eq_true (by first | (with_reducible assumption) | assumption)
          have hcut13 := cut_from (P := Try.prog) 54 78 .i64 Try.underlying54 hi013 2 hsz13 A0 l0.length c0 (ji7) q013 q13
          have hr13 := Kd.F_cut (m := ((ji7) : Int).toNat) (c := c0) hC13 (by omega) hroom13
          obtain ⟨A13, hA13⟩ : ∃ A1, A1 = (if c0 = ((ji7) : Int).toNat then A0 else (A0 : Option Addr).map (·.add (((ji7) : Int).toNat * 2))) := ⟨_, rfl⟩
          obtain ⟨c13, hc13⟩ : ∃ c1, c1 = c0 - ((ji7) : Int).toNat := ⟨_, rfl⟩
          have hy13 : y189.length = l0.length - ((ji7) : Int).toNat := (by rw [Ny189.out, List.length_drop] <;> omega)
          rw [show (l0).drop ((ji7) : Int).toNat = y189 from Ny189.out.symm] at hr13
          replace hr13 : Kd.F k78 _ _ A13 y189.length y189 := (by rw [hA13]; exact hr13)
          rw [← hy13, ← hA13, ← hc13] at hcut13
          have HO193 := Aside0.mk (show Kd.V k78 78 _ w.heap.size _ (.slice A13 y189.length c13) y189 from Kd.V_mk (by rw [hy13, hc13]; exact Nat.sub_le_sub_right hroom13 _) hr13)
          have HC193 := Aside0.mk (show y189.length ≤ c13 from by rw [hy13, hc13]; exact Nat.sub_le_sub_right hroom13 _)
          clear hr13 hC13 hroom13 hi013 hsz13 hc13
          have KY13 := Aside0.mk hy13
          have KA13 := Aside0.mk hA13
          clear hy13 hA13
          replace q13 := eq_true q13
          refine start_ (n := 13) (S := fun w' => True) (ds := []) #[false, false, false, false, false, false, false, false, false, false, false, false, false] (by kernel_rfl) rfl rfl trivial (fun hHeld => ?_); refine with_tabW node_With.tab1 node_With.bits1 (fun HT_ HW_ => ?_)
          generalize w.drew = w11 at HO0 HO3 HB HO188 HO193 hHeld ⊢
          refine pure_ (i := 0) (N := some 9) (v := ?_) (a' := ?_) #[true, false, false, false, false, false, false, false, false, false, false, false, false] rfl rfl (any_of HT_.out (by kernel_rfl)) (fun _ _ _ h => h) (Or.inl ⟨by rfl, ?_⟩) ?_ ?_
          rotate_left
          · intro w'
            go_simp
            with_reducible rfl
          rotate_left
          · simp only [Act.put, List.setIfInBounds_toArray, List.set_cons_zero, List.set_cons_succ, i64_w, i32_w]
            rfl
          refine pure_ (i := 1) (N := some 10) (v := ?_) (a' := ?_) #[true, true, false, false, false, false, false, false, false, false, false, false, false] rfl rfl (any_of HT_.out (by kernel_rfl)) (fun _ _ _ h => h) (Or.inl ⟨by rfl, ?_⟩) ?_ ?_
          rotate_left
          · intro w'
            go_simp
            with_reducible rfl
          rotate_left
          · simp only [Act.put, List.setIfInBounds_toArray, List.set_cons_zero, List.set_cons_succ, i64_w, i32_w]
            rfl
          refine pure_ (i := 2) (N := some 11) (v := ?_) (a' := ?_) #[true, true, true, false, false, false, false, false, false, false, false, false, false] rfl rfl (any_of HT_.out (by kernel_rfl)) (fun _ _ _ h => h) (Or.inl ⟨by rfl, ?_⟩) ?_ ?_
          rotate_left
          · intro w'
            go_simp
            with_reducible rfl
          rotate_left
          · simp only [Act.put, List.setIfInBounds_toArray, List.set_cons_zero, List.set_cons_succ, i64_w, i32_w]
            rfl
          refine pure_ (i := 3) (N := some 12) (v := ?_) (a' := ?_) #[true, true, true, true, false, false, false, false, false, false, false, false, false] rfl rfl (any_of HT_.out (by kernel_rfl)) (fun _ _ _ h => h) (Or.inl ⟨by rfl, ?_⟩) ?_ ?_
          rotate_left
          · intro w'
            go_simp
            with_reducible rfl
          rotate_left
          · simp only [Act.put, List.setIfInBounds_toArray, List.set_cons_zero, List.set_cons_succ, i64_w, i32_w]
            rfl
          refine pure_ (i := 4) (N := some 13) (v := ?_) (a' := ?_) #[true, true, true, true, true, false, false, false, false, false, false, false, false] rfl rfl (any_of HT_.out (by kernel_rfl)) (fun _ _ _ h => h) (Or.inl ⟨by rfl, ?_⟩) ?_ ?_
          rotate_left
          · intro w'
            go_simp
            with_reducible rfl
          rotate_left
          · simp only [Act.put, List.setIfInBounds_toArray, List.set_cons_zero, List.set_cons_succ, i64_w, i32_w]
            rfl
          refine pure_ (i := 5) (N := some 14) (v := ?_) (a' := ?_) #[true, true, true, true, true, true, false, false, false, false, false, false, false] rfl rfl (any_of HT_.out (by kernel_rfl)) (fun _ _ _ h => h) (Or.inl ⟨by rfl, ?_⟩) ?_ ?_
          rotate_left
          · intro w'
            go_simp
            with_reducible rfl
          rotate_left
          · simp only [Act.put, List.setIfInBounds_toArray, List.set_cons_zero, List.set_cons_succ, i64_w, i32_w]
            rfl
          refine pure_ (i := 6) (N := some 15) (v := ?_) (a' := ?_) #[true, true, true, true, true, true, true, false, false, false, false, false, false] rfl rfl (any_of HT_.out (by kernel_rfl)) (fun _ _ _ h => h) (Or.inl ⟨by rfl, ?_⟩) ?_ ?_
          rotate_left
          · intro w'
            go_simp
            with_reducible rfl
          rotate_left
          · simp only [Act.put, List.setIfInBounds_toArray, List.set_cons_zero, List.set_cons_succ, i64_w, i32_w]
            rfl
          refine pure_ (i := 7) (N := some 16) (v := ?_) (a' := ?_) #[true, true, true, true, true, true, true, true, false, false, false, false, false] rfl rfl (any_of HT_.out (by kernel_rfl)) (fun _ _ _ h => h) (Or.inl ⟨by rfl, ?_⟩) ?_ ?_
          rotate_left
          · intro w'
            go_simp
            with_reducible rfl
          rotate_left
          · simp only [Act.put, List.setIfInBounds_toArray, List.set_cons_zero, List.set_cons_succ, i64_w, i32_w]
            rfl
          refine pure_ (i := 8) (N := some 17) (v := ?_) (a' := ?_) #[true, true, true, true, true, true, true, true, true, false, false, false, false] rfl rfl (any_of HT_.out (by kernel_rfl)) (fun _ _ _ h => h) (Or.inl ⟨by rfl, ?_⟩) ?_ ?_
          rotate_left
          · intro w'
            go_simp
            with_reducible rfl
          rotate_left
          · simp only [Act.put, List.setIfInBounds_toArray, List.set_cons_zero, List.set_cons_succ, i64_w, i32_w]
            rfl
          refine pure_ (i := 9) (N := some 18) (v := ?_) (a' := ?_) #[true, true, true, true, true, true, true, true, true, true, false, false, false] rfl rfl (any_of HT_.out (by kernel_rfl)) (fun _ _ _ h => h) (Or.inl ⟨by rfl, ?_⟩) ?_ ?_
          rotate_left
          · intro w'
            go_simp
            with_reducible rfl
          rotate_left
          · simp only [Act.put, List.setIfInBounds_toArray, List.set_cons_zero, List.set_cons_succ, i64_w, i32_w]
            rfl
          refine one_ (i := 10) (N := some 19) #[true, true, true, true, true, true, true, true, true, true, true, false, false] rfl rfl (one_of HT_.out (by kernel_rfl)) (by decide) (fun K hK => ?_)
          refine Kd.N_lit_step (Kd.slice 78 k78) _ 54 ?hg (N' := 19) ?hd (xs := ([y184, l3, y189] : List (List (S78)))) (inner := [.slice A0 y184.length y184.length, .slice A3 l3.length c3, .slice A13 y189.length c13]) (ok := (fun k_ => ((P0_ k_ ∨ P3_ k_) ∨ w.heap.size ≤ k_))) (okp := (fun k_ => ((P0_ k_ ∨ P3_ k_) ∨ w.heap.size ≤ k_))) ?hr ?hp (fun _ hk => hk) ((show ∀ k_, w11.heap.size ≤ k_ → (fun k_ => ((P0_ k_ ∨ P3_ k_) ∨ w.heap.size ≤ k_)) k_ from fun k_ hk => (.inr (Nat.le_trans (below_size (by repeat (first | (with_reducible first | exact HB.out | apply below_alloc | apply pw_below_drewN | apply below_drew1) | exact HB.out))) hk))) _ (Nat.le_refl _)) (Below.refl _ _) (Nat.le_refl _) (by simp) ?_; (case hd => rfl); (case hg => rfl); (case hr => first | (go_simp; done) | (go_simp; rfl)); (case hp => exact (Reps.one (show Kd.FK (Kd.slice 78 k78) _ _ y184 [.slice A0 y184.length y184.length] from (Kd.FK_slice_mk (Kd.V_reads' (Kd.V_mono (ok' := (fun k_ => ((P0_ k_ ∨ P3_ k_) ∨ w.heap.size ≤ k_))) (HO188.out) (fun k_ hk => hk))).2.1 (Kd.V_F (Kd.V_mono (ok' := (fun k_ => ((P0_ k_ ∨ P3_ k_) ∨ w.heap.size ≤ k_))) (HO188.out) (fun k_ hk => hk))))) (Reps.one (show Kd.FK (Kd.slice 78 k78) _ _ l3 [.slice A3 l3.length c3] from (Kd.FK_slice_mk (Kd.V_reads' (Kd.V_mono (ok' := (fun k_ => ((P0_ k_ ∨ P3_ k_) ∨ w.heap.size ≤ k_))) (HO3.out) (fun k_ hk => hk))).2.1 (Kd.V_F (Kd.V_mono (ok' := (fun k_ => ((P0_ k_ ∨ P3_ k_) ∨ w.heap.size ≤ k_))) (HO3.out) (fun k_ hk => hk))))) (Reps.one (show Kd.FK (Kd.slice 78 k78) _ _ y189 [.slice A13 y189.length c13] from (Kd.FK_slice_mk (Kd.V_reads' (Kd.V_mono (ok' := (fun k_ => ((P0_ k_ ∨ P3_ k_) ∨ w.heap.size ≤ k_))) (HO193.out) (fun k_ hk => hk))).2.1 (Kd.V_F (Kd.V_mono (ok' := (fun k_ => ((P0_ k_ ∨ P3_ k_) ∨ w.heap.size ≤ k_))) (HO193.out) (fun k_ hk => hk))))) (Reps.none _ _)))))
          intro v195 w14 ho15 hb hg_ hnew_
          clear hg_ hnew_
          (first | rw [← Ny194.out] at ho15 | (simp only [Int.reduceToNat] at ho15; rw [← Ny194.out] at ho15))
          have n0_ := Aside0.mk (Kd.V_elder' (by (with_reducible repeat (first | apply Kd.V_alloc | apply Kd.V_drewN | apply Kd.V_drew)); exact HO0.out) (Kd.N_base ho15) hb)
          have n1_ := Aside0.mk (Kd.V_elder' (by (with_reducible repeat (first | apply Kd.V_alloc | apply Kd.V_drewN | apply Kd.V_drew)); exact HO3.out) (Kd.N_base ho15) hb)
          have n2_ := Aside0.mk (Kd.V_elder' (by (with_reducible repeat (first | apply Kd.V_alloc | apply Kd.V_drewN | apply Kd.V_drew)); exact HO188.out) (Kd.N_base ho15) hb)
          have n3_ := Aside0.mk (Kd.V_elder' (by (with_reducible repeat (first | apply Kd.V_alloc | apply Kd.V_drewN | apply Kd.V_drew)); exact HO193.out) (Kd.N_base ho15) hb)
          have n4_ := Aside0.mk (Kd.N_lower ho15 (below_size (by repeat (first | (with_reducible first | exact HB.out | apply below_alloc | apply pw_below_drewN | apply below_drew1) | exact HB.out))))
          have n5_ := Aside0.mk (below_step (by repeat (first | (with_reducible first | exact HB.out | apply below_alloc | apply pw_below_drewN | apply below_drew1) | exact HB.out)) hb)
          clear HO0
          clear HO3
          clear HO188
          clear HO193
          clear HB
          have HO0 := n0_
          have HO3 := n1_
          have HO188 := n2_
          have HO193 := n3_
          have HO196 := n4_
          have HB := n5_
          clear n0_ n1_ n2_ n3_ n4_ n5_
          clear hb ho15
          obtain ⟨Ao16, co16, eo16⟩ := Kd.N_slice HO196.out
          (first | subst eo16 | (injection eo16 with f1_ f2_ f3_; have f4_ := f1_.symm; have f5_ := f3_.symm; clear f1_ f2_ f3_; subst f4_; subst f5_))
          refine hK.out _ _ trivial (fun hHeld => ?_)
          clear hK K
          refine norm_ (a' := ?_) ?_ ?_
          rotate_left
          · show Act.put _ (some 19) _ = _
            simp only [Act.put, List.setIfInBounds_toArray, List.set_cons_zero, List.set_cons_succ, i64_w, i32_w]
            rfl
          refine one_ (i := 11) (N := some 20) #[true, true, true, true, true, true, true, true, true, true, true, true, false] rfl rfl (one_of HT_.out (by kernel_rfl)) (by decide) (fun K hK => ?_)
          refine goes_ Try.func59 (by kernel_rfl) rfl #[.slice Ao16 y194.length co16] (by rfl) rfl rfl (by (try simp only [List.map_toArray, List.map_cons, List.map_nil]); first | done | rfl | (simp only [List.length_drop, List.length_take]; rfl)) ?_
          with_reducible refine (api_Item_59.calls _ _ y194 t197 _ ?side1 ?side2 A10.out).mono ?_
          (case side1 => repeat (first | exact (Kd.N_reads' HO196.out).2.2 | (with_reducible refine Kd.C_alloc ?_ _) | (with_reducible refine Kd.C_drewN ?_ _) | (with_reducible refine Kd.C_drew ?_)))
          (case side2 => exact (Kd.N_reads' HO196.out).2.1)
          rintro e w17 ⟨v198, rfl, ho0, hb⟩
          refine ⟨_, rfl, ?_⟩
          have n0_ := Aside0.mk (Kd.V_elder' (by (with_reducible repeat (first | apply Kd.V_alloc | apply Kd.V_drewN | apply Kd.V_drew)); exact HO0.out) (Kd.R_base ho0) hb)
          have n1_ := Aside0.mk (Kd.V_elder' (by (with_reducible repeat (first | apply Kd.V_alloc | apply Kd.V_drewN | apply Kd.V_drew)); exact HO3.out) (Kd.R_base ho0) hb)
          have n2_ := Aside0.mk (Kd.V_elder' (by (with_reducible repeat (first | apply Kd.V_alloc | apply Kd.V_drewN | apply Kd.V_drew)); exact HO188.out) (Kd.R_base ho0) hb)
          have n3_ := Aside0.mk (Kd.V_elder' (by (with_reducible repeat (first | apply Kd.V_alloc | apply Kd.V_drewN | apply Kd.V_drew)); exact HO193.out) (Kd.R_base ho0) hb)
          have n4_ := Aside0.mk (Kd.N_elder' (by (with_reducible repeat (first | apply Kd.N_alloc | apply Kd.N_drewN | apply Kd.N_drew)); exact HO196.out) (Kd.R_base ho0) hb)
          have n5_ := Aside0.mk (Kd.R_lower (Kd.R_newM (M := fun k_ => (w.heap.size ≤ k_)) ho0 (below_size (by repeat (first | (with_reducible first | exact HB.out | apply below_alloc | apply pw_below_drewN | apply below_drew1) | exact HB.out))) (fun k_ h_ => h_)) (below_size (by repeat (first | (with_reducible first | exact HB.out | apply below_alloc | apply pw_below_drewN | apply below_drew1) | exact HB.out))))
          have n6_ := Aside0.mk (below_step (by repeat (first | (with_reducible first | exact HB.out | apply below_alloc | apply pw_below_drewN | apply below_drew1) | exact HB.out)) hb)
          clear HO0
          clear HO3
          clear HO188
          clear HO193
          clear HO196
          clear HB
          have HO0 := n0_
          have HO3 := n1_
          have HO188 := n2_
          have HO193 := n3_
          have HO196 := n4_
          have HO199 := n5_
          have HB := n6_
          clear n0_ n1_ n2_ n3_ n4_ n5_ n6_
          (try clear hb)
          (try clear hb2)
          (try clear hk)
          (try clear hi)
          (try clear ho0)
          refine hK.out _ _ trivial (fun hHeld => ?_)
          clear hK K
          refine norm_ (a' := ?_) ?_ ?_
          rotate_left
          · show Act.put _ (some 20) _ = _
            simp only [Act.put, List.setIfInBounds_toArray, List.set_cons_zero, List.set_cons_succ, i64_w, i32_w]
            rfl
          refine pure_ (i := 12) (N := some 8) (v := ?_) (a' := ?_) #[true, true, true, true, true, true, true, true, true, true, true, true, true] rfl rfl (any_of HT_.out (by kernel_rfl)) (fun _ _ _ h => h) (Or.inl ⟨by rfl, ?_⟩) ?_ ?_
          rotate_left
          · intro w'
            go_simp
            with_reducible rfl
          rotate_left
          · simp only [Act.put, List.setIfInBounds_toArray, List.set_cons_zero, List.set_cons_succ, i64_w, i32_w]
            rfl
          refine done_ (done_of HT_.out (by kernel_rfl)) ?_
          try go_wp2
          go_ret
          exact ⟨_, by first | rfl | (simp [errW_none, errW_some] <;> rfl) | (simp only [← hji7]; first | rfl | (simp [errW_none, errW_some] <;> rfl)) | (simp [*, errW_none, errW_some] <;> rfl), by (with_reducible repeat (first | apply Kd.R_alloc | apply Kd.R_drewN | apply Kd.R_drew)); exact Kd.R_mono HO199.out (fun _ hk => hk.1), by repeat (first | (with_reducible first | exact HB.out | apply below_alloc | apply pw_below_drewN | apply below_drew1) | exact HB.out)⟩
        · rw [if_neg c9] at H
          exact absurd H (by simp)
      · rw [if_neg c8] at H
        exact absurd H (by simp)
    · rw [if_neg c6] at H
      exact absurd H (by simp)
  · rw [if_neg c5] at H
    exact absurd H (by simp)

end Go.Proofs.Ythjnkapkhphpeaa.P
end
section
/- node.At over sort.Search: where a key stands, or leads, in a row of rising keys. -/
namespace Go.Proofs.Ythjnkapkhphpeaa.P
open Go.RowKit Go.Proofs.YthjnkapkhphpeaaW.PrintWords Go.Proofs.YthjnkapkhphpeaaW.PrintLast Go.Proofs.YthjnkapkhphpeaaW.PrintMore
set_option linter.unusedVariables false
set_option linter.unusedSimpArgs false
set_option maxHeartbeats 4000000 in
set_option maxRecDepth 100000 in
theorem at_closure (g2 g3 : Nat) (ad : Addr) (c : Nat) (n : Nat) (key y : Int) (i : Nat) (W : World) (hi : i < n)
    (h1 : W.cell? ⟨g2, 1, none⟩ = some (.slice (some ad) n c)) (h2 : W.cell? ⟨g3, 0, none⟩ = some (.int .i64 key)) (h3 : W.cell? (ad.add (i * 2)) = some (.int .i64 y)) :
    Calls Try.prog 58 #[.int .i64 i, .pointer (some ⟨g2, 0, none⟩), .pointer (some ⟨g3, 0, none⟩)] W fun e w' => e = .returned (.bool (decide (key ≤ y))) ∧ ∃ q, w' = W.drewN q := by
  have hu56 := Try.underlying56
  have hu78 := Try.underlying78
  have hiz : (i : Int) < (n : Int) := by omega
  have mixed : Try.prog.follows .mixedOrders = true := by kernel_rfl
  go_enter Try.func58, Try.ntmps58
  go_wp2
  go_region_o
  all_goals go_wp2
  all_goals go_ret
  all_goals exact ⟨by first | rfl | simp, 1, rfl⟩
theorem cut_at {n : Nat} {p : Nat → Bool} (i : Nat) (hi : i ≤ n) (h0 : ∀ t, t < i → p t = false) (h1 : ∀ t, i ≤ t → t < n → p t = true) : (List.range n).countP (fun t => !p t) = i := by
  have e : List.range n = List.range i ++ (List.range (n - i)).map (i + ·) := by
    apply List.ext_getElem
    · simp
      omega
    · intro j h1 h2
      rw [List.getElem_append]
      split
      · simp
      · rename_i h3
        rw [List.length_range] at h3
        simp
        omega
  rw [e, List.countP_append]
  have a : (List.range i).countP (fun t => !p t) = i := by
    have : (List.range i).countP (fun t => !p t) = (List.range i).length := List.countP_eq_length.2 fun t ht => by simp [h0 t (List.mem_range.1 ht)]
    rw [this, List.length_range]
  have b : ((List.range (n - i)).map (i + ·)).countP (fun t => !p t) = 0 := List.countP_eq_zero.2 fun t ht => by
    obtain ⟨u, hu, rfl⟩ := List.mem_map.1 ht
    have := List.mem_range.1 hu
    simp [h1 (i + u) (by omega) (by omega)]
  omega
set_option maxHeartbeats 4000000 in
set_option maxRecDepth 100000 in
theorem search_walk (cb : Array Value) (n : Nat) (p : Nat → Bool) (w : World) (hsz : n < 1000000)
    (hf : ∀ (m i : Nat), i < n → Calls Try.prog 58 (#[.int .i64 i] ++ cb) (w.drewN m) fun e w' => e = .returned (.bool (p i)) ∧ ∃ q, w' = (w.drewN m).drewN q)
    (hmono : ∀ a b, a ≤ b → b < n → p a = true → p b = true) :
    Calls Try.prog 57 #[.int .i64 n, .func (.func 58) #[] cb] w fun e w' => e = .returned (.int .i64 ((List.range n).countP (fun i => !p i) : Nat)) ∧ ∃ q, w' = w.drewN q := by
  have HF := Aside0.mk hf
  have M := Aside0.mk hmono
  have mixed : Try.prog.follows .mixedOrders = true := by kernel_rfl
  clear hf hmono
  generalize hcnt : (List.range n).countP (fun i => !p i) = cnt
  have CN := Aside0.mk hcnt
  clear hcnt
  go_enter Try.func57, Try.ntmps57
  go_wp2
  go_loopg [5, 6] n (fun kx s5 s6 wr => ∃ (lo hi q : Nat), s5 = .int .i64 lo ∧ s6 = .int .i64 hi ∧ lo ≤ hi ∧ hi ≤ n ∧ hi - lo ≤ kx ∧ wr = w.drewN q ∧
    Aside0 ((∀ t, t < lo → p t = false) ∧ (∀ t, hi ≤ t → t < n → p t = true)))
  case atStart => exact ⟨0, n, 0, rfl, rfl, Nat.zero_le _, Nat.le_refl _, by omega, rfl, ⟨fun t ht => absurd ht (Nat.not_lt_zero _), fun t h1 h2 => by omega⟩⟩
  case round =>
    obtain ⟨lo, hi, q, rfl, rfl, hlh, hin, hg, rfl, I⟩ := hrel
    by_cases hlt : lo < hi
    · have hc := HF.out q ((lo + hi) / 2) (by omega)
      rw [show (((lo + hi) / 2 : Nat) : Int) = ((lo : Int) + (hi : Int)) / 2 by omega] at hc
      cases hp : p ((lo + hi) / 2) <;> rw [hp] at hc
      · have HP := Aside0.mk hp
        clear hp
        go_wp2_with fail
        refine hc.mono ?_
        rintro e w' ⟨rfl, nq, rfl⟩
        go_wp2
        go_roundg (hi - ((lo + hi) / 2 + 1))
        case measure => omega
        case rel =>
          have I2 : Aside0 ((∀ t, t < (lo + hi) / 2 + 1 → p t = false) ∧ (∀ t, hi ≤ t → t < n → p t = true)) := ⟨fun t ht => (by
            cases h : p t with
            | false => rfl
            | true => have := M.out t ((lo + hi) / 2) (by omega) (by omega) h; rw [HP.out] at this; cases this), I.out.2⟩
          exact ⟨(lo + hi) / 2 + 1, hi, q + nq, by rw [show ((lo : Int) + (hi : Int)) / 2 + 1 = (((lo + hi) / 2 + 1 : Nat) : Int) by omega], rfl, by omega, hin, Nat.le_refl _, rfl, I2⟩
      · have HP := Aside0.mk hp
        clear hp
        go_wp2_with fail
        refine hc.mono ?_
        rintro e w' ⟨rfl, nq, rfl⟩
        go_wp2
        go_roundg ((lo + hi) / 2 - lo)
        case measure => omega
        case rel =>
          have I2 : Aside0 ((∀ t, t < lo → p t = false) ∧ (∀ t, (lo + hi) / 2 ≤ t → t < n → p t = true)) := ⟨I.out.1, fun t ht htn => M.out ((lo + hi) / 2) t ht htn HP.out⟩
          exact ⟨lo, (lo + hi) / 2, q + nq, rfl, by rw [show ((lo : Int) + (hi : Int)) / 2 = (((lo + hi) / 2 : Nat) : Int) by omega], by omega, by omega, Nat.le_refl _, rfl, I2⟩
    · obtain rfl : hi = lo := by omega
      have ecnt : cnt = hi := by rw [← CN.out]; exact cut_at hi hin I.out.1 I.out.2
      subst ecnt
      go_wp2
      go_ret
      exact ⟨rfl, q, rfl⟩
def rising (l : List S78) : Bool := (List.range l.length).all fun b => (List.range b).all fun a => decide ((rd_T78 l (a : Nat)).f0 < (rd_T78 l (b : Nat)).f0)
theorem rising_lt {l : List S78} (h : rising l = true) (a b : Nat) (hab : a < b) (hb : b < l.length) : (rd_T78 l (a : Nat)).f0 < (rd_T78 l (b : Nat)).f0 :=
  of_decide_eq_true (List.all_eq_true.1 (List.all_eq_true.1 h b (List.mem_range.2 hb)) a (List.mem_range.2 hab))
def atN (l : List S78) (key : Int) : Nat := (List.range l.length).countP fun i => !decide (key ≤ (rd_T78 l (i : Nat)).f0)
def atIs (l : List S78) (key : Int) : Bool := decide (atN l key < l.length) && ((rd_T78 l (atN l key : Nat)).f0 == key)
def node_At.f (a0_0 : Bool) (l0_1 : List S78) (a1 : Int) : Option (Int × Bool) :=
  if rising l0_1 = true ∧ l0_1.length < 1000000 then
    some (if a0_0 = false ∧ atIs l0_1 a1 = false then (if ((atN l0_1 a1 : Nat) : Int) - 1 < 0 then 0 else ((atN l0_1 a1 : Nat) : Int) - 1) else ((atN l0_1 a1 : Nat) : Int), atIs l0_1 a1)
  else none
theorem atN_le (l : List S78) (key : Int) : atN l key ≤ l.length := by
  have := List.countP_le_length (p := fun i : Nat => !decide (key ≤ (rd_T78 l (i : Nat)).f0)) (l := List.range l.length)
  rwa [List.length_range] at this
set_option maxHeartbeats 4000000 in
set_option maxRecDepth 100000 in
theorem node_At.calls (a0_0 : Bool) (A0_1 : Option Addr) (c0_1 : Nat) (l0_1 : List S78) (a1 : Int) (r1 : Int) (r2 : Bool) (w : World) (hr0_1 : Kd.C k78 w A0_1 l0_1.length l0_1) (hc0_1 : l0_1.length ≤ c0_1) (h : node_At.f a0_0 l0_1 a1 = some (r1, r2)) :
    Calls Try.prog 35 #[.agg #[.bool a0_0, .slice A0_1 l0_1.length c0_1], .int .i64 a1] w fun e w' => e = .returned (.tuple #[.int .i64 r1, .bool r2]) ∧ Below w.heap.size w w' := by
  have hu56 := Try.underlying56
  have hu78 := Try.underlying78
  have mixed : Try.prog.follows .mixedOrders = true := by kernel_rfl
  unfold node_At.f at h
  have hcond : rising l0_1 = true ∧ l0_1.length < 1000000 := by
    by_cases hc : rising l0_1 = true ∧ l0_1.length < 1000000
    · exact hc
    · rw [if_neg hc] at h
      cases h
  rw [if_pos hcond] at h
  obtain ⟨hris, hlen⟩ := hcond
  simp only [Option.some.injEq, Prod.mk.injEq] at h
  obtain ⟨h1, h2⟩ := h
  have H1 := Aside0.mk h1
  have H2 := Aside0.mk h2
  have HRIS := Aside0.mk hris
  have HLEN := Aside0.mk hlen
  have HR := Aside0.mk hr0_1
  clear h1 h2 hris hr0_1 hc0_1
  go_enter Try.func35, Try.ntmps35
  go_wp2_with (first | ((with_reducible refine gate_dst (N := 2) rfl ?_); refine box_event ?hg (N := 2) ?hd (cs := #[.bool a0_0, .slice A0_1 l0_1.length c0_1]) (t := 56) ?hr ?_; (case hd => rfl); (case hg => rfl); (case hr => first | (go_simp; done) | (go_simp; rfl)); intro g2 hg w2 hbox hb; have HB2 := Aside0.mk hb; have HK2 := Aside0.mk hbox; clear hb hbox hg) | ((with_reducible refine gate_dst (N := 3) rfl ?_); refine box_event ?hg (N := 3) ?hd (cs := #[.int .i64 a1]) (t := 3) ?hr ?_; (case hd => rfl); (case hg => rfl); (case hr => first | (go_simp; done) | (go_simp; rfl)); intro g3 hg w3 hbox hb; have HB3 := Aside0.mk (HB2.out.trans (hb.mono HB2.out.size)); have HK3 := Aside0.mk hbox; have HK23 := Aside0.mk (blk_below HK2.out hb); have k0 : w3.cell? ⟨g2, 0, none⟩ = some (.bool a0_0) := (blk_cell HK23.out 0).trans rfl; have k1 : w3.cell? ⟨g2, 1, none⟩ = some (.slice A0_1 l0_1.length c0_1) := (blk_cell HK23.out 1).trans rfl; have k3 : w3.cell? ⟨g3, 0, none⟩ = some (.int .i64 a1) := (blk_cell hbox 0).trans rfl; clear hb hbox hg HB2) | fail)
  have hS : Calls Try.prog 57 #[.int .i64 l0_1.length, .func (.func 58) #[] #[.pointer (some ⟨g2, 0, none⟩), .pointer (some ⟨g3, 0, none⟩)]] w3 fun e w' => e = .returned (.int .i64 (atN l0_1 a1 : Nat)) ∧ ∃ q, w' = w3.drewN q := by
    refine search_walk #[.pointer (some ⟨g2, 0, none⟩), .pointer (some ⟨g3, 0, none⟩)] l0_1.length (fun i => decide (a1 ≤ (rd_T78 l0_1 (i : Nat)).f0)) w3 hlen ?hf ?hm
    case hf =>
      intro m i hi
      obtain ⟨ad, hA, hc, _⟩ := at_T78 (Kd.C_below HR.out HB3.out) (i : Int) (by omega) (by omega)
      subst hA
      rw [Int.toNat_natCast] at hc
      exact at_closure g2 g3 ad c0_1 l0_1.length a1 _ i (w3.drewN m) hi k1 k3 hc
    case hm =>
      intro a b hab hb hp
      have hp := of_decide_eq_true hp
      by_cases he : a = b
      · subst he
        exact decide_eq_true hp
      · have := rising_lt HRIS.out a b (by omega) hb
        exact decide_eq_true (by omega)
  refine hS.mono ?_
  rintro e wd ⟨rfl, q, rfl⟩
  have HB4 := Aside0.mk (pw_below_drewN HB3.out q)
  have j0 : (w3.drewN q).cell? ⟨g2, 0, none⟩ = some (.bool a0_0) := k0
  have j1 : (w3.drewN q).cell? ⟨g2, 1, none⟩ = some (.slice A0_1 l0_1.length c0_1) := k1
  have j3 : (w3.drewN q).cell? ⟨g3, 0, none⟩ = some (.int .i64 a1) := k3
  have HR4 := Aside0.mk (Kd.C_below HR.out HB4.out)
  generalize w3.drewN q = w4 at HB4 j0 j1 j3 HR4 ⊢
  clear hS k0 k1 k3 HK2 HK3 HK23 HB3 HR
  have hle := atN_le l0_1 a1
  have HIS := Aside0.mk (show atIs l0_1 a1 = (decide (atN l0_1 a1 < l0_1.length) && ((rd_T78 l0_1 (atN l0_1 a1 : Nat)).f0 == a1)) from rfl)
  generalize atIs l0_1 a1 = is' at H1 H2 HIS
  generalize atN l0_1 a1 = c at H1 HIS hle ⊢
  by_cases hcl : c < l0_1.length
  · have d1 : decide ((c : Int) < (l0_1.length : Int)) = true := decide_eq_true (by omega)
    have p1 : (0 : Int) ≤ c := by omega
    have q1 : (c : Int) < l0_1.length := by omega
    obtain ⟨ad, hA, hc, _⟩ := at_T78 HR4.out (c : Int) p1 q1
    subst hA
    rw [Int.toNat_natCast] at hc
    obtain ⟨x, hx⟩ : ∃ x, (rd_T78 l0_1 (c : Nat)).f0 = x := ⟨_, rfl⟩
    rw [hx] at hc HIS
    rw [decide_eq_true hcl, Bool.true_and] at HIS
    obtain ⟨b, hb⟩ : ∃ b, (x == a1) = b := ⟨_, rfl⟩
    rw [hb] at HIS
    have hib := HIS.out
    subst hib
    have h2 := H2.out
    subst h2
    clear HIS H2 HRIS HLEN HR4 hx
    cases is' <;> cases a0_0
    all_goals (go_wp2; go_region_o)
    all_goals go_wp2
    all_goals go_ret2
    all_goals refine ⟨?_, below_drew1 HB4.out⟩
    all_goals have h1 := H1.out
    all_goals subst h1
    all_goals first | rfl | (simp; done) | (simp; omega)
  · have d1 : decide ((c : Int) < (l0_1.length : Int)) = false := decide_eq_false (by omega)
    have hib := HIS.out
    rw [decide_eq_false hcl, Bool.false_and] at hib
    subst hib
    have h2 := H2.out
    subst h2
    clear HIS H2 HRIS HLEN HR4
    cases a0_0
    all_goals (go_wp2; go_region_o)
    all_goals go_wp2
    all_goals go_ret2
    all_goals refine ⟨?_, below_drew1 HB4.out⟩
    all_goals have h1 := H1.out
    all_goals subst h1
    all_goals first | rfl | (simp; done) | (simp; omega)
end Go.Proofs.Ythjnkapkhphpeaa.P
end
section
namespace Go.Proofs.Ythjnkapkhphpeaa.P
open Go.RowKit Go.Proofs.YthjnkapkhphpeaaW.PrintWords Go.Proofs.YthjnkapkhphpeaaW.PrintLast Go.Proofs.YthjnkapkhphpeaaW.PrintMore
attribute [local go_sem] max2_int min2_int max_two min_two max_three min_three max_four min_four
set_option linter.unusedVariables false
set_option linter.unusedSimpArgs false

/-! ### node_fits: function 56 -/
def node_fits.f (a0 : Int) : Option (Bool) := if a0 ≥ 0 then (some (decide (a0 ≤ 2147483647))) else (some false)
set_option maxHeartbeats 8000000 in
set_option maxRecDepth 100000 in
theorem node_fits.calls (a0 : Int) (r : Bool) (w : World) (h : node_fits.f a0 = some r) :
    Calls Try.prog 56 #[.int .i64 a0] w fun e w' => e = .returned (.bool r) ∧ Drawn0 w w' := by
  have H : (if a0 ≥ 0 then (some (decide (a0 ≤ 2147483647))) else (some false)) = some r := h
  clear h
  by_cases c2 : a0 ≥ 0
  · rw [if_pos c2] at H
    have c2b0 : decide (0 ≤ a0) = true := decide_eq_true c2
    clear c2
    obtain rfl := Option.some.inj H
    go_enter Try.func56, Try.ntmps56
    go_wp2
    go_ret
    exact ⟨by first | rfl | (simp; done) | (simp [*]; done), by repeat (first | exact Drawn0.refl _ | apply Drawn0.step)⟩
  · rw [if_neg c2] at H
    have c2b0 : decide (0 ≤ a0) = false := decide_eq_false c2
    clear c2
    obtain rfl := Option.some.inj H
    go_enter Try.func56, Try.ntmps56
    go_wp2
    go_ret
    exact ⟨by first | rfl | (simp; done) | (simp [*]; done), by repeat (first | exact Drawn0.refl _ | apply Drawn0.step)⟩

end Go.Proofs.Ythjnkapkhphpeaa.P
end
