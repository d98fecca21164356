/- Texts of this claim's proof put together: PTr, HIdx, HWork, HEach, HOwn, F93, HChg, HRd, F94, F76, F70, HAlloc, F35. -/
import Derived.Below
import Derived.Deep.Draws
import Derived.Deep.AppendLies
import Derived.Maps.AppendAt
import Derived.OwnWalk
import Derived.Laws.BytesArg
import Derived.Laws.MakeOwn
import Derived.Laws.OwnMore
import Derived.Deep.OwnRows
import Derived.Tactics
import Derived.Lib.ConvBytes
import Derived.Laws.Slices
import Derived.WalkKit
import Derived.KernelRfl
import Derived.RowKit3
import Derived.Deep.LoopGhost
import Derived.Deep.QuietTactic
import Derived.BigQuiet
import Derived.WideLaws
import Derived.Deep.DeepCutAuto
import Derived.Deep.CutBlock
import Derived.Deep.RegionHeld3
import Derived.Laws.Rows
import Derived.Lib.AppendStr
import Derived.ArgAppend
import Derived.Laws.IdiomCopy
import Derived.RowKit
import Derived.OrdersHeld
import Derived.Laws.BitsLemmas
import Derived.Laws.StructEq
import Derived.Test.YteiladccdenpbaaProg
import Derived.Shelf.RegionOpenPlain
import Derived.Shelf.Abstract
import Derived.Laws.CopyOwn
import Derived.Lib.SlBuf
import Derived.ChangeArms
import Derived.DataReads
import Derived.DataElems
import Derived.SizedLaws
import Derived.Test.YteiladccdenpbaaRows
import Derived.ProofKit
import Derived.OpenShut
import Derived.ShutString
import Derived.ChangeOld
import Derived.Test.YteiladccdenpbaaKHeapDoes0
import Derived.Test.YteiladccdenpbaaKHeapDoes1
namespace Foot
end Foot
namespace Go.Proofs.Yteiladccdenpbaa
end Go.Proofs.Yteiladccdenpbaa
namespace Go.Proofs.Yteiladccdenpbaa.P
end Go.Proofs.Yteiladccdenpbaa.P
namespace Go.Proofs.Yteiladccdenpbaa.heapDoes
end Go.Proofs.Yteiladccdenpbaa.heapDoes
namespace Go.Proofs.YteiladccdenpbaaW.PrintLast
end Go.Proofs.YteiladccdenpbaaW.PrintLast
namespace Go.Proofs.YteiladccdenpbaaW.PrintMore
end Go.Proofs.YteiladccdenpbaaW.PrintMore
namespace Go.Proofs.YteiladccdenpbaaW.PrintWords
end Go.Proofs.YteiladccdenpbaaW.PrintWords
namespace Kd
end Kd
section
namespace Go.Proofs.Yteiladccdenpbaa.P
open Go.RowKit Go.Proofs.YteiladccdenpbaaW.PrintWords Go.Proofs.YteiladccdenpbaaW.PrintLast Go.Proofs.YteiladccdenpbaaW.PrintMore
set_option linter.unusedVariables false
set_option linter.unusedSimpArgs false
def HR (l : List S55) : Prop := l.length ≤ 2000 ∧ ∀ p : Int, 0 ≤ p → p < (l.length : Int) → cellR l.length (rd_T55 l p)
theorem HR.rn {l : List S55} (H : HR l) {p : Int} (h0 : 0 ≤ p) (h1 : p < (l.length : Int)) (hr : 0 < Rf l p) : RtN (It l p) := by
  rcases H.2 p h0 h1 with h | h
  · have := h.1; simp only [Rf] at hr; omega
  · exact h.2.2.2.1
theorem HR.rf {l : List S55} (H : HR l) {p : Int} (h0 : 0 ≤ p) (h1 : p < (l.length : Int)) : 0 ≤ Rf l p ∧ Rf l p ≤ 2147483647 := by
  rcases H.2 p h0 h1 with h | h
  · have := h.1; simp only [Rf]; omega
  · have := h.1; have := h.2.1; simp only [Rf]; omega
abbrev lo (l : List S55) (p : Int) : Int := kAt (It l p) 0
def Hi (l : List S55) : Nat → Int → Int
  | 0, _ => 0
  | 1, p => kAt (It l p) ((It l p).length - 1)
  | h + 2, p => Hi l (h + 1) (vAt (It l p) ((It l p).length - 1))
def Tr (l : List S55) : Nat → Int → Prop
  | 0, _ => False
  | 1, p => 0 ≤ p ∧ p < (l.length : Int) ∧ 0 < Rf l p ∧ Lf l p = true
  | h + 2, p => 0 ≤ p ∧ p < (l.length : Int) ∧ 0 < Rf l p ∧ Lf l p = false ∧ ∀ i, i < (It l p).length →
      Tr l (h + 1) (vAt (It l p) i) ∧ lo l (vAt (It l p) i) = kAt (It l p) i ∧ (i + 1 < (It l p).length → Hi l (h + 1) (vAt (It l p) i) < kAt (It l p) (i + 1))
def Ls (l : List S55) : Nat → Int → List S49
  | 0, _ => []
  | 1, p => It l p
  | h + 2, p => (It l p).flatMap fun x => Ls l (h + 1) x.f1
theorem Tr.base {l : List S55} {h : Nat} {p : Int} (t : Tr l h p) : 0 ≤ p ∧ p < (l.length : Int) ∧ 0 < Rf l p := by
  match h, t with
  | 1, t => exact ⟨t.1, t.2.1, t.2.2.1⟩
  | h + 2, t => exact ⟨t.1, t.2.1, t.2.2.1⟩
theorem Tr.pos {l : List S55} {h : Nat} {p : Int} (t : Tr l h p) : 1 ≤ h := by
  match h, t with
  | h + 1, t => omega
theorem Tr.rn {l : List S55} (H : HR l) {h : Nat} {p : Int} (t : Tr l h p) : RtN (It l p) := H.rn t.base.1 t.base.2.1 t.base.2.2
theorem Tr.leaf {l : List S55} {h : Nat} {p : Int} (t : Tr l h p) : Lf l p = decide (h = 1) := by
  match h, t with
  | 1, t => exact t.2.2.2
  | h + 2, t => rw [t.2.2.2.1, decide_eq_false (by omega)]
theorem rising_all {l : List S49} (h : RtN l) {i j : Nat} (hij : i < j) (hj : j < l.length) : kAt l i < kAt l j := rising_lt (rising_of h) i j hij hj
theorem rising_le {l : List S49} (h : RtN l) {i j : Nat} (hij : i ≤ j) (hj : j < l.length) : kAt l i ≤ kAt l j := by
  by_cases e : i = j
  · subst e; exact Int.le_refl _
  · have := rising_all h (show i < j by omega) hj; omega
structure Said1 (l : List S55) (h : Nat) (p : Int) : Prop where
  le : lo l p ≤ Hi l h p
  lo0 : 0 ≤ lo l p
  hi1 : Hi l h p ≤ 2147483647
  bd : ∀ x ∈ Ls l h p, lo l p ≤ x.f0 ∧ x.f0 ≤ Hi l h p
  hd : ∃ x xs, Ls l h p = x :: xs ∧ x.f0 = lo l p
  pw : (Ls l h p).Pairwise fun a b => a.f0 < b.f0
theorem gap {l : List S55} (H : HR l) {h : Nat} {p : Int} (t : Tr l (h + 2) p) {i j : Nat} (hij : i < j) (hj : j < (It l p).length) : Hi l (h + 1) (vAt (It l p) i) < kAt (It l p) j := by
  have := (t.2.2.2.2 i (by omega)).2.2 (by omega)
  have := rising_le (t.rn H) (show i + 1 ≤ j by omega) hj
  omega
end Go.Proofs.Yteiladccdenpbaa.P
end
section
namespace Go.Proofs.Yteiladccdenpbaa.P
open Go.RowKit Go.Proofs.YteiladccdenpbaaW.PrintWords Go.Proofs.YteiladccdenpbaaW.PrintLast Go.Proofs.YteiladccdenpbaaW.PrintMore
set_option linter.unusedVariables false
set_option linter.unusedSimpArgs false
def idxN {α : Type} (p : α → Bool) : List α → Nat → Int
  | [], _ => -1
  | x :: xs, i => if p x = true then (i : Int) else idxN p xs (i + 1)
theorem idxN_bound {α : Type} (p : α → Bool) : ∀ (l : List α) (i : Nat), idxN p l i = -1 ∨ ((i : Int) ≤ idxN p l i ∧ idxN p l i < i + l.length)
  | [], i => .inl rfl
  | x :: xs, i => by
    unfold idxN
    by_cases h : p x = true
    · rw [if_pos h]; right; simp; omega
    · rw [if_neg h]
      rcases idxN_bound p xs (i + 1) with e | e
      · exact .inl e
      · right; simp only [List.length_cons]; omega
theorem idxN_any {α : Type} (p : α → Bool) : ∀ (l : List α) (i : Nat), decide (0 ≤ idxN p l i) = l.any p
  | [], i => rfl
  | x :: xs, i => by
    unfold idxN
    rw [List.any_cons]
    by_cases h : p x = true
    · rw [if_pos h, h, Bool.true_or]; exact decide_eq_true (by omega)
    · rw [if_neg h, idxN_any p xs (i + 1)]
      rw [Bool.not_eq_true] at h
      rw [h, Bool.false_or]
abbrev cellV (x : S55) (A : Option Addr) (c : Nat) : Value := .agg #[.int .i64 x.f0, .bool x.f1, .bool x.f2.f0, .slice A x.f2.f1.length c]
abbrev itemV (x : S49) : Value := .agg #[.int .i64 x.f0, .int .i64 x.f1]
theorem rd55_mem {l : List S55} {j : Nat} (h : j < l.length) : rd_T55 l (j : Nat) ∈ l ∧ l.drop j = rd_T55 l (j : Nat) :: l.drop (j + 1) := by
  have e : rd_T55 l (j : Nat) = l[j] := by simp only [rd_T55, Int.toNat_natCast, List.getD_eq_getElem?_getD, List.getElem?_eq_getElem h, Option.getD_some]
  rw [e]
  exact ⟨List.getElem_mem _, List.drop_eq_getElem_cons h⟩
theorem rd49_mem {l : List S49} {j : Nat} (h : j < l.length) : rd_T49 l (j : Nat) ∈ l ∧ l.drop j = rd_T49 l (j : Nat) :: l.drop (j + 1) := by
  have e : rd_T49 l (j : Nat) = l[j] := by simp only [rd_T49, Int.toNat_natCast, List.getD_eq_getElem?_getD, List.getElem?_eq_getElem h, Option.getD_some]
  rw [e]
  exact ⟨List.getElem_mem _, List.drop_eq_getElem_cons h⟩
set_option maxHeartbeats 4000000 in
set_option maxRecDepth 100000 in
theorem index55_63 (cb : Array Value) (p : S55 → Bool) (l : List S55) (A : Option Addr) (c : Nat) (w : World) (hl : l.length < 1000000) (hr : Kd.C k55 w A l.length l)
    (hf : ∀ (W : World) (x : S55) (A' : Option Addr) (c' : Nat), Below w.heap.size w W → x ∈ l → x.f2.f1.length ≤ c' → Kd.C k49 W A' x.f2.f1.length x.f2.f1 →
      Calls Try.prog 63 (#[cellV x A' c'] ++ cb) W fun e w' => e = .returned (.bool (p x)) ∧ Below W.heap.size W w') :
    Calls Try.prog 72 #[.slice A l.length c, .func (.func 63) #[] cb] w fun e w' => e = .returned (.int .i64 (idxN p l 0)) ∧ Below w.heap.size w w' := by
  have HF := Aside0.mk hf
  have HR := Aside0.mk hr
  have hu55 := Try.underlying55
  have hu53 := Try.underlying53
  have mixed : Try.prog.follows .mixedOrders = true := by kernel_rfl
  clear hf hr
  generalize hres : idxN p l 0 = res
  have RS := Aside0.mk hres
  clear hres
  go_enter Try.func72, Try.ntmps72
  go_wp2
  go_loopg [8] l.length (fun kx s wr => ∃ (j : Nat), s = .int .i64 j ∧ j ≤ l.length ∧ l.length - j ≤ kx ∧ Aside0 (Below w.heap.size w wr) ∧ Aside0 (idxN p (l.drop j) j = res))
  case atStart => exact ⟨0, rfl, Nat.zero_le _, by omega, ⟨Below.refl _ _⟩, ⟨by rw [List.drop_zero]; exact RS.out⟩⟩
  case round =>
    obtain ⟨j, rfl, hj, hg, HB, HD⟩ := hrel
    by_cases hlt : j < l.length
    · obtain ⟨ad, A3, c3, rfl, x0, x1, x2, x3, hl3, hi3⟩ := at_T55 (Kd.C_below HR.out HB.out) (j : Int) (by omega) (by omega)
      obtain ⟨hmem, hd⟩ := rd55_mem hlt
      rw [Int.toNat_natCast] at x0 x1 x2 x3
      generalize rd_T55 l (j : Nat) = x at *
      have hc := HF.out wr x A3 c3 HB.out hmem hl3 hi3
      have HD2 := Aside0.mk (show (if p x = true then (j : Int) else idxN p (l.drop (j + 1)) (j + 1)) = res by have := HD.out; rw [hd] at this; exact this)
      have p1 : (0 : Int) ≤ j := by omega
      have q1 : (j : Int) < l.length := by omega
      have HC := Aside0.mk hc
      clear hc hmem hd HD hl3 hi3
      go_wp2_with fail
      refine HC.out.mono ?_
      rintro e w' ⟨rfl, hb⟩
      have HB2 := Aside0.mk (HB.out.trans (hb.mono HB.out.size))
      clear hb
      cases hpx : p x
      · have hi : idxN p (l.drop (j + 1)) (j + 1) = res := by have := HD2.out; rwa [hpx, if_neg (by simp)] at this
        have HI := Aside0.mk hi
        clear hi
        go_wp2
        go_roundg (l.length - (j + 1))
        case measure => omega
        case rel => exact ⟨j + 1, by simp, by omega, Nat.le_refl _, HB2, HI⟩
      · have hi : (j : Int) = res := by have := HD2.out; rwa [hpx, if_pos rfl] at this
        subst hi
        go_wp2
        go_ret
        exact ⟨rfl, HB2.out⟩
    · obtain rfl : j = l.length := by omega
      have hi : res = -1 := by have := HD.out; rw [List.drop_length] at this; exact this.symm
      subst hi
      go_wp2
      go_ret
      exact ⟨rfl, HB.out⟩
set_option maxHeartbeats 4000000 in
set_option maxRecDepth 100000 in
theorem contains55_63 (cb : Array Value) (p : S55 → Bool) (l : List S55) (A : Option Addr) (c : Nat) (w : World) (hl : l.length < 1000000) (hr : Kd.C k55 w A l.length l)
    (hf : ∀ (W : World) (x : S55) (A' : Option Addr) (c' : Nat), Below w.heap.size w W → x ∈ l → x.f2.f1.length ≤ c' → Kd.C k49 W A' x.f2.f1.length x.f2.f1 →
      Calls Try.prog 63 (#[cellV x A' c'] ++ cb) W fun e w' => e = .returned (.bool (p x)) ∧ Below W.heap.size W w') :
    Calls Try.prog 66 #[.slice A l.length c, .func (.func 63) #[] cb] w fun e w' => e = .returned (.bool (l.any p)) ∧ Below w.heap.size w w' := by
  have HI := Aside0.mk (index55_63 cb p l A c w hl hr hf)
  have hany := idxN_any p l 0
  generalize l.any p = any at hany
  have HA := Aside0.mk hany
  generalize idxN p l 0 = res at HI HA
  clear hf hr hany
  go_enter Try.func66, Try.ntmps66
  go_wp2_with fail
  refine HI.out.mono ?_
  rintro e w' ⟨rfl, hb⟩
  have HB := Aside0.mk hb
  clear hb
  go_wp2
  go_ret
  exact ⟨by rw [← HA.out]; rfl, HB.out⟩
set_option maxHeartbeats 4000000 in
set_option maxRecDepth 100000 in
theorem index55_70 (cb : Array Value) (p : S55 → Bool) (l : List S55) (A : Option Addr) (c : Nat) (w : World) (hl : l.length < 1000000) (hr : Kd.C k55 w A l.length l)
    (hf : ∀ (W : World) (x : S55) (A' : Option Addr) (c' : Nat), Below w.heap.size w W → x ∈ l → x.f2.f1.length ≤ c' → Kd.C k49 W A' x.f2.f1.length x.f2.f1 →
      Calls Try.prog 70 (#[cellV x A' c'] ++ cb) W fun e w' => e = .returned (.bool (p x)) ∧ Below W.heap.size W w') :
    Calls Try.prog 72 #[.slice A l.length c, .func (.func 70) #[] cb] w fun e w' => e = .returned (.int .i64 (idxN p l 0)) ∧ Below w.heap.size w w' := by
  have HF := Aside0.mk hf
  have HR := Aside0.mk hr
  have hu55 := Try.underlying55
  have hu53 := Try.underlying53
  have mixed : Try.prog.follows .mixedOrders = true := by kernel_rfl
  clear hf hr
  generalize hres : idxN p l 0 = res
  have RS := Aside0.mk hres
  clear hres
  go_enter Try.func72, Try.ntmps72
  go_wp2
  go_loopg [8] l.length (fun kx s wr => ∃ (j : Nat), s = .int .i64 j ∧ j ≤ l.length ∧ l.length - j ≤ kx ∧ Aside0 (Below w.heap.size w wr) ∧ Aside0 (idxN p (l.drop j) j = res))
  case atStart => exact ⟨0, rfl, Nat.zero_le _, by omega, ⟨Below.refl _ _⟩, ⟨by rw [List.drop_zero]; exact RS.out⟩⟩
  case round =>
    obtain ⟨j, rfl, hj, hg, HB, HD⟩ := hrel
    by_cases hlt : j < l.length
    · obtain ⟨ad, A3, c3, rfl, x0, x1, x2, x3, hl3, hi3⟩ := at_T55 (Kd.C_below HR.out HB.out) (j : Int) (by omega) (by omega)
      obtain ⟨hmem, hd⟩ := rd55_mem hlt
      rw [Int.toNat_natCast] at x0 x1 x2 x3
      generalize rd_T55 l (j : Nat) = x at *
      have hc := HF.out wr x A3 c3 HB.out hmem hl3 hi3
      have HD2 := Aside0.mk (show (if p x = true then (j : Int) else idxN p (l.drop (j + 1)) (j + 1)) = res by have := HD.out; rw [hd] at this; exact this)
      have p1 : (0 : Int) ≤ j := by omega
      have q1 : (j : Int) < l.length := by omega
      have HC := Aside0.mk hc
      clear hc hmem hd HD hl3 hi3
      go_wp2_with fail
      refine HC.out.mono ?_
      rintro e w' ⟨rfl, hb⟩
      have HB2 := Aside0.mk (HB.out.trans (hb.mono HB.out.size))
      clear hb
      cases hpx : p x
      · have hi : idxN p (l.drop (j + 1)) (j + 1) = res := by have := HD2.out; rwa [hpx, if_neg (by simp)] at this
        have HI := Aside0.mk hi
        clear hi
        go_wp2
        go_roundg (l.length - (j + 1))
        case measure => omega
        case rel => exact ⟨j + 1, by simp, by omega, Nat.le_refl _, HB2, HI⟩
      · have hi : (j : Int) = res := by have := HD2.out; rwa [hpx, if_pos rfl] at this
        subst hi
        go_wp2
        go_ret
        exact ⟨rfl, HB2.out⟩
    · obtain rfl : j = l.length := by omega
      have hi : res = -1 := by have := HD.out; rw [List.drop_length] at this; exact this.symm
      subst hi
      go_wp2
      go_ret
      exact ⟨rfl, HB.out⟩
set_option maxHeartbeats 4000000 in
set_option maxRecDepth 100000 in
theorem index49_90 (cb : Array Value) (p : S49 → Bool) (l : List S49) (A : Option Addr) (c : Nat) (w : World) (hl : l.length < 1000000) (hr : Kd.C k49 w A l.length l)
    (hf : ∀ (W : World) (x : S49), Below w.heap.size w W → x ∈ l →
      Calls Try.prog 90 (#[itemV x] ++ cb) W fun e w' => e = .returned (.bool (p x)) ∧ Below W.heap.size W w') :
    Calls Try.prog 95 #[.slice A l.length c, .func (.func 90) #[] cb] w fun e w' => e = .returned (.int .i64 (idxN p l 0)) ∧ Below w.heap.size w w' := by
  have HF := Aside0.mk hf
  have HR := Aside0.mk hr
  have hu49 := Try.underlying49
  have mixed : Try.prog.follows .mixedOrders = true := by kernel_rfl
  clear hf hr
  generalize hres : idxN p l 0 = res
  have RS := Aside0.mk hres
  clear hres
  go_enter Try.func95, Try.ntmps95
  go_wp2
  go_loopg [8] l.length (fun kx s wr => ∃ (j : Nat), s = .int .i64 j ∧ j ≤ l.length ∧ l.length - j ≤ kx ∧ Aside0 (Below w.heap.size w wr) ∧ Aside0 (idxN p (l.drop j) j = res))
  case atStart => exact ⟨0, rfl, Nat.zero_le _, by omega, ⟨Below.refl _ _⟩, ⟨by rw [List.drop_zero]; exact RS.out⟩⟩
  case round =>
    obtain ⟨j, rfl, hj, hg, HB, HD⟩ := hrel
    by_cases hlt : j < l.length
    · obtain ⟨ad, rfl, x0, x1⟩ := at_T49 (Kd.C_below HR.out HB.out) (j : Int) (by omega) (by omega)
      obtain ⟨hmem, hd⟩ := rd49_mem hlt
      rw [Int.toNat_natCast] at x0 x1
      generalize rd_T49 l (j : Nat) = x at *
      have hc := HF.out wr x HB.out hmem
      have HD2 := Aside0.mk (show (if p x = true then (j : Int) else idxN p (l.drop (j + 1)) (j + 1)) = res by have := HD.out; rw [hd] at this; exact this)
      have p1 : (0 : Int) ≤ j := by omega
      have q1 : (j : Int) < l.length := by omega
      have HC := Aside0.mk hc
      clear hc hmem hd HD
      go_wp2_with fail
      refine HC.out.mono ?_
      rintro e w' ⟨rfl, hb⟩
      have HB2 := Aside0.mk (HB.out.trans (hb.mono HB.out.size))
      clear hb
      cases hpx : p x
      · have hi : idxN p (l.drop (j + 1)) (j + 1) = res := by have := HD2.out; rwa [hpx, if_neg (by simp)] at this
        have HI := Aside0.mk hi
        clear hi
        go_wp2
        go_roundg (l.length - (j + 1))
        case measure => omega
        case rel => exact ⟨j + 1, by simp, by omega, Nat.le_refl _, HB2, HI⟩
      · have hi : (j : Int) = res := by have := HD2.out; rwa [hpx, if_pos rfl] at this
        subst hi
        go_wp2
        go_ret
        exact ⟨rfl, HB2.out⟩
    · obtain rfl : j = l.length := by omega
      have hi : res = -1 := by have := HD.out; rw [List.drop_length] at this; exact this.symm
      subst hi
      go_wp2
      go_ret
      exact ⟨rfl, HB.out⟩
set_option maxHeartbeats 4000000 in
set_option maxRecDepth 100000 in
theorem contains49_90 (cb : Array Value) (p : S49 → Bool) (l : List S49) (A : Option Addr) (c : Nat) (w : World) (hl : l.length < 1000000) (hr : Kd.C k49 w A l.length l)
    (hf : ∀ (W : World) (x : S49), Below w.heap.size w W → x ∈ l →
      Calls Try.prog 90 (#[itemV x] ++ cb) W fun e w' => e = .returned (.bool (p x)) ∧ Below W.heap.size W w') :
    Calls Try.prog 89 #[.slice A l.length c, .func (.func 90) #[] cb] w fun e w' => e = .returned (.bool (l.any p)) ∧ Below w.heap.size w w' := by
  have HI := Aside0.mk (index49_90 cb p l A c w hl hr hf)
  have hany := idxN_any p l 0
  generalize l.any p = any at hany
  have HA := Aside0.mk hany
  generalize idxN p l 0 = res at HI HA
  clear hf hr hany
  go_enter Try.func89, Try.ntmps89
  go_wp2_with fail
  refine HI.out.mono ?_
  rintro e w' ⟨rfl, hb⟩
  have HB := Aside0.mk hb
  clear hb
  go_wp2
  go_ret
  exact ⟨by rw [← HA.out]; rfl, HB.out⟩
set_option maxHeartbeats 4000000 in
set_option maxRecDepth 100000 in
theorem index49_92 (cb : Array Value) (p : S49 → Bool) (l : List S49) (A : Option Addr) (c : Nat) (w : World) (hl : l.length < 1000000) (hr : Kd.C k49 w A l.length l)
    (hf : ∀ (W : World) (x : S49), Below w.heap.size w W → x ∈ l →
      Calls Try.prog 92 (#[itemV x] ++ cb) W fun e w' => e = .returned (.bool (p x)) ∧ Below W.heap.size W w') :
    Calls Try.prog 95 #[.slice A l.length c, .func (.func 92) #[] cb] w fun e w' => e = .returned (.int .i64 (idxN p l 0)) ∧ Below w.heap.size w w' := by
  have HF := Aside0.mk hf
  have HR := Aside0.mk hr
  have hu49 := Try.underlying49
  have mixed : Try.prog.follows .mixedOrders = true := by kernel_rfl
  clear hf hr
  generalize hres : idxN p l 0 = res
  have RS := Aside0.mk hres
  clear hres
  go_enter Try.func95, Try.ntmps95
  go_wp2
  go_loopg [8] l.length (fun kx s wr => ∃ (j : Nat), s = .int .i64 j ∧ j ≤ l.length ∧ l.length - j ≤ kx ∧ Aside0 (Below w.heap.size w wr) ∧ Aside0 (idxN p (l.drop j) j = res))
  case atStart => exact ⟨0, rfl, Nat.zero_le _, by omega, ⟨Below.refl _ _⟩, ⟨by rw [List.drop_zero]; exact RS.out⟩⟩
  case round =>
    obtain ⟨j, rfl, hj, hg, HB, HD⟩ := hrel
    by_cases hlt : j < l.length
    · obtain ⟨ad, rfl, x0, x1⟩ := at_T49 (Kd.C_below HR.out HB.out) (j : Int) (by omega) (by omega)
      obtain ⟨hmem, hd⟩ := rd49_mem hlt
      rw [Int.toNat_natCast] at x0 x1
      generalize rd_T49 l (j : Nat) = x at *
      have hc := HF.out wr x HB.out hmem
      have HD2 := Aside0.mk (show (if p x = true then (j : Int) else idxN p (l.drop (j + 1)) (j + 1)) = res by have := HD.out; rw [hd] at this; exact this)
      have p1 : (0 : Int) ≤ j := by omega
      have q1 : (j : Int) < l.length := by omega
      have HC := Aside0.mk hc
      clear hc hmem hd HD
      go_wp2_with fail
      refine HC.out.mono ?_
      rintro e w' ⟨rfl, hb⟩
      have HB2 := Aside0.mk (HB.out.trans (hb.mono HB.out.size))
      clear hb
      cases hpx : p x
      · have hi : idxN p (l.drop (j + 1)) (j + 1) = res := by have := HD2.out; rwa [hpx, if_neg (by simp)] at this
        have HI := Aside0.mk hi
        clear hi
        go_wp2
        go_roundg (l.length - (j + 1))
        case measure => omega
        case rel => exact ⟨j + 1, by simp, by omega, Nat.le_refl _, HB2, HI⟩
      · have hi : (j : Int) = res := by have := HD2.out; rwa [hpx, if_pos rfl] at this
        subst hi
        go_wp2
        go_ret
        exact ⟨rfl, HB2.out⟩
    · obtain rfl : j = l.length := by omega
      have hi : res = -1 := by have := HD.out; rw [List.drop_length] at this; exact this.symm
      subst hi
      go_wp2
      go_ret
      exact ⟨rfl, HB.out⟩
set_option maxHeartbeats 4000000 in
set_option maxRecDepth 100000 in
theorem contains49_92 (cb : Array Value) (p : S49 → Bool) (l : List S49) (A : Option Addr) (c : Nat) (w : World) (hl : l.length < 1000000) (hr : Kd.C k49 w A l.length l)
    (hf : ∀ (W : World) (x : S49), Below w.heap.size w W → x ∈ l →
      Calls Try.prog 92 (#[itemV x] ++ cb) W fun e w' => e = .returned (.bool (p x)) ∧ Below W.heap.size W w') :
    Calls Try.prog 89 #[.slice A l.length c, .func (.func 92) #[] cb] w fun e w' => e = .returned (.bool (l.any p)) ∧ Below w.heap.size w w' := by
  have HI := Aside0.mk (index49_92 cb p l A c w hl hr hf)
  have hany := idxN_any p l 0
  generalize l.any p = any at hany
  have HA := Aside0.mk hany
  generalize idxN p l 0 = res at HI HA
  clear hf hr hany
  go_enter Try.func89, Try.ntmps89
  go_wp2_with fail
  refine HI.out.mono ?_
  rintro e w' ⟨rfl, hb⟩
  have HB := Aside0.mk hb
  clear hb
  go_wp2
  go_ret
  exact ⟨by rw [← HA.out]; rfl, HB.out⟩
end Go.Proofs.Yteiladccdenpbaa.P
end
section
namespace Go.Proofs.Yteiladccdenpbaa.P
open Go.RowKit Go.Proofs.YteiladccdenpbaaW.PrintWords Go.Proofs.YteiladccdenpbaaW.PrintLast Go.Proofs.YteiladccdenpbaaW.PrintMore
set_option linter.unusedVariables false
set_option linter.unusedSimpArgs false
def CellAt (w0 : World) (P : Nat → Prop) (W : World) (g o : Nat) (x : S55) : Prop :=
  W.cell? ⟨g, o, none⟩ = some (.int .i64 x.f0) ∧ W.cell? ⟨g, o + 1, none⟩ = some (.bool x.f1) ∧ W.cell? ⟨g, o + 2, none⟩ = some (.bool x.f2.f0) ∧
    ∃ A c, W.cell? ⟨g, o + 3, none⟩ = some (.slice A x.f2.f1.length c) ∧ x.f2.f1.length ≤ c ∧ Kd.F k49 w0 P A x.f2.f1.length x.f2.f1
structure Wk (w0 : World) (P : Nat → Prop) (W : World) (b g : Nat) (l : List S55) (kp : Int) : Prop where
  box : W.heap[b]? = some (.cells #[.slice (some ⟨g, 0, none⟩) l.length l.length, .int .i64 kp] 113 (0, 0))
  blk : ∃ cs, W.heap[g]? = some (.cells cs 55 (0, 0)) ∧ cs.size = l.length * 4
  row : ∀ i : Nat, i < l.length → CellAt w0 P W g (i * 4) (rd_T55 l (i : Nat))
  low : Below w0.heap.size w0 W
  hb : w0.heap.size ≤ b
  hg : w0.heap.size ≤ g
theorem Wk.ne {w0 W : World} {P : Nat → Prop} {b g : Nat} {l : List S55} {kp : Int} (h : Wk w0 P W b g l kp) : b ≠ g := fun e => by
  obtain ⟨cs, hc, _⟩ := h.blk
  have := h.box
  rw [e, hc] at this
  cases this
theorem put_cell {W : World} {g : Nat} {t : TypeId} {cs : Array Value} (hc : W.heap[g]? = some (.cells cs t (0, 0))) (i : Nat) (u : Value) (hi : i < cs.size) (j : Nat) :
    (W.setCell ⟨g, i, none⟩ u).cell? ⟨g, j, none⟩ = if i = j then some u else W.cell? ⟨g, j, none⟩ := by
  rw [blk_cell (blk_put hc i u rfl) j, blk_cell hc j, Array.getElem?_setIfInBounds]
  by_cases e : i = j
  · subst e; rw [if_pos rfl, if_pos rfl]
    rw [if_pos hi]
  · rw [if_neg e, if_neg e]
theorem rd_set {l : List S55} {i : Nat} {x : S55} (hi : i < l.length) (j : Nat) : rd_T55 (l.set i x) (j : Nat) = if i = j then x else rd_T55 l (j : Nat) := by
  simp only [rd_T55, Int.toNat_natCast, List.getD_eq_getElem?_getD, List.getElem?_set]
  by_cases e : i = j
  · subst e; rw [if_pos rfl, if_pos hi, if_pos rfl]; rfl
  · rw [if_neg e, if_neg e]
theorem Wk.upd {w0 W W' : World} {P : Nat → Prop} {b g : Nat} {l : List S55} {kp : Int} (h : Wk w0 P W b g l kp) {i : Nat} (hi : i < l.length) (x' : S55) (hbox : W'.heap[b]? = W.heap[b]?)
    (hblk : ∃ cs, W'.heap[g]? = some (.cells cs 55 (0, 0)) ∧ cs.size = l.length * 4) (hfar : ∀ o, o < i * 4 ∨ i * 4 + 4 ≤ o → W'.cell? ⟨g, o, none⟩ = W.cell? ⟨g, o, none⟩)
    (hat : CellAt w0 P W' g (i * 4) x') (hlow : Below w0.heap.size w0 W') : Wk w0 P W' b g (l.set i x') kp := by
  refine ⟨by rw [List.length_set]; exact hbox.trans h.box, by rw [List.length_set]; exact hblk, fun j hj => ?_, hlow, h.hb, h.hg⟩
  rw [List.length_set] at hj
  rw [rd_set hi]
  by_cases e : i = j
  · subst e; rw [if_pos rfl]; exact hat
  · rw [if_neg e]
    obtain ⟨a, b', c, A, cc, d, e1, e2⟩ := h.row j hj
    refine ⟨(hfar _ (by omega)).trans a, (hfar _ (by omega)).trans b', (hfar _ (by omega)).trans c, A, cc, (hfar _ (by omega)).trans d, e1, e2⟩
theorem Wk.blkset {w0 W : World} {P : Nat → Prop} {b g : Nat} {l : List S55} {kp : Int} (h : Wk w0 P W b g l kp) {i q : Nat} (hi : i < l.length) (hq : q < 4) (u : Value) (x' : S55)
    (hat : CellAt w0 P (W.setCell ⟨g, i * 4 + q, none⟩ u) g (i * 4) x') : Wk w0 P (W.setCell ⟨g, i * 4 + q, none⟩ u) b g (l.set i x') kp := by
  obtain ⟨cs, hc, hs⟩ := h.blk
  refine h.upd hi x' ?_ ⟨_, blk_put hc (i * 4 + q) u rfl, by rw [Array.size_setIfInBounds]; exact hs⟩ (fun o ho => ?_) hat ?_
  · exact (Below.heap_setCell W _ u _ h.ne)
  · rw [put_cell hc _ _ (by omega), if_neg (by omega)]
  · exact below_set h.low h.hg
theorem Wk.setRef {w0 W : World} {P : Nat → Prop} {b g : Nat} {l : List S55} {kp : Int} (h : Wk w0 P W b g l kp) {i : Nat} (hi : i < l.length) (r : Int) :
    Wk w0 P (W.setCell ⟨g, i * 4, none⟩ (.int .i64 r)) b g (l.set i ⟨r, (rd_T55 l (i : Nat)).f1, (rd_T55 l (i : Nat)).f2⟩) kp := by
  obtain ⟨cs, hc, hs⟩ := h.blk
  obtain ⟨a, b', c, A, cc, d, e1, e2⟩ := h.row i hi
  refine Wk.blkset (q := 0) h hi (by omega) _ _ ⟨?_, ?_, ?_, A, cc, ?_, e1, e2⟩
  all_goals rw [put_cell hc _ _ (by omega)]
  · rw [if_pos (by omega)]
  · rw [if_neg (by omega)]; exact b'
  · rw [if_neg (by omega)]; exact c
  · rw [if_neg (by omega)]; exact d
theorem Wk.setPin {w0 W : World} {P : Nat → Prop} {b g : Nat} {l : List S55} {kp : Int} (h : Wk w0 P W b g l kp) {i : Nat} (hi : i < l.length) (r : Bool) :
    Wk w0 P (W.setCell ⟨g, i * 4 + 1, none⟩ (.bool r)) b g (l.set i ⟨(rd_T55 l (i : Nat)).f0, r, (rd_T55 l (i : Nat)).f2⟩) kp := by
  obtain ⟨cs, hc, hs⟩ := h.blk
  obtain ⟨a, b', c, A, cc, d, e1, e2⟩ := h.row i hi
  refine Wk.blkset (q := 1) h hi (by omega) _ _ ⟨?_, ?_, ?_, A, cc, ?_, e1, e2⟩
  all_goals rw [put_cell hc _ _ (by omega)]
  · rw [if_neg (by omega)]; exact a
  · rw [if_pos (by omega)]
  · rw [if_neg (by omega)]; exact c
  · rw [if_neg (by omega)]; exact d
theorem Wk.setLeaf {w0 W : World} {P : Nat → Prop} {b g : Nat} {l : List S55} {kp : Int} (h : Wk w0 P W b g l kp) {i : Nat} (hi : i < l.length) (r : Bool) :
    Wk w0 P (W.setCell ⟨g, i * 4 + 2, none⟩ (.bool r)) b g (l.set i ⟨(rd_T55 l (i : Nat)).f0, (rd_T55 l (i : Nat)).f1, ⟨r, (rd_T55 l (i : Nat)).f2.f1⟩⟩) kp := by
  obtain ⟨cs, hc, hs⟩ := h.blk
  obtain ⟨a, b', c, A, cc, d, e1, e2⟩ := h.row i hi
  refine Wk.blkset (q := 2) h hi (by omega) _ _ ⟨?_, ?_, ?_, A, cc, ?_, e1, e2⟩
  all_goals rw [put_cell hc _ _ (by omega)]
  · rw [if_neg (by omega)]; exact a
  · rw [if_neg (by omega)]; exact b'
  · rw [if_pos (by omega)]
  · rw [if_neg (by omega)]; exact d
theorem Wk.setIt {w0 W : World} {P : Nat → Prop} {b g : Nat} {l : List S55} {kp : Int} (h : Wk w0 P W b g l kp) {i : Nat} (hi : i < l.length) (it : List S49) (A : Option Addr) (n c : Nat) (hn : n = it.length) (hl : it.length ≤ c) (hr : Kd.F k49 w0 P A it.length it) :
    Wk w0 P (W.setCell ⟨g, i * 4 + 3, none⟩ (.slice A n c)) b g (l.set i ⟨(rd_T55 l (i : Nat)).f0, (rd_T55 l (i : Nat)).f1, ⟨(rd_T55 l (i : Nat)).f2.f0, it⟩⟩) kp := by
  obtain ⟨cs, hc, hs⟩ := h.blk
  obtain ⟨a, b', c', A', cc, d, e1, e2⟩ := h.row i hi
  refine Wk.blkset (q := 3) h hi (by omega) _ _ ⟨?_, ?_, ?_, A, c, ?_, hl, hr⟩
  all_goals rw [put_cell hc _ _ (by omega)]
  · rw [if_neg (by omega)]; exact a
  · rw [if_neg (by omega)]; exact b'
  · rw [if_neg (by omega)]; exact c'
  · rw [if_pos (by omega), hn]
theorem Wk.below {w0 W W' : World} {P : Nat → Prop} {b g : Nat} {l : List S55} {kp : Int} (h : Wk w0 P W b g l kp) (hb : Below W.heap.size W W') : Wk w0 P W' b g l kp := by
  obtain ⟨cs, hc, hs⟩ := h.blk
  have hbg := hb.block g (Array.getElem?_eq_some_iff.1 hc).1
  have hce : ∀ o, W'.cell? ⟨g, o, none⟩ = W.cell? ⟨g, o, none⟩ := fun o => by rw [blk_cell (hbg.trans hc) o, blk_cell hc o]
  refine ⟨(hb.block b (Array.getElem?_eq_some_iff.1 h.box).1).trans h.box, ⟨cs, hbg.trans hc, hs⟩, fun i hi => ?_, h.low.trans (hb.mono h.low.size), h.hb, h.hg⟩
  obtain ⟨a, b', c, A, cc, d, e1, e2⟩ := h.row i hi
  exact ⟨(hce _).trans a, (hce _).trans b', (hce _).trans c, A, cc, (hce _).trans d, e1, e2⟩
def holdP (l : List S55) (p : Int) : Option (List S55) :=
  if 0 ≤ p ∧ p < (l.length : Int) ∧ l.length < 1000000 ∧ -1000000000 < (rd_T55 l p).f0 ∧ (rd_T55 l p).f0 < 1000000000 then some (l.set p.toNat ⟨(rd_T55 l p).f0 + 1, (rd_T55 l p).f1, (rd_T55 l p).f2⟩) else none
set_option maxHeartbeats 4000000 in
set_option maxRecDepth 100000 in
theorem hold_walk (w0 : World) (P : Nat → Prop) (b g : Nat) (l l' : List S55) (kp p : Int) (W : World) (h : Wk w0 P W b g l kp) (hh : holdP l p = some l') :
    Calls Try.prog 77 #[.pointer (some ⟨b, 0, none⟩), .int .i64 p] W fun e W' => (∃ v, e = .returned v) ∧ Wk w0 P W' b g l' kp ∧ KeepBut W W' g none := by
  unfold holdP at hh
  have hcond : 0 ≤ p ∧ p < (l.length : Int) ∧ l.length < 1000000 ∧ -1000000000 < (rd_T55 l p).f0 ∧ (rd_T55 l p).f0 < 1000000000 := by
    by_cases hc : 0 ≤ p ∧ p < (l.length : Int) ∧ l.length < 1000000 ∧ -1000000000 < (rd_T55 l p).f0 ∧ (rd_T55 l p).f0 < 1000000000
    · exact hc
    · rw [if_neg hc] at hh; cases hh
  rw [if_pos hcond] at hh
  obtain ⟨h0, h1, hs, hr⟩ := hcond
  obtain ⟨i, rfl⟩ : ∃ i : Nat, p = (i : Int) := ⟨p.toNat, by omega⟩
  have hi : i < l.length := by omega
  rw [Int.toNat_natCast] at hh
  have HL := Aside0.mk (Option.some.inj hh)
  obtain ⟨x0, x1, x2, A, c, x3, hl3, hi3⟩ := h.row i hi
  have b0 : W.cell? ⟨b, 0, none⟩ = some (.slice (some ⟨g, 0, none⟩) l.length l.length) := (blk_cell h.box 0).trans rfl
  obtain ⟨cs, hc, hcs⟩ := h.blk
  have f0 := blk_frozen hc (i * 4)
  have H := Aside0.mk (Wk.setRef h hi ((rd_T55 l (i : Nat)).f0 + 1))
  generalize rd_T55 l (i : Nat) = x at *
  clear h hc hcs hh hl3 hi3 x1 x2 x3
  have hu24 := Try.underlying24
  have hu55 := Try.underlying55
  go_enter Try.func77, Try.ntmps77
  go_wp2
  go_end0
  exact ⟨⟨_, rfl⟩, by rw [← HL.out]; exact H.out, (KeepBut.refl _ _ _).set_ _ _⟩
end Go.Proofs.Yteiladccdenpbaa.P
end
section
namespace Go.Proofs.Yteiladccdenpbaa.P
open Go.RowKit Go.Proofs.YteiladccdenpbaaW.PrintWords Go.Proofs.YteiladccdenpbaaW.PrintLast Go.Proofs.YteiladccdenpbaaW.PrintMore
set_option linter.unusedVariables false
set_option linter.unusedSimpArgs false
def foldO (f : List S55 → Int → Option (List S55)) : List S49 → List S55 → Option (List S55)
  | [], l => some l
  | x :: xs, l => (f l x.f1).bind fun l' => foldO f xs l'
def eachP (f : List S55 → Int → Option (List S55)) (leaf : Bool) (it : List S49) (l : List S55) : Option (List S55) := if leaf = true then some l else if it.length < 1000000 then foldO f it l else none
set_option maxHeartbeats 4000000 in
set_option maxRecDepth 100000 in
theorem each82 (w0 : World) (P : Nat → Prop) (W0 : World) (b g : Nat) (kp : Int) (f : List S55 → Int → Option (List S55))
    (hdo : ∀ (W : World) (l l' : List S55) (p : Int), Wk w0 P W b g l kp → KeepBut W0 W g none → f l p = some l' →
      Calls Try.prog 82 #[.pointer (some ⟨b, 0, none⟩), .int .i64 p] W fun e W' => (∃ v, e = .returned v) ∧ Wk w0 P W' b g l' kp ∧ KeepBut W W' g none)
    (leaf : Bool) (A : Option Addr) (c : Nat) (it : List S49) (l l' : List S55) (hn : Wk w0 P W0 b g l kp) (hit : Kd.C k49 w0 A it.length it) (hf : eachP f leaf it l = some l') :
    Calls Try.prog 74 #[.pointer (some ⟨b, 0, none⟩), .agg #[.bool leaf, .slice A it.length c], .func (.func 82) #[.pointer (some ⟨b, 0, none⟩)] #[]] W0 fun e W' => (∃ v, e = .returned v) ∧ Wk w0 P W' b g l' kp ∧ KeepBut W0 W' g none := by
  have HN := Aside0.mk hn
  have HI := Aside0.mk hit
  have HF := Aside0.mk hf
  have HDO := Aside0.mk hdo
  have hu53 := Try.underlying53
  have hu49 := Try.underlying49
  clear hn hit hf hdo
  cases leaf with
  | true =>
    go_enter Try.func74, Try.ntmps74
    go_wp2
    refine bodyPost_ret (results_none rfl _ _ _) rfl ?_
    have e : l = l' := by exact Option.some.inj HF.out
    subst e
    exact ⟨⟨_, rfl⟩, HN.out.below ((Below.refl _ _).alloc (Nat.le_refl _) _), keep_alloc (KeepBut.refl _ _ _) _⟩
  | false =>
    have hlen : it.length < 1000000 := by
      have := HF.out
      unfold eachP at this
      rw [if_neg (by simp)] at this
      by_cases hc : it.length < 1000000
      · exact hc
      · rw [if_neg hc] at this; cases this
    have HG := Aside0.mk (show foldO f it l = some l' by have := HF.out; unfold eachP at this; rwa [if_neg (by simp), if_pos hlen] at this)
    have HSZ := Aside0.mk HN.out.hg
    clear HF
    go_enter Try.func74, Try.ntmps74
    go_wp2
    go_loopg [13] it.length (fun kx s wr => ∃ (j : Nat) (lj : List S55), s = .int .i64 j ∧ j ≤ it.length ∧ it.length - j ≤ kx ∧ Aside0 (Wk w0 P wr b g lj kp) ∧ Aside0 (KeepBut W0 wr g none) ∧ Aside0 (foldO f (it.drop j) lj = some l'))
    case atStart => exact ⟨0, l, rfl, Nat.zero_le _, by omega, ⟨HN.out.below ((Below.refl _ _).alloc (Nat.le_refl _) _)⟩, ⟨keep_alloc (KeepBut.refl _ _ _) _⟩, ⟨by rw [List.drop_zero]; exact HG.out⟩⟩
    case round =>
      obtain ⟨j, lj, rfl, hj, hgg, HWr, HKr, HFr⟩ := hrel
      by_cases hlt : j < it.length
      · obtain ⟨ad, rfl, x0, x1⟩ := at_T49 (Kd.C_below HI.out HWr.out.low) (j : Int) (by omega) (by omega)
        obtain ⟨-, hd⟩ := rd49_mem hlt
        rw [Int.toNat_natCast] at x0 x1
        have hfd := HFr.out
        rw [hd] at hfd
        generalize rd_T49 it (j : Nat) = x at *
        simp only [foldO] at hfd
        obtain ⟨l2, h2, h3⟩ := Option.bind_eq_some_iff.1 hfd
        have H2 := Aside0.mk h2
        have H3 := Aside0.mk h3
        have p1 : (0 : Int) ≤ j := by omega
        have q1 : (j : Int) < it.length := by omega
        have hbl : Below wr.heap.size wr (wr.alloc (.cells #[.int .i64 x.f0, .int .i64 x.f1] 49)) := (Below.refl _ wr).alloc (Nat.le_refl _) _
        have HC := Aside0.mk (HDO.out _ lj l2 x.f1 (HWr.out.below hbl) (HKr.out.trans (KeepBut.of_below hbl g none) (.inl rfl)) h2)
        have HK2 := Aside0.mk (HKr.out.trans (KeepBut.of_below hbl g none) (.inl rfl))
        clear hfd h2 h3 hd HFr hbl
        go_wp2_with fail
        refine HC.out.mono ?_
        rintro e w' ⟨⟨v, rfl⟩, hw, hk⟩
        have HW2 := Aside0.mk hw
        have HK3 := Aside0.mk (HK2.out.trans hk (.inl rfl))
        clear hw hk
        go_wp2
        go_roundg (it.length - (j + 1))
        case measure => omega
        case rel => exact ⟨j + 1, l2, by simp, by omega, Nat.le_refl _, HW2, HK3, H3⟩
      · obtain rfl : j = it.length := by omega
        have e : lj = l' := by have := HFr.out; rw [List.drop_length] at this; exact Option.some.inj this
        subst e
        go_wp2
        go_end0
        exact ⟨⟨_, rfl⟩, HWr.out, HKr.out⟩
set_option maxHeartbeats 4000000 in
set_option maxRecDepth 100000 in
theorem each75 (w0 : World) (P : Nat → Prop) (W0 : World) (b g gh gw : Nat) (kp : Int) (f : List S55 → Int → Option (List S55))
    (hdo : ∀ (W : World) (l l' : List S55) (p : Int), Wk w0 P W b g l kp → KeepBut W0 W g none → f l p = some l' →
      Calls Try.prog 75 #[.int .i64 p, .pointer (some ⟨gh, 0, none⟩), .pointer (some ⟨gw, 0, none⟩)] W fun e W' => (∃ v, e = .returned v) ∧ Wk w0 P W' b g l' kp ∧ KeepBut W W' g none)
    (leaf : Bool) (A : Option Addr) (c : Nat) (it : List S49) (l l' : List S55) (hn : Wk w0 P W0 b g l kp) (hit : Kd.C k49 w0 A it.length it) (hf : eachP f leaf it l = some l') :
    Calls Try.prog 74 #[.pointer (some ⟨b, 0, none⟩), .agg #[.bool leaf, .slice A it.length c], .func (.func 75) #[] #[.pointer (some ⟨gh, 0, none⟩), .pointer (some ⟨gw, 0, none⟩)]] W0 fun e W' => (∃ v, e = .returned v) ∧ Wk w0 P W' b g l' kp ∧ KeepBut W0 W' g none := by
  have HN := Aside0.mk hn
  have HI := Aside0.mk hit
  have HF := Aside0.mk hf
  have HDO := Aside0.mk hdo
  have hu53 := Try.underlying53
  have hu49 := Try.underlying49
  clear hn hit hf hdo
  cases leaf with
  | true =>
    go_enter Try.func74, Try.ntmps74
    go_wp2
    refine bodyPost_ret (results_none rfl _ _ _) rfl ?_
    have e : l = l' := by exact Option.some.inj HF.out
    subst e
    exact ⟨⟨_, rfl⟩, HN.out.below ((Below.refl _ _).alloc (Nat.le_refl _) _), keep_alloc (KeepBut.refl _ _ _) _⟩
  | false =>
    have hlen : it.length < 1000000 := by
      have := HF.out
      unfold eachP at this
      rw [if_neg (by simp)] at this
      by_cases hc : it.length < 1000000
      · exact hc
      · rw [if_neg hc] at this; cases this
    have HG := Aside0.mk (show foldO f it l = some l' by have := HF.out; unfold eachP at this; rwa [if_neg (by simp), if_pos hlen] at this)
    have HSZ := Aside0.mk HN.out.hg
    clear HF
    go_enter Try.func74, Try.ntmps74
    go_wp2
    go_loopg [13] it.length (fun kx s wr => ∃ (j : Nat) (lj : List S55), s = .int .i64 j ∧ j ≤ it.length ∧ it.length - j ≤ kx ∧ Aside0 (Wk w0 P wr b g lj kp) ∧ Aside0 (KeepBut W0 wr g none) ∧ Aside0 (foldO f (it.drop j) lj = some l'))
    case atStart => exact ⟨0, l, rfl, Nat.zero_le _, by omega, ⟨HN.out.below ((Below.refl _ _).alloc (Nat.le_refl _) _)⟩, ⟨keep_alloc (KeepBut.refl _ _ _) _⟩, ⟨by rw [List.drop_zero]; exact HG.out⟩⟩
    case round =>
      obtain ⟨j, lj, rfl, hj, hgg, HWr, HKr, HFr⟩ := hrel
      by_cases hlt : j < it.length
      · obtain ⟨ad, rfl, x0, x1⟩ := at_T49 (Kd.C_below HI.out HWr.out.low) (j : Int) (by omega) (by omega)
        obtain ⟨-, hd⟩ := rd49_mem hlt
        rw [Int.toNat_natCast] at x0 x1
        have hfd := HFr.out
        rw [hd] at hfd
        generalize rd_T49 it (j : Nat) = x at *
        simp only [foldO] at hfd
        obtain ⟨l2, h2, h3⟩ := Option.bind_eq_some_iff.1 hfd
        have H2 := Aside0.mk h2
        have H3 := Aside0.mk h3
        have p1 : (0 : Int) ≤ j := by omega
        have q1 : (j : Int) < it.length := by omega
        have hbl : Below wr.heap.size wr (wr.alloc (.cells #[.int .i64 x.f0, .int .i64 x.f1] 49)) := (Below.refl _ wr).alloc (Nat.le_refl _) _
        have HC := Aside0.mk (HDO.out _ lj l2 x.f1 (HWr.out.below hbl) (HKr.out.trans (KeepBut.of_below hbl g none) (.inl rfl)) h2)
        have HK2 := Aside0.mk (HKr.out.trans (KeepBut.of_below hbl g none) (.inl rfl))
        clear hfd h2 h3 hd HFr hbl
        go_wp2_with fail
        refine HC.out.mono ?_
        rintro e w' ⟨⟨v, rfl⟩, hw, hk⟩
        have HW2 := Aside0.mk hw
        have HK3 := Aside0.mk (HK2.out.trans hk (.inl rfl))
        clear hw hk
        go_wp2
        go_roundg (it.length - (j + 1))
        case measure => omega
        case rel => exact ⟨j + 1, l2, by simp, by omega, Nat.le_refl _, HW2, HK3, H3⟩
      · obtain rfl : j = it.length := by omega
        have e : lj = l' := by have := HFr.out; rw [List.drop_length] at this; exact Option.some.inj this
        subst e
        go_wp2
        go_end0
        exact ⟨⟨_, rfl⟩, HWr.out, HKr.out⟩
theorem Wk.clear4 {w0 W : World} {P : Nat → Prop} {b g : Nat} {l : List S55} {kp : Int} (h : Wk w0 P W b g l kp) {i : Nat} (hi : i < l.length) (r : Int) :
    Wk w0 P ((((W.setCell ⟨g, i * 4, none⟩ (.int .i64 r)).setCell ⟨g, i * 4 + 2, none⟩ (.bool false)).setCell ⟨g, i * 4 + 2 + 1, none⟩ (.slice none 0 0)).setCell ⟨g, i * 4 + 1, none⟩ (.bool true)) b g (l.set i ⟨r, true, ⟨false, []⟩⟩) kp := by
  have h1 := Wk.setRef h hi r
  have h2 := Wk.setLeaf h1 (by rw [List.length_set]; exact hi) false
  rw [rd_set hi, if_pos rfl, List.set_set] at h2
  have h3 := Wk.setIt h2 (by rw [List.length_set]; exact hi) [] none 0 0 rfl (Nat.le_refl _) (Kd.F_nil k49 w0 P)
  rw [rd_set hi, if_pos rfl, List.set_set] at h3
  have h4 := Wk.setPin h3 (by rw [List.length_set]; exact hi) true
  rw [rd_set hi, if_pos rfl, List.set_set] at h4
  exact h4
def looseP : Nat → List S55 → Int → Option (List S55)
  | 0, _, _ => none
  | k + 1, l, p =>
    if 0 ≤ p ∧ p < (l.length : Int) ∧ l.length < 1000000 ∧ -1000000000 < (rd_T55 l p).f0 ∧ (rd_T55 l p).f0 < 1000000000 then
      (if (rd_T55 l p).f0 = 0 then some l else
        if 0 < (rd_T55 l p).f0 - 1 then some (l.set p.toNat ⟨(rd_T55 l p).f0 - 1, (rd_T55 l p).f1, (rd_T55 l p).f2⟩) else
          eachP (looseP k) (rd_T55 l p).f2.f0 (rd_T55 l p).f2.f1 (l.set p.toNat ⟨(rd_T55 l p).f0 - 1, true, ⟨false, []⟩⟩))
    else none
set_option maxHeartbeats 4000000 in
set_option maxRecDepth 100000 in
theorem loose_walk (w0 : World) (P : Nat → Prop) (b g : Nat) (kp : Int) (k : Nat) : ∀ (W : World) (l l' : List S55) (p : Int), Wk w0 P W b g l kp → looseP k l p = some l' →
    Calls Try.prog 82 #[.pointer (some ⟨b, 0, none⟩), .int .i64 p] W fun e W' => (∃ v, e = .returned v) ∧ Wk w0 P W' b g l' kp ∧ KeepBut W W' g none := by
  induction k with
  | zero => intro W l l' p h hh; simp [looseP] at hh
  | succ k ih =>
  intro W l l' p h hh
  rw [looseP] at hh
  have hcond : 0 ≤ p ∧ p < (l.length : Int) ∧ l.length < 1000000 ∧ -1000000000 < (rd_T55 l p).f0 ∧ (rd_T55 l p).f0 < 1000000000 := by
    by_cases hc : 0 ≤ p ∧ p < (l.length : Int) ∧ l.length < 1000000 ∧ -1000000000 < (rd_T55 l p).f0 ∧ (rd_T55 l p).f0 < 1000000000
    · exact hc
    · rw [if_neg hc] at hh; cases hh
  rw [if_pos hcond] at hh
  obtain ⟨h0, h1, hs, hr⟩ := hcond
  obtain ⟨i, rfl⟩ : ∃ i : Nat, p = (i : Int) := ⟨p.toNat, by omega⟩
  have hi : i < l.length := by omega
  rw [Int.toNat_natCast] at hh
  obtain ⟨x0, x1, x2, A, c, x3, hl3, hi3⟩ := h.row i hi
  have b0 : W.cell? ⟨b, 0, none⟩ = some (.slice (some ⟨g, 0, none⟩) l.length l.length) := (blk_cell h.box 0).trans rfl
  obtain ⟨cs, hc, hcs⟩ := h.blk
  have f0 := blk_frozen hc (i * 4)
  have f1 := blk_frozen hc (i * 4 + 1)
  have f2 := blk_frozen hc (i * 4 + 2)
  have f3 := blk_frozen hc (i * 4 + 3)
  have hgl := (Array.getElem?_eq_some_iff.1 hc).1
  have H := Aside0.mk h
  have hu24 := Try.underlying24
  have hu55 := Try.underlying55
  have hu53 := Try.underlying53
  by_cases hz : (rd_T55 l (i : Nat)).f0 = 0
  · rw [if_pos hz] at hh
    have e := Option.some.inj hh
    subst e
    have hzb : ((rd_T55 l (i : Nat)).f0 == 0) = true := beq_iff_eq.2 hz
    generalize rd_T55 l (i : Nat) = x at *
    clear h hc hcs hh hl3 hi3 x1 x2 x3 hz
    go_enter Try.func82, Try.ntmps82
    go_wp2
    refine bodyPost_ret (results_none rfl _ _ _) rfl ?_
    exact ⟨⟨_, rfl⟩, H.out, KeepBut.refl _ _ _⟩
  rw [if_neg hz] at hh
  have hzb : ((rd_T55 l (i : Nat)).f0 == 0) = false := beq_eq_false_iff_ne.2 hz
  by_cases hp : 0 < (rd_T55 l (i : Nat)).f0 - 1
  · rw [if_pos hp] at hh
    have HL := Aside0.mk (Option.some.inj hh)
    have HS := Aside0.mk (Wk.setRef h hi ((rd_T55 l (i : Nat)).f0 - 1))
    have hpb : decide (0 < (rd_T55 l (i : Nat)).f0 - 1) = true := decide_eq_true hp
    have hq : 1 < (rd_T55 l (i : Nat)).f0 := by omega
    have hqb : decide (1 < (rd_T55 l (i : Nat)).f0) = true := decide_eq_true hq
    generalize rd_T55 l (i : Nat) = x at *
    clear h hcs hh hl3 hi3 x1 x2 x3 hz hp
    have y0 : (W.setCell ⟨g, i * 4, none⟩ (.int .i64 (x.f0 - 1))).cell? ⟨g, i * 4, none⟩ = some (.int .i64 (x.f0 - 1)) := by
      have := HS.out.row i (by rw [List.length_set]; exact hi)
      rw [rd_set hi, if_pos rfl] at this
      exact this.1
    clear hc
    go_enter Try.func82, Try.ntmps82
    go_wp2
    refine bodyPost_ret (results_none rfl _ _ _) rfl ?_
    exact ⟨⟨_, rfl⟩, by rw [← HL.out]; exact HS.out, (KeepBut.refl _ _ _).set_ _ _⟩
  · rw [if_neg hp] at hh
    have HL := Aside0.mk hh
    have hqb : decide (1 < (rd_T55 l (i : Nat)).f0) = false := decide_eq_false (by omega)
    have hq1 : (rd_T55 l (i : Nat)).f0 ≤ 1 := by omega
    have HI3 := Aside0.mk hi3
    have HL3 := Aside0.mk hl3
    have HS := Aside0.mk (Wk.clear4 h hi ((rd_T55 l (i : Nat)).f0 - 1))
    have HIH := Aside0.mk ih
    generalize hx : rd_T55 l (i : Nat) = x at *
    have HX := Aside0.mk hx
    clear h hcs hh hl3 hi3 hz hp hc ih hx
    go_enter Try.func82, Try.ntmps82
    go_wp2_with fail
    refine (each82 w0 P _ b g kp (looseP k) (fun W2 l2 l3 p2 hw2 hk2 hf2 => HIH.out W2 l2 l3 p2 hw2 hf2) x.f2.f0 A c x.f2.f1 _ l' (HS.out.below ((Below.refl _ _).alloc (Nat.le_refl _) _)) (Kd.F_now HI3.out) HL.out).mono ?_
    rintro e W3 ⟨⟨v, rfl⟩, hw3, hk3⟩
    have HW3 := Aside0.mk hw3
    have HK3 := Aside0.mk ((keep_alloc (((((KeepBut.refl W g none).set_ (i * 4) (.int .i64 (x.f0 - 1))).set_ (i * 4 + 2) (.bool false)).set_ (i * 4 + 2 + 1) (.slice none 0 0)).set_ (i * 4 + 1) (.bool true)) (.cells #[.bool x.f2.f0, .slice A x.f2.f1.length c] 53)).trans hk3 (.inl rfl))
    clear hw3 hk3
    go_wp2
    go_end0
    exact ⟨⟨_, rfl⟩, HW3.out, HK3.out⟩
end Go.Proofs.Yteiladccdenpbaa.P
end
section
namespace Go.Proofs.Yteiladccdenpbaa.P
open Go.RowKit Go.Proofs.YteiladccdenpbaaW.PrintWords Go.Proofs.YteiladccdenpbaaW.PrintLast Go.Proofs.YteiladccdenpbaaW.PrintMore
set_option linter.unusedVariables false
set_option linter.unusedSimpArgs false
theorem run_copy_all {P : Program} (w : World) (dT sT ty elem : TypeId) (g n c : Nat) (a : Addr) (size : Nat) (cur : Array Value) (t : TypeId) (cs : List Value)
    (hu : P.underlying dT = some (.slice elem)) (hs : (P.info? elem).map (·.size) = some size)
    (hg : w.heap[g]? = some (.cells cur t (0, 0))) (hn : cs.length = n * size)
    (hsrc : ∀ j v, cs[j]? = some v → w.cell? (a.add j) = some v) (hfit : cs.length = cur.size) (h1 : ∀ v ∈ cs, v.oneCell' = true) :
    (Builtin.copy_ #[dT, sT] ty #[.slice (some ⟨g, 0, none⟩) n n, .slice (some a) n c]).run P w =
      .ok (goInt n) (w.setRow g cs.toArray) := by
  have hl := run_loadCells_list (P := P) w a cs hsrc
  have hst := run_storeCells_at P g 0 t cs 0 cur w hg (by omega) h1
  rw [show cur.toList.take (0 + 0) ++ cs ++ cur.toList.drop (0 + 0 + cs.length) = cs by
    rw [List.drop_eq_nil_of_le (by simp; omega)]; simp] at hst
  cases hq : P.info? elem with
  | none => simp [hq] at hs
  | some i =>
    have hi : i.size = size := by simpa [hq] using hs
    simp [Builtin.copy_, run_underlying hu, Builtin.lenOf, Builtin.firstCells, sizeOf, typeInfo, hq, hi, ← hn, hl, hst]
theorem alloc_new (W : World) (o : Obj) : (W.alloc o).heap[W.heap.size]? = some o := by
  show (W.heap.push o)[W.heap.size]? = some o
  simp
theorem add_g (g k : Nat) : (⟨g, 0, none⟩ : Addr).add k = ⟨g, k, none⟩ := by unfold Addr.add; split <;> simp_all
theorem add_sum (a : Addr) (x y : Nat) : (a.add x).add y = a.add (x + y) := by
  unfold Addr.add
  by_cases hx : x = 0 <;> by_cases hy : y = 0 <;> simp [hx, hy, Nat.add_assoc]
theorem src_cells {w : World} {P : Nat → Prop} {ad : Addr} {l : List S55} (hC : Kd.F k55 w P (some ad) l.length l) : ∃ cs : List Value, cs.length = l.length * 4 ∧ (∀ j v, cs[j]? = some v → w.cell? (ad.add j) = some v) ∧ (∀ v ∈ cs, v.oneCell' = true) ∧
    ∀ i : Nat, i < l.length → ∃ A c, cs[i * 4]? = some (.int .i64 (rd_T55 l (i : Nat)).f0) ∧ cs[i * 4 + 1]? = some (.bool (rd_T55 l (i : Nat)).f1) ∧ cs[i * 4 + 2]? = some (.bool (rd_T55 l (i : Nat)).f2.f0) ∧ cs[i * 4 + 3]? = some (.slice A (rd_T55 l (i : Nat)).f2.f1.length c) ∧ (rd_T55 l (i : Nat)).f2.f1.length ≤ c ∧ Kd.F k49 w P A (rd_T55 l (i : Nat)).f2.f1.length (rd_T55 l (i : Nat)).f2.f1 := by
  have cell : ∀ i : Nat, i < l.length → ∃ A c, w.cell? (ad.add (i * 4)) = some (.int .i64 (rd_T55 l (i : Nat)).f0) ∧ w.cell? (ad.add (i * 4 + 1)) = some (.bool (rd_T55 l (i : Nat)).f1) ∧ w.cell? (ad.add (i * 4 + 2)) = some (.bool (rd_T55 l (i : Nat)).f2.f0) ∧ w.cell? (ad.add (i * 4 + 3)) = some (.slice A (rd_T55 l (i : Nat)).f2.f1.length c) ∧ (rd_T55 l (i : Nat)).f2.f1.length ≤ c ∧ Kd.F k49 w P A (rd_T55 l (i : Nat)).f2.f1.length (rd_T55 l (i : Nat)).f2.f1 := by
    intro i hi
    have hg := Kd.F_get hC z55 (i : Int) (by omega) (by omega)
    obtain ⟨ad', c, e, _, hK, hc0, _⟩ := hg
    obtain rfl : ad = ad' := by injection e
    obtain ⟨A3, c3, rfl, l3, g3⟩ := k55_openF hK
    rw [Int.toNat_natCast] at hc0
    have hc : ∀ j u, [Value.int .i64 (rd_T55 l (i : Nat)).f0, .bool (rd_T55 l (i : Nat)).f1, .bool (rd_T55 l (i : Nat)).f2.f0, .slice A3 (rd_T55 l (i : Nat)).f2.f1.length c3][j]? = some u → w.cell? (ad.add (i * 4 + j)) = some u := hc0
    exact ⟨A3, c3, hc 0 _ rfl, hc 1 _ rfl, hc 2 _ rfl, hc 3 _ rfl, l3, g3⟩
  refine ⟨(List.range (l.length * 4)).map fun j => (w.cell? (ad.add j)).getD undef, by simp, fun j v hj => ?_, fun v hv => ?_, fun i hi => ?_⟩
  · rw [List.getElem?_map] at hj
    obtain ⟨j', hj', rfl⟩ := Option.map_eq_some_iff.1 hj
    obtain ⟨hlt, rfl⟩ := List.getElem?_eq_some_iff.1 hj'
    rw [List.length_range] at hlt
    rw [List.getElem_range] at *
    obtain ⟨A, c, a0, a1, a2, a3, _, _⟩ := cell (j / 4) (by omega)
    have hm : j % 4 = 0 ∨ j % 4 = 1 ∨ j % 4 = 2 ∨ j % 4 = 3 := by omega
    rcases hm with h | h | h | h
    · rw [show j = j / 4 * 4 by omega, a0]; rfl
    · rw [show j = j / 4 * 4 + 1 by omega, a1]; rfl
    · rw [show j = j / 4 * 4 + 2 by omega, a2]; rfl
    · rw [show j = j / 4 * 4 + 3 by omega, a3]; rfl
  · obtain ⟨j, hj, rfl⟩ := List.mem_map.1 hv
    rw [List.mem_range] at hj
    obtain ⟨A, c, a0, a1, a2, a3, _, _⟩ := cell (j / 4) (by omega)
    have hm : j % 4 = 0 ∨ j % 4 = 1 ∨ j % 4 = 2 ∨ j % 4 = 3 := by omega
    rcases hm with h | h | h | h
    · rw [show j = j / 4 * 4 by omega, a0]; rfl
    · rw [show j = j / 4 * 4 + 1 by omega, a1]; rfl
    · rw [show j = j / 4 * 4 + 2 by omega, a2]; rfl
    · rw [show j = j / 4 * 4 + 3 by omega, a3]; rfl
  · obtain ⟨A, c, a0, a1, a2, a3, b0, b1⟩ := cell i hi
    have at_ : ∀ j, j < l.length * 4 → ((List.range (l.length * 4)).map fun j => (w.cell? (ad.add j)).getD undef)[j]? = some ((w.cell? (ad.add j)).getD undef) := fun j hj => by
      rw [List.getElem?_map, List.getElem?_range hj]; rfl
    refine ⟨A, c, ?_, ?_, ?_, ?_, b0, b1⟩
    · rw [at_ _ (by omega), a0]; rfl
    · rw [at_ _ (by omega), a1]; rfl
    · rw [at_ _ (by omega), a2]; rfl
    · rw [at_ _ (by omega), a3]; rfl
set_option maxHeartbeats 4000000 in
set_option maxRecDepth 100000 in
theorem own_walk (P : Nat → Prop) (A : Option Addr) (c : Nat) (l : List S55) (kp : Int) (w : World) (hr : Kd.F k55 w P A l.length l) (h0 : 0 < l.length) (hl : l.length < 1000000) :
    Calls Try.prog 73 #[.agg #[.slice A l.length c, .int .i64 kp]] w fun e w' => ∃ b g, e = .returned (.pointer (some ⟨b, 0, none⟩)) ∧ Wk w P w' b g l kp ∧ Below w.heap.size w w' := by
  obtain ⟨ad, A3, c3, rfl, -⟩ := at_T55 (Kd.F_now hr) 0 (by omega) (by omega)
  obtain ⟨cs, hlen, hcs, hone, hat⟩ := src_cells hr
  obtain ⟨i0, hi, hz0, hz1, hz2⟩ := info_parts info55
  have hmk : ∀ W : World, (Instr.makeSlice 22 (.int .i64 (l.length : Int)) (.int .i64 (l.length : Int))).run Try.prog W = .ok (.slice (some ⟨W.heap.size, 0, none⟩) l.length l.length) (W.alloc (.cells (madeCells (Value.agg #[.int .i64 0, .bool false, .bool false, .slice none 0 0]).cells (l.length * 4)) 55)) := fun W => by
    have := run_make (P := Try.prog) W 22 55 i0 _ Try.underlying22 hi hz0 .i64 .i64 (l.length : Int) (l.length : Int) (by omega) (Int.le_refl _) (by rw [hz2]; omega) (by omega)
    rw [hz1, Int.toNat_natCast] at this
    exact this
  obtain ⟨Z, hZ⟩ : ∃ Z, madeCells (Value.agg #[.int .i64 0, .bool false, .bool false, .slice none 0 0]).cells (l.length * 4) = Z := ⟨_, rfl⟩
  have hZs : Z.size = l.length * 4 := by rw [← hZ]; simp [madeCells]
  rw [hZ] at hmk
  obtain ⟨W2, hW2⟩ : ∃ W2, (w.alloc (.cells #[.slice (some ad) l.length c, .int .i64 kp] 24)).alloc (.cells Z 55) = W2 := ⟨_, rfl⟩
  have hb2 : Below w.heap.size w W2 := by rw [← hW2]; exact ((Below.refl _ w).alloc (Nat.le_refl _) _).alloc (by simp) _
  have hg2 : W2.heap[w.heap.size + 1]? = some (.cells Z 55 (0, 0)) := by
    rw [← hW2]
    have := alloc_new (w.alloc (.cells #[.slice (some ad) l.length c, .int .i64 kp] 24)) (.cells Z 55)
    rwa [World.size_alloc] at this
  have hs2 : W2.heap.size = w.heap.size + 2 := by rw [← hW2]; simp
  have hx2 : W2.heap[w.heap.size]? = some (.cells #[.slice (some ad) l.length c, .int .i64 kp] 24 (0, 0)) := by rw [← hW2]; exact blk_alloc (alloc_new w _) _
  have hcp0 := run_copy_all (P := Try.prog) W2 22 22 3 55 (w.heap.size + 1) l.length c ad 4 Z 55 cs Try.underlying22 (by rw [hi]; simp [hz1]) hg2 hlen (fun j v hj => hb2.cell (World.block_lt_of_cell? w _ (hcs j v hj)) |>.trans (hcs j v hj)) (by omega) hone
  obtain ⟨W3, hW3⟩ : ∃ W3, W2.setRow (w.heap.size + 1) cs.toArray = W3 := ⟨_, rfl⟩
  rw [hW3] at hcp0
  have hg3 : W3.heap[w.heap.size + 1]? = some (.cells cs.toArray 55 (0, 0)) := by rw [← hW3]; exact setRow_heap W2 (w.heap.size + 1) Z _ 55 _ hg2
  have hx3 : W3.heap[w.heap.size]? = some (.cells #[.slice (some ad) l.length c, .int .i64 kp] 24 (0, 0)) := by rw [← hW3, setRow_other W2 _ _ _ (by omega)]; exact hx2
  have hs3 : W3.heap.size = w.heap.size + 2 := by rw [← hW3, ← hs2]; simp [World.setRow]
  have hb3 : Below w.heap.size w W3 := by rw [← hW3]; exact below_setRow hb2 (by omega) _
  have c0 : W3.cell? ⟨w.heap.size, 0, none⟩ = some (.slice (some ad) l.length c) := (blk_cell hx3 0).trans rfl
  have c1 : W3.cell? ⟨w.heap.size, 1, none⟩ = some (.int .i64 kp) := (blk_cell hx3 1).trans rfl
  have HW : Aside0 (Wk w P (W3.alloc (.cells #[.slice (some ⟨w.heap.size + 1, 0, none⟩) l.length l.length, .int .i64 kp] 113)) W3.heap.size (w.heap.size + 1) l kp) := by
    refine ⟨alloc_new W3 _, ⟨cs.toArray, blk_alloc hg3 _, by simpa using hlen⟩, fun i hi => ?_, hb3.alloc (by omega) _, by omega, by omega⟩
    obtain ⟨A, cc, a0, a1, a2, a3, d0, d1⟩ := hat i hi
    have cell : ∀ o v, cs[o]? = some v → (W3.alloc (.cells #[.slice (some ⟨w.heap.size + 1, 0, none⟩) l.length l.length, .int .i64 kp] 113)).cell? ⟨w.heap.size + 1, o, none⟩ = some v := fun o v ho => by
      rw [blk_cell (blk_alloc hg3 _) o]
      simpa using ho
    exact ⟨cell _ _ a0, cell _ _ a1, cell _ _ a2, A, cc, cell _ _ a3, d0, d1⟩
  have HB3 := Aside0.mk hb3
  have HS3 := Aside0.mk hs3
  have hcp : (Builtin.copy_ #[22, 22] 3 #[.slice (some ⟨w.heap.size + 1, 0, none⟩) l.length l.length, .slice (some ad) l.length c]).run Try.prog ((w.alloc (.cells #[.slice (some ad) l.length c, .int .i64 kp] 24)).alloc (.cells Z 55)) = .ok (goInt l.length) W3 := by rw [hW2]; exact hcp0
  clear hr hZ hZs hW2 hb2 hg2 hs2 hx2 hcp0 hW3 hg3 hx3 hs3 hb3 hat hcs hone hi hz0 hz1 hz2 hlen
  have hu24 := Try.underlying24
  go_enter Try.func73, Try.ntmps73
  go_wp2
  go_ret
  exact ⟨_, _, rfl, HW.out, HB3.out.alloc (by have := HS3.out; omega) _⟩
end Go.Proofs.Yteiladccdenpbaa.P
end
section
namespace Go.Proofs.Yteiladccdenpbaa.P
open Go.RowKit Go.Proofs.YteiladccdenpbaaW.PrintWords Go.Proofs.YteiladccdenpbaaW.PrintLast Go.Proofs.YteiladccdenpbaaW.PrintMore
attribute [local go_sem] max2_int min2_int max_two min_two max_three min_three max_four min_four
set_option linter.unusedVariables false
set_option linter.unusedSimpArgs false
def heap_isUsed.f (l0_0 : List (S55)) (a0_1 : Int) (a1 : Int) : Option (Bool) := if a1 ≥ 0 then (if a1 < (l0_0.length : Int) then (if 0 ≤ a1 then (some (decide (((rd_T55 l0_0 a1).f0) > 0))) else (none)) else (some false)) else (some false)
set_option maxHeartbeats 8000000 in
set_option maxRecDepth 100000 in
theorem heap_isUsed.calls (A0_0 : Option Addr) (c0_0 : Nat) (l0_0 : List (S55)) (a0_1 : Int) (a1 : Int) (r : Bool) (w : World) (hr0_0 : Kd.C k55 w A0_0 l0_0.length l0_0) (hc0_0 : l0_0.length ≤ c0_0) (h : heap_isUsed.f l0_0 a0_1 a1 = some r) :
  Calls Try.prog 93 #[.agg #[.slice A0_0 l0_0.length c0_0, .int .i64 a0_1], .int .i64 a1] w fun e w' => e = .returned (.bool r) ∧ Below w.heap.size w w' := by
 have hu24 := Try.underlying24
 have HR0_0 := Aside0.mk hr0_0
 have HC0_0 := Aside0.mk hc0_0
 clear hr0_0 hc0_0
 have HB := Aside0.mk (Below.refl w.heap.size w)
 have H : (if a1 ≥ 0 then (if a1 < (l0_0.length : Int) then (if 0 ≤ a1 then (some (decide (((rd_T55 l0_0 a1).f0) > 0))) else (none)) else (some false)) else (some false)) = some r := h
 clear h
 by_cases c3 : a1 ≥ 0
 ·rw [if_pos c3] at H
  have c3b0 : decide (0 ≤ a1) = true := decide_eq_true c3
  clear c3
  by_cases c4 : a1 < (l0_0.length : Int)
  ·rw [if_pos c4] at H
   have c4b0 : decide (a1 < (l0_0.length : Int)) = true := decide_eq_true c4
   clear c4
   by_cases c5 : 0 ≤ a1
   ·rw [if_pos c5] at H
    have c5b0 : decide (0 ≤ a1) = true := decide_eq_true c5
    clear c5
    obtain rfl := Option.some.inj H
    go_enter Try.func93, Try.ntmps93
    go_wp2_with (first | ((with_reducible refine gate_dst (N := 2) rfl ?_); (try (refine gate_guard (by rfl) ?_; dsimp only)); refine box_event ?hg (N := 2) ?hd (cs := #[.slice A0_0 l0_0.length c0_0, .int .i64 a0_1]) (t := 24) ?hr ?_; (case hd => rfl); (case hg => rfl); (case hr => first | (go_simp; done) | (go_simp; rfl)); intro gb139 hg w6 hbox hb; have n0_ := Aside0.mk (below_step (by repeat (first | (with_reducible first | exact HB.out | apply below_alloc | apply pw_below_drewN | apply below_drew1) | exact HB.out)) hb); have n1_ := Aside0.mk (hbox); have n2_ := Aside0.mk ((by rw [hg]; exact (below_size (by repeat (first | (with_reducible first | exact HB.out | apply below_alloc | apply pw_below_drewN | apply below_drew1) | exact HB.out))) : w.heap.size ≤ gb139)); have n3_ := Aside0.mk ((by rw [hg]; exact (below_size (by repeat (first | (with_reducible first | exact HB.out | apply below_alloc | apply pw_below_drewN | apply below_drew1) | exact HB.out))) : w.heap.size ≤ gb139)); clear HB; have HB := n0_; have BK139 := n1_; have GW139 := n2_; have GE139 := n3_; clear n0_ n1_ n2_ n3_; clear hb hbox hg; have hcz7_0 : w6.cell? ⟨gb139, 0, none⟩ = some (.slice A0_0 l0_0.length c0_0) := (blk_cell BK139.out 0).trans rfl; have hcz7_1 : w6.cell? ⟨gb139, 1, none⟩ = some (.int .i64 a0_1) := (blk_cell BK139.out 1).trans rfl; have hfz7_0 := blk_frozen BK139.out 0; have hfz7_1 := blk_frozen BK139.out 1; have p140 : 0 ≤ (a1 : Int) := of_decide_eq_true (by first | (with_reducible assumption) | assumption); have q140 : a1 < (l0_0.length : Int) := of_decide_eq_true (by first | (with_reducible assumption) | assumption); obtain ⟨ad140, A140_3, c140_3, e140, hx140_0, hx140_1, hx140_2, hx140_3, hl140_3, hi140_3⟩ := at_T55 HR0_0.out a1 p140 q140; cases e140; replace hx140_0 := (HB.out.cell (World.block_lt_of_cell? w _ hx140_0)).trans hx140_0; replace hx140_1 := (HB.out.cell (World.block_lt_of_cell? w _ hx140_1)).trans hx140_1; replace hx140_2 := (HB.out.cell (World.block_lt_of_cell? w _ hx140_2)).trans hx140_2; replace hx140_3 := (HB.out.cell (World.block_lt_of_cell? w _ hx140_3)).trans hx140_3; have HR140_3 := Aside0.mk hi140_3; have HC140_3 := Aside0.mk hl140_3; clear hi140_3 hl140_3; replace p140 := eq_true p140; replace q140 := eq_true q140))
    go_ret
    exact ⟨by first | rfl | (simp [errW_none, errW_some] <;> rfl) | (simp [*, errW_none, errW_some] <;> rfl), by repeat (first | (with_reducible first | exact HB.out | apply below_alloc | apply pw_below_drewN | apply below_drew1 | refine below_set ?_ GE139.out) | exact HB.out)⟩
   ·rw [if_neg c5] at H
    exact absurd H (by simp)
  ·rw [if_neg c4] at H
   have c4b0 : decide (a1 < (l0_0.length : Int)) = false := decide_eq_false c4
   clear c4
   obtain rfl := Option.some.inj H
   go_enter Try.func93, Try.ntmps93
   go_wp2_with (first | ((with_reducible refine gate_dst (N := 2) rfl ?_); (try (refine gate_guard (by rfl) ?_; dsimp only)); refine box_event ?hg (N := 2) ?hd (cs := #[.slice A0_0 l0_0.length c0_0, .int .i64 a0_1]) (t := 24) ?hr ?_; (case hd => rfl); (case hg => rfl); (case hr => first | (go_simp; done) | (go_simp; rfl)); intro gb139 hg w8 hbox hb; have n0_ := Aside0.mk (below_step (by repeat (first | (with_reducible first | exact HB.out | apply below_alloc | apply pw_below_drewN | apply below_drew1) | exact HB.out)) hb); have n1_ := Aside0.mk (hbox); have n2_ := Aside0.mk ((by rw [hg]; exact (below_size (by repeat (first | (with_reducible first | exact HB.out | apply below_alloc | apply pw_below_drewN | apply below_drew1) | exact HB.out))) : w.heap.size ≤ gb139)); have n3_ := Aside0.mk ((by rw [hg]; exact (below_size (by repeat (first | (with_reducible first | exact HB.out | apply below_alloc | apply pw_below_drewN | apply below_drew1) | exact HB.out))) : w.heap.size ≤ gb139)); clear HB; have HB := n0_; have BK139 := n1_; have GW139 := n2_; have GE139 := n3_; clear n0_ n1_ n2_ n3_; clear hb hbox hg; have hcz9_0 : w8.cell? ⟨gb139, 0, none⟩ = some (.slice A0_0 l0_0.length c0_0) := (blk_cell BK139.out 0).trans rfl; have hcz9_1 : w8.cell? ⟨gb139, 1, none⟩ = some (.int .i64 a0_1) := (blk_cell BK139.out 1).trans rfl; have hfz9_0 := blk_frozen BK139.out 0; have hfz9_1 := blk_frozen BK139.out 1))
   go_ret
   exact ⟨by first | rfl | (simp [errW_none, errW_some] <;> rfl) | (simp [*, errW_none, errW_some] <;> rfl), by repeat (first | (with_reducible first | exact HB.out | apply below_alloc | apply pw_below_drewN | apply below_drew1 | refine below_set ?_ GE139.out) | exact HB.out)⟩
 ·rw [if_neg c3] at H
  have c3b0 : decide (0 ≤ a1) = false := decide_eq_false c3
  clear c3
  obtain rfl := Option.some.inj H
  go_enter Try.func93, Try.ntmps93
  go_wp2_with (first | ((with_reducible refine gate_dst (N := 2) rfl ?_); (try (refine gate_guard (by rfl) ?_; dsimp only)); refine box_event ?hg (N := 2) ?hd (cs := #[.slice A0_0 l0_0.length c0_0, .int .i64 a0_1]) (t := 24) ?hr ?_; (case hd => rfl); (case hg => rfl); (case hr => first | (go_simp; done) | (go_simp; rfl)); intro gb139 hg w10 hbox hb; have n0_ := Aside0.mk (below_step (by repeat (first | (with_reducible first | exact HB.out | apply below_alloc | apply pw_below_drewN | apply below_drew1) | exact HB.out)) hb); have n1_ := Aside0.mk (hbox); have n2_ := Aside0.mk ((by rw [hg]; exact (below_size (by repeat (first | (with_reducible first | exact HB.out | apply below_alloc | apply pw_below_drewN | apply below_drew1) | exact HB.out))) : w.heap.size ≤ gb139)); have n3_ := Aside0.mk ((by rw [hg]; exact (below_size (by repeat (first | (with_reducible first | exact HB.out | apply below_alloc | apply pw_below_drewN | apply below_drew1) | exact HB.out))) : w.heap.size ≤ gb139)); clear HB; have HB := n0_; have BK139 := n1_; have GW139 := n2_; have GE139 := n3_; clear n0_ n1_ n2_ n3_; clear hb hbox hg))
  go_ret
  exact ⟨by first | rfl | (simp [errW_none, errW_some] <;> rfl) | (simp [*, errW_none, errW_some] <;> rfl), by repeat (first | (with_reducible first | exact HB.out | apply below_alloc | apply pw_below_drewN | apply below_drew1 | refine below_set ?_ GE139.out) | exact HB.out)⟩
end Go.Proofs.Yteiladccdenpbaa.P
end
section
namespace Go.Proofs.Yteiladccdenpbaa.P
open Go.RowKit Go.Proofs.YteiladccdenpbaaW.PrintWords Go.Proofs.YteiladccdenpbaaW.PrintLast Go.Proofs.YteiladccdenpbaaW.PrintMore
set_option linter.unusedVariables false
set_option linter.unusedSimpArgs false
theorem Wk.C {w0 W : World} {P : Nat → Prop} {b g : Nat} {l : List S55} {kp : Int} (h : Wk w0 P W b g l kp) (hl : l.length < 1000000) : Kd.C k55 W (some ⟨g, 0, none⟩) l.length l := by
  refine ⟨rfl, by omega, fun hn => ⟨_, rfl, fun j x hj => ?_⟩⟩
  have hjl : j < l.length := (List.getElem?_eq_some_iff.1 hj).1
  obtain ⟨a, b', c, A, cc, d, e1, e2⟩ := h.row j hjl
  have e : rd_T55 l (j : Nat) = x := by
    simp only [rd_T55, Int.toNat_natCast, List.getD_eq_getElem?_getD, hj, Option.getD_some]
  rw [e] at a b' c d e1 e2
  refine ⟨_, rfl, k55_mk W x e1 (Kd.C_below (Kd.F_now e2) h.low), fun i u hu => ?_⟩
  rw [add_g]
  match i, hu with
  | 0, hu => simp at hu; subst hu; exact a
  | 1, hu => simp at hu; subst hu; exact b'
  | 2, hu => simp at hu; subst hu; exact c
  | 3, hu => simp at hu; subst hu; exact d
  | i + 4, hu => simp at hu
theorem Wk.V {w W : World} {P : Nat → Prop} {b g : Nat} {l : List S55} {kp : Int} (h : Wk w P W b g l kp) (hl : l.length < 1000000) (base : Nat) : Kd.V k55 55 W base (fun k => P k ∨ w.heap.size ≤ k) (.slice (some ⟨g, 0, none⟩) l.length l.length) l := by
  refine Kd.V_mk (Nat.le_refl _) (fun W' hW => ⟨rfl, by omega, fun hn => ⟨_, rfl, fun j x hj => ?_⟩⟩)
  have hjl : j < l.length := (List.getElem?_eq_some_iff.1 hj).1
  obtain ⟨a, b', c, A, cc, d, e1, e2⟩ := h.row j hjl
  obtain ⟨cs, hc, hs⟩ := h.blk
  have hgl := (Array.getElem?_eq_some_iff.1 hc).1
  have hg' : W'.heap[g]? = some (.cells cs 55 (0, 0)) := (hW g (.inr h.hg) hgl).trans hc
  have ce : ∀ o, W'.cell? ⟨g, o, none⟩ = W.cell? ⟨g, o, none⟩ := fun o => by rw [blk_cell hg' o, blk_cell hc o]
  have hi := e2 W' (fun k hk hlt => (hW k (.inl hk) (Nat.lt_of_lt_of_le hlt h.low.size)).trans (h.low.block k hlt))
  have e : rd_T55 l (j : Nat) = x := by
    simp only [rd_T55, Int.toNat_natCast, List.getD_eq_getElem?_getD, hj, Option.getD_some]
  rw [e] at a b' c d e1 hi
  refine ⟨_, rfl, k55_mk W' x e1 hi, fun i u hu => ?_⟩
  rw [add_g, ce]
  match i, hu with
  | 0, hu => simp at hu; subst hu; exact a
  | 1, hu => simp at hu; subst hu; exact b'
  | 2, hu => simp at hu; subst hu; exact c
  | 3, hu => simp at hu; subst hu; exact d
  | i + 4, hu => simp at hu
def usedB (l : List S55) (p : Int) : Bool := decide (0 ≤ p ∧ p < (l.length : Int) ∧ 0 < (rd_T55 l p).f0)
theorem isUsed_val (l : List S55) (kp p : Int) : heap_isUsed.f l kp p = some (usedB l p) := by
  unfold heap_isUsed.f usedB
  by_cases h0 : p ≥ 0
  · rw [if_pos h0]
    by_cases h1 : p < (l.length : Int)
    · rw [if_pos h1, if_pos h0]
      congr 1
      rw [decide_eq_decide]
      exact ⟨fun h => ⟨h0, h1, h⟩, fun h => h.2.2⟩
    · rw [if_neg h1, decide_eq_false (fun h => h1 h.2.1)]
  · rw [if_neg h0, decide_eq_false (fun h => h0 h.1)]
set_option maxHeartbeats 4000000 in
set_option maxRecDepth 100000 in
theorem changed77 (P : Nat → Prop) (A : Option Addr) (c : Nat) (l l' : List S55) (kp p : Int) (w : World) (hr : Kd.F k55 w P A l.length l) (hl : l.length < 1000000) (hc : l.length ≤ c) (hu : usedB l p = true) (hf : holdP l p = some l') (hl' : l'.length < 1000000) :
    Calls Try.prog 81 #[.agg #[.slice A l.length c, .int .i64 kp], .int .i64 p, .func (.func 77) #[] #[]] w fun e w' => ∃ v0_ : Value, e = .returned (.tuple #[.agg #[v0_, .int .i64 kp], .int .i64 0]) ∧ Kd.V k55 55 w' w.heap.size (fun k => P k ∨ w.heap.size ≤ k) v0_ l' ∧ Below w.heap.size w w' := by
  have h0 : 0 < l.length := by
    have := of_decide_eq_true hu
    omega
  obtain ⟨ad, A3, c3, rfl, -⟩ := at_T55 (Kd.F_now hr) 0 (by omega) (by omega)
  obtain ⟨wA, hwA⟩ : ∃ wA, (w.alloc (.cells #[.slice (some ad) l.length c, .int .i64 kp] 24)).alloc (.cells #[.slice none 0 0, .int .i64 0] 24) = wA := ⟨_, rfl⟩
  have hbA : Below w.heap.size w wA := by rw [← hwA]; exact ((Below.refl _ w).alloc (Nat.le_refl _) _).alloc (by simp) _
  have hsA : wA.heap.size = w.heap.size + 2 := by rw [← hwA]; simp
  have hxA : wA.heap[w.heap.size]? = some (.cells #[.slice (some ad) l.length c, .int .i64 kp] 24 (0, 0)) := by rw [← hwA]; exact blk_alloc (alloc_new w _) _
  have hyA : wA.heap[w.heap.size + 1]? = some (.cells #[.slice none 0 0, .int .i64 0] 24 (0, 0)) := by
    rw [← hwA]
    have := alloc_new (w.alloc (.cells #[.slice (some ad) l.length c, .int .i64 kp] 24)) (.cells #[.slice none 0 0, .int .i64 0] 24)
    rwa [World.size_alloc] at this
  obtain ⟨P', hP, hrA⟩ : ∃ P' : Nat → Prop, (∀ k, P' k → P k ∧ k < w.heap.size) ∧ Kd.F k55 wA P' (some ad) l.length l := ⟨_, fun _ h => h, Kd.F_below (Kd.F_bound hr) hbA⟩
  have HP := Aside0.mk hP
  have HBA := Aside0.mk hbA
  have HSA := Aside0.mk hsA
  have HXA := Aside0.mk hxA
  have HYA := Aside0.mk hyA
  have HRA := Aside0.mk hrA
  have HF := Aside0.mk hf
  have HU := Aside0.mk hu
  have HL' := Aside0.mk hl'
  have HCC := Aside0.mk hc
  have hu24 := Try.underlying24
  have a0 : wA.cell? ⟨w.heap.size, 0, none⟩ = some (.slice (some ad) l.length c) := (blk_cell hxA 0).trans rfl
  have a1 : wA.cell? ⟨w.heap.size, 1, none⟩ = some (.int .i64 kp) := (blk_cell hxA 1).trans rfl
  clear hr hbA hsA hxA hyA hrA hf hu hl' hc hP
  go_enter Try.func81, Try.ntmps81
  go_wp2_with fail
  clear hwA a0 a1
  refine (heap_isUsed.calls (some ad) _ l kp p true wA (Kd.F_now HRA.out) HCC.out (by rw [isUsed_val, HU.out])).mono ?_
  rintro e w1 ⟨rfl, hb1⟩
  have HB1 := Aside0.mk (HBA.out.trans (hb1.mono HBA.out.size))
  have HX1 := Aside0.mk (blk_below HXA.out hb1)
  have HY1 := Aside0.mk (blk_below HYA.out hb1)
  have HR1 := Aside0.mk (Kd.F_below HRA.out hb1)
  have HS1 : Aside0 (w.heap.size + 2 ≤ w1.heap.size) := ⟨by have := hb1.size; have := HSA.out; omega⟩
  have c0 : w1.cell? ⟨w.heap.size, 0, none⟩ = some (.slice (some ad) l.length c) := (blk_cell HX1.out 0).trans rfl
  have c1 : w1.cell? ⟨w.heap.size, 1, none⟩ = some (.int .i64 kp) := (blk_cell HX1.out 1).trans rfl
  clear hb1 HBA HXA HYA HRA HSA
  go_wp2_with fail
  refine (own_walk P' (some ad) c l kp w1 HR1.out h0 hl).mono ?_
  rintro e w2 ⟨b, g, rfl, hw, hb2⟩
  have HW2 := Aside0.mk hw
  have HB1' := Aside0.mk HB1.out
  have HB2 := Aside0.mk (HB1.out.trans (hb2.mono HB1.out.size))
  have HY2 := Aside0.mk (blk_below HY1.out hb2)
  clear hw hb2 HB1 HX1 HY1 HR1 c0 c1
  go_wp2_with fail
  refine (hold_walk w1 P' b g l l' kp p w2 HW2.out HF.out).mono ?_
  rintro e w3 ⟨⟨v, rfl⟩, hw3, hk3⟩
  have HW3 := Aside0.mk hw3
  have HB3 : Aside0 (Below w.heap.size w w3) := ⟨hw3.low.mono (by have := HS1.out; omega) |> fun h => HB1'.out.trans h⟩
  have hgn : w.heap.size + 1 ≠ g := by have := HW2.out.hg; have := HS1.out; omega
  have hbn : w.heap.size + 1 ≠ b := by have := HW2.out.hb; have := HS1.out; omega
  have hy3 := hk3.blk HY2.out hgn (by simp)
  have HY3 := Aside0.mk hy3
  have f0 := blk_frozen hy3 0
  have f1 := blk_frozen hy3 1
  have y0 : w3.cell? ⟨w.heap.size + 1, 0, none⟩ = some (.slice none 0 0) := (blk_cell hy3 0).trans rfl
  have y1 : w3.cell? ⟨w.heap.size + 1, 1, none⟩ = some (.int .i64 0) := (blk_cell hy3 1).trans rfl
  have b0 : w3.cell? ⟨b, 0, none⟩ = some (.slice (some ⟨g, 0, none⟩) l'.length l'.length) := (blk_cell hw3.box 0).trans rfl
  have b1 : w3.cell? ⟨b, 1, none⟩ = some (.int .i64 kp) := (blk_cell hw3.box 1).trans rfl
  clear hw3 hk3 hy3 HY2
  go_wp2
  refine bodyPost_ret (results_ct rfl _ _ (w.heap.size + 1) 24 #[.slice (some ⟨g, 0, none⟩) l'.length l'.length, .int .i64 kp] (0, 0) _ rfl (blk_put (cs := #[.slice (some ⟨g, 0, none⟩) l'.length l'.length, .int .i64 0]) (blk_put (cs := #[.slice none 0 0, .int .i64 0]) HY3.out 0 _ rfl) 1 _ rfl) Try.underlying24 rfl (by kernel_rfl)) rfl ?_
  have hne : ∀ k, (P' k ∨ w1.heap.size ≤ k) → k ≠ w.heap.size + 1 := fun k hk => by
    have := HS1.out
    rcases hk with h | h
    · have := (HP.out k h).2; omega
    · omega
  refine ⟨_, rfl, ?_, below_set (below_set HB3.out (by omega)) (by omega)⟩
  refine Kd.V_mono (Kd.V_far (p := ⟨w.heap.size + 1, 1, none⟩) (Kd.V_far (p := ⟨w.heap.size + 1, 0, none⟩) (HW3.out.V HL'.out w.heap.size) hne _) hne _) fun k hk => ?_
  rcases hk with h | h
  · exact .inl (HP.out k h).1
  · exact .inr (by have := HS1.out; omega)
set_option maxHeartbeats 4000000 in
set_option maxRecDepth 100000 in
theorem changed82 (P : Nat → Prop) (k : Nat) (A : Option Addr) (c : Nat) (l l' : List S55) (kp p : Int) (w : World) (hr : Kd.F k55 w P A l.length l) (hl : l.length < 1000000) (hc : l.length ≤ c) (hu : usedB l p = true) (hf : looseP k l p = some l') (hl' : l'.length < 1000000) :
    Calls Try.prog 81 #[.agg #[.slice A l.length c, .int .i64 kp], .int .i64 p, .func (.func 82) #[] #[]] w fun e w' => ∃ v0_ : Value, e = .returned (.tuple #[.agg #[v0_, .int .i64 kp], .int .i64 0]) ∧ Kd.V k55 55 w' w.heap.size (fun k => P k ∨ w.heap.size ≤ k) v0_ l' ∧ Below w.heap.size w w' := by
  have h0 : 0 < l.length := by
    have := of_decide_eq_true hu
    omega
  obtain ⟨ad, A3, c3, rfl, -⟩ := at_T55 (Kd.F_now hr) 0 (by omega) (by omega)
  obtain ⟨wA, hwA⟩ : ∃ wA, (w.alloc (.cells #[.slice (some ad) l.length c, .int .i64 kp] 24)).alloc (.cells #[.slice none 0 0, .int .i64 0] 24) = wA := ⟨_, rfl⟩
  have hbA : Below w.heap.size w wA := by rw [← hwA]; exact ((Below.refl _ w).alloc (Nat.le_refl _) _).alloc (by simp) _
  have hsA : wA.heap.size = w.heap.size + 2 := by rw [← hwA]; simp
  have hxA : wA.heap[w.heap.size]? = some (.cells #[.slice (some ad) l.length c, .int .i64 kp] 24 (0, 0)) := by rw [← hwA]; exact blk_alloc (alloc_new w _) _
  have hyA : wA.heap[w.heap.size + 1]? = some (.cells #[.slice none 0 0, .int .i64 0] 24 (0, 0)) := by
    rw [← hwA]
    have := alloc_new (w.alloc (.cells #[.slice (some ad) l.length c, .int .i64 kp] 24)) (.cells #[.slice none 0 0, .int .i64 0] 24)
    rwa [World.size_alloc] at this
  obtain ⟨P', hP, hrA⟩ : ∃ P' : Nat → Prop, (∀ k, P' k → P k ∧ k < w.heap.size) ∧ Kd.F k55 wA P' (some ad) l.length l := ⟨_, fun _ h => h, Kd.F_below (Kd.F_bound hr) hbA⟩
  have HP := Aside0.mk hP
  have HBA := Aside0.mk hbA
  have HSA := Aside0.mk hsA
  have HXA := Aside0.mk hxA
  have HYA := Aside0.mk hyA
  have HRA := Aside0.mk hrA
  have HF := Aside0.mk hf
  have HU := Aside0.mk hu
  have HL' := Aside0.mk hl'
  have HCC := Aside0.mk hc
  have hu24 := Try.underlying24
  have a0 : wA.cell? ⟨w.heap.size, 0, none⟩ = some (.slice (some ad) l.length c) := (blk_cell hxA 0).trans rfl
  have a1 : wA.cell? ⟨w.heap.size, 1, none⟩ = some (.int .i64 kp) := (blk_cell hxA 1).trans rfl
  clear hr hbA hsA hxA hyA hrA hf hu hl' hc hP
  go_enter Try.func81, Try.ntmps81
  go_wp2_with fail
  clear hwA a0 a1
  refine (heap_isUsed.calls (some ad) _ l kp p true wA (Kd.F_now HRA.out) HCC.out (by rw [isUsed_val, HU.out])).mono ?_
  rintro e w1 ⟨rfl, hb1⟩
  have HB1 := Aside0.mk (HBA.out.trans (hb1.mono HBA.out.size))
  have HX1 := Aside0.mk (blk_below HXA.out hb1)
  have HY1 := Aside0.mk (blk_below HYA.out hb1)
  have HR1 := Aside0.mk (Kd.F_below HRA.out hb1)
  have HS1 : Aside0 (w.heap.size + 2 ≤ w1.heap.size) := ⟨by have := hb1.size; have := HSA.out; omega⟩
  have c0 : w1.cell? ⟨w.heap.size, 0, none⟩ = some (.slice (some ad) l.length c) := (blk_cell HX1.out 0).trans rfl
  have c1 : w1.cell? ⟨w.heap.size, 1, none⟩ = some (.int .i64 kp) := (blk_cell HX1.out 1).trans rfl
  clear hb1 HBA HXA HYA HRA HSA
  go_wp2_with fail
  refine (own_walk P' (some ad) c l kp w1 HR1.out h0 hl).mono ?_
  rintro e w2 ⟨b, g, rfl, hw, hb2⟩
  have HW2 := Aside0.mk hw
  have HB1' := Aside0.mk HB1.out
  have HB2 := Aside0.mk (HB1.out.trans (hb2.mono HB1.out.size))
  have HY2 := Aside0.mk (blk_below HY1.out hb2)
  clear hw hb2 HB1 HX1 HY1 HR1 c0 c1
  go_wp2_with fail
  refine (loose_walk w1 P' b g kp k w2 l l' p HW2.out HF.out).mono ?_
  rintro e w3 ⟨⟨v, rfl⟩, hw3, hk3⟩
  have HW3 := Aside0.mk hw3
  have HB3 : Aside0 (Below w.heap.size w w3) := ⟨hw3.low.mono (by have := HS1.out; omega) |> fun h => HB1'.out.trans h⟩
  have hgn : w.heap.size + 1 ≠ g := by have := HW2.out.hg; have := HS1.out; omega
  have hbn : w.heap.size + 1 ≠ b := by have := HW2.out.hb; have := HS1.out; omega
  have hy3 := hk3.blk HY2.out hgn (by simp)
  have HY3 := Aside0.mk hy3
  have f0 := blk_frozen hy3 0
  have f1 := blk_frozen hy3 1
  have y0 : w3.cell? ⟨w.heap.size + 1, 0, none⟩ = some (.slice none 0 0) := (blk_cell hy3 0).trans rfl
  have y1 : w3.cell? ⟨w.heap.size + 1, 1, none⟩ = some (.int .i64 0) := (blk_cell hy3 1).trans rfl
  have b0 : w3.cell? ⟨b, 0, none⟩ = some (.slice (some ⟨g, 0, none⟩) l'.length l'.length) := (blk_cell hw3.box 0).trans rfl
  have b1 : w3.cell? ⟨b, 1, none⟩ = some (.int .i64 kp) := (blk_cell hw3.box 1).trans rfl
  clear hw3 hk3 hy3 HY2
  go_wp2
  refine bodyPost_ret (results_ct rfl _ _ (w.heap.size + 1) 24 #[.slice (some ⟨g, 0, none⟩) l'.length l'.length, .int .i64 kp] (0, 0) _ rfl (blk_put (cs := #[.slice (some ⟨g, 0, none⟩) l'.length l'.length, .int .i64 0]) (blk_put (cs := #[.slice none 0 0, .int .i64 0]) HY3.out 0 _ rfl) 1 _ rfl) Try.underlying24 rfl (by kernel_rfl)) rfl ?_
  have hne : ∀ k, (P' k ∨ w1.heap.size ≤ k) → k ≠ w.heap.size + 1 := fun k hk => by
    have := HS1.out
    rcases hk with h | h
    · have := (HP.out k h).2; omega
    · omega
  refine ⟨_, rfl, ?_, below_set (below_set HB3.out (by omega)) (by omega)⟩
  refine Kd.V_mono (Kd.V_far (p := ⟨w.heap.size + 1, 1, none⟩) (Kd.V_far (p := ⟨w.heap.size + 1, 0, none⟩) (HW3.out.V HL'.out w.heap.size) hne _) hne _) fun k hk => ?_
  rcases hk with h | h
  · exact .inl (HP.out k h).1
  · exact .inr (by have := HS1.out; omega)
set_option maxHeartbeats 4000000 in
set_option maxRecDepth 100000 in
theorem changedNo77 (P : Nat → Prop) (A : Option Addr) (c : Nat) (l : List S55) (kp p : Int) (w : World) (hr : Kd.F k55 w P A l.length l) (hc : l.length ≤ c) (hu : usedB l p = false) :
    Calls Try.prog 81 #[.agg #[.slice A l.length c, .int .i64 kp], .int .i64 p, .func (.func 77) #[] #[]] w fun e w' => ∃ v0_ : Value, e = .returned (.tuple #[.agg #[v0_, .int .i64 kp], .int .i64 4]) ∧ Kd.V k55 55 w' w.heap.size (fun k => P k ∨ w.heap.size ≤ k) v0_ l ∧ Below w.heap.size w w' := by
  obtain ⟨wA, hwA⟩ : ∃ wA, (w.alloc (.cells #[.slice A l.length c, .int .i64 kp] 24)).alloc (.cells #[.slice none 0 0, .int .i64 0] 24) = wA := ⟨_, rfl⟩
  have hbA : Below w.heap.size w wA := by rw [← hwA]; exact ((Below.refl _ w).alloc (Nat.le_refl _) _).alloc (by simp) _
  have hsA : wA.heap.size = w.heap.size + 2 := by rw [← hwA]; simp
  have hxA : wA.heap[w.heap.size]? = some (.cells #[.slice A l.length c, .int .i64 kp] 24 (0, 0)) := by rw [← hwA]; exact blk_alloc (alloc_new w _) _
  have hyA : wA.heap[w.heap.size + 1]? = some (.cells #[.slice none 0 0, .int .i64 0] 24 (0, 0)) := by
    rw [← hwA]
    have := alloc_new (w.alloc (.cells #[.slice A l.length c, .int .i64 kp] 24)) (.cells #[.slice none 0 0, .int .i64 0] 24)
    rwa [World.size_alloc] at this
  obtain ⟨P', hP, hrA⟩ : ∃ P' : Nat → Prop, (∀ k, P' k → P k ∧ k < w.heap.size) ∧ Kd.F k55 wA P' A l.length l := ⟨_, fun _ h => h, Kd.F_below (Kd.F_bound hr) hbA⟩
  have HP := Aside0.mk hP
  have HBA := Aside0.mk hbA
  have HSA := Aside0.mk hsA
  have HXA := Aside0.mk hxA
  have HYA := Aside0.mk hyA
  have HRA := Aside0.mk hrA
  have HU := Aside0.mk hu
  have HCC := Aside0.mk hc
  have hu24 := Try.underlying24
  have a0 : wA.cell? ⟨w.heap.size, 0, none⟩ = some (.slice A l.length c) := (blk_cell hxA 0).trans rfl
  have a1 : wA.cell? ⟨w.heap.size, 1, none⟩ = some (.int .i64 kp) := (blk_cell hxA 1).trans rfl
  clear hr hbA hsA hxA hyA hrA hu hc hP
  go_enter Try.func81, Try.ntmps81
  go_wp2_with fail
  clear hwA a0 a1
  refine (heap_isUsed.calls A _ l kp p false wA (Kd.F_now HRA.out) HCC.out (by rw [isUsed_val, HU.out])).mono ?_
  rintro e w1 ⟨rfl, hb1⟩
  have hx1 := blk_below HXA.out hb1
  have hy1 := blk_below HYA.out hb1
  have HB1 := Aside0.mk (HBA.out.trans (hb1.mono HBA.out.size))
  have HY1 := Aside0.mk hy1
  have HR1 := Aside0.mk (Kd.F_below HRA.out hb1)
  have c0 : w1.cell? ⟨w.heap.size, 0, none⟩ = some (.slice A l.length c) := (blk_cell hx1 0).trans rfl
  have c1 : w1.cell? ⟨w.heap.size, 1, none⟩ = some (.int .i64 kp) := (blk_cell hx1 1).trans rfl
  have y0 : w1.cell? ⟨w.heap.size + 1, 0, none⟩ = some (.slice none 0 0) := (blk_cell hy1 0).trans rfl
  have y1 : w1.cell? ⟨w.heap.size + 1, 1, none⟩ = some (.int .i64 0) := (blk_cell hy1 1).trans rfl
  have f0 := blk_frozen hy1 0
  have f1 := blk_frozen hy1 1
  clear hb1 hx1 hy1
  go_wp2
  refine bodyPost_ret (results_ct rfl _ _ (w.heap.size + 1) 24 #[.slice A l.length c, .int .i64 kp] (0, 0) _ rfl (blk_put (cs := #[.slice A l.length c, .int .i64 0]) (blk_put (cs := #[.slice none 0 0, .int .i64 0]) HY1.out 0 _ rfl) 1 _ rfl) Try.underlying24 rfl (by kernel_rfl)) rfl ?_
  refine ⟨_, rfl, ?_, below_set (below_set HB1.out (by omega)) (by omega)⟩
  have hne : ∀ k, P' k → k ≠ w.heap.size + 1 := fun k hk => by have := (HP.out k hk).2; omega
  exact Kd.V_mono (Kd.V_far (p := ⟨w.heap.size + 1, 1, none⟩) (Kd.V_far (p := ⟨w.heap.size + 1, 0, none⟩) (Kd.V_mk HCC.out HR1.out) hne _) hne _) fun k hk => .inl (HP.out k hk).1
set_option maxHeartbeats 4000000 in
set_option maxRecDepth 100000 in
theorem changedNo82 (P : Nat → Prop) (A : Option Addr) (c : Nat) (l : List S55) (kp p : Int) (w : World) (hr : Kd.F k55 w P A l.length l) (hc : l.length ≤ c) (hu : usedB l p = false) :
    Calls Try.prog 81 #[.agg #[.slice A l.length c, .int .i64 kp], .int .i64 p, .func (.func 82) #[] #[]] w fun e w' => ∃ v0_ : Value, e = .returned (.tuple #[.agg #[v0_, .int .i64 kp], .int .i64 4]) ∧ Kd.V k55 55 w' w.heap.size (fun k => P k ∨ w.heap.size ≤ k) v0_ l ∧ Below w.heap.size w w' := by
  obtain ⟨wA, hwA⟩ : ∃ wA, (w.alloc (.cells #[.slice A l.length c, .int .i64 kp] 24)).alloc (.cells #[.slice none 0 0, .int .i64 0] 24) = wA := ⟨_, rfl⟩
  have hbA : Below w.heap.size w wA := by rw [← hwA]; exact ((Below.refl _ w).alloc (Nat.le_refl _) _).alloc (by simp) _
  have hsA : wA.heap.size = w.heap.size + 2 := by rw [← hwA]; simp
  have hxA : wA.heap[w.heap.size]? = some (.cells #[.slice A l.length c, .int .i64 kp] 24 (0, 0)) := by rw [← hwA]; exact blk_alloc (alloc_new w _) _
  have hyA : wA.heap[w.heap.size + 1]? = some (.cells #[.slice none 0 0, .int .i64 0] 24 (0, 0)) := by
    rw [← hwA]
    have := alloc_new (w.alloc (.cells #[.slice A l.length c, .int .i64 kp] 24)) (.cells #[.slice none 0 0, .int .i64 0] 24)
    rwa [World.size_alloc] at this
  obtain ⟨P', hP, hrA⟩ : ∃ P' : Nat → Prop, (∀ k, P' k → P k ∧ k < w.heap.size) ∧ Kd.F k55 wA P' A l.length l := ⟨_, fun _ h => h, Kd.F_below (Kd.F_bound hr) hbA⟩
  have HP := Aside0.mk hP
  have HBA := Aside0.mk hbA
  have HSA := Aside0.mk hsA
  have HXA := Aside0.mk hxA
  have HYA := Aside0.mk hyA
  have HRA := Aside0.mk hrA
  have HU := Aside0.mk hu
  have HCC := Aside0.mk hc
  have hu24 := Try.underlying24
  have a0 : wA.cell? ⟨w.heap.size, 0, none⟩ = some (.slice A l.length c) := (blk_cell hxA 0).trans rfl
  have a1 : wA.cell? ⟨w.heap.size, 1, none⟩ = some (.int .i64 kp) := (blk_cell hxA 1).trans rfl
  clear hr hbA hsA hxA hyA hrA hu hc hP
  go_enter Try.func81, Try.ntmps81
  go_wp2_with fail
  clear hwA a0 a1
  refine (heap_isUsed.calls A _ l kp p false wA (Kd.F_now HRA.out) HCC.out (by rw [isUsed_val, HU.out])).mono ?_
  rintro e w1 ⟨rfl, hb1⟩
  have hx1 := blk_below HXA.out hb1
  have hy1 := blk_below HYA.out hb1
  have HB1 := Aside0.mk (HBA.out.trans (hb1.mono HBA.out.size))
  have HY1 := Aside0.mk hy1
  have HR1 := Aside0.mk (Kd.F_below HRA.out hb1)
  have c0 : w1.cell? ⟨w.heap.size, 0, none⟩ = some (.slice A l.length c) := (blk_cell hx1 0).trans rfl
  have c1 : w1.cell? ⟨w.heap.size, 1, none⟩ = some (.int .i64 kp) := (blk_cell hx1 1).trans rfl
  have y0 : w1.cell? ⟨w.heap.size + 1, 0, none⟩ = some (.slice none 0 0) := (blk_cell hy1 0).trans rfl
  have y1 : w1.cell? ⟨w.heap.size + 1, 1, none⟩ = some (.int .i64 0) := (blk_cell hy1 1).trans rfl
  have f0 := blk_frozen hy1 0
  have f1 := blk_frozen hy1 1
  clear hb1 hx1 hy1
  go_wp2
  refine bodyPost_ret (results_ct rfl _ _ (w.heap.size + 1) 24 #[.slice A l.length c, .int .i64 kp] (0, 0) _ rfl (blk_put (cs := #[.slice A l.length c, .int .i64 0]) (blk_put (cs := #[.slice none 0 0, .int .i64 0]) HY1.out 0 _ rfl) 1 _ rfl) Try.underlying24 rfl (by kernel_rfl)) rfl ?_
  refine ⟨_, rfl, ?_, below_set (below_set HB1.out (by omega)) (by omega)⟩
  have hne : ∀ k, P' k → k ≠ w.heap.size + 1 := fun k hk => by have := (HP.out k hk).2; omega
  exact Kd.V_mono (Kd.V_far (p := ⟨w.heap.size + 1, 1, none⟩) (Kd.V_far (p := ⟨w.heap.size + 1, 0, none⟩) (Kd.V_mk HCC.out HR1.out) hne _) hne _) fun k hk => .inl (HP.out k hk).1
def heap_Hold.f (l0_0 : List (S55)) (a0_1 : Int) (a1 : Int) : Option ((List (S55)) × Int × Int) :=
  if l0_0.length < 1000000 then (if usedB l0_0 a1 = true then (holdP l0_0 a1).bind fun l' => if l'.length < 1000000 then some (l', a0_1, 0) else none else some (l0_0, a0_1, 4)) else none
set_option maxHeartbeats 4000000 in
set_option maxRecDepth 100000 in
theorem heap_Hold.calls (P0_0_ : Nat → Prop) (A0_0 : Option Addr) (c0_0 : Nat) (l0_0 : List (S55)) (a0_1 : Int) (a1 : Int) (r1 : List (S55)) (r2 : Int) (r3 : Int) (w : World) (hs0_0 : Kd.V k55 55 w w.heap.size (fun k_ => P0_0_ k_) (.slice A0_0 l0_0.length c0_0) l0_0) (h : heap_Hold.f l0_0 a0_1 a1 = some (r1, r2, r3)) :
    Calls Try.prog 46 #[.agg #[.slice A0_0 l0_0.length c0_0, .int .i64 a0_1], .int .i64 a1] w fun e w' => ∃ v0_ : Value, e = .returned (.tuple #[.agg #[v0_, .int .i64 r2], .int .i64 r3]) ∧ Kd.V k55 55 w' w.heap.size (fun k_ => (P0_0_ k_ ∨ w.heap.size ≤ k_)) v0_ r1 ∧ Below w.heap.size w w' := by
  obtain ⟨-, hc, hr⟩ := Kd.V_at hs0_0
  unfold heap_Hold.f at h
  have hl : l0_0.length < 1000000 := by
    by_cases hc : l0_0.length < 1000000
    · exact hc
    · rw [if_neg hc] at h; cases h
  rw [if_pos hl] at h
  obtain ⟨wA, hwA⟩ : ∃ wA, (w.alloc (.cells #[.slice A0_0 l0_0.length c0_0, .int .i64 a0_1] 24)).alloc (.cells #[.slice none 0 0, .int .i64 0] 24) = wA := ⟨_, rfl⟩
  have hbA : Below w.heap.size w wA := by rw [← hwA]; exact ((Below.refl _ w).alloc (Nat.le_refl _) _).alloc (by simp) _
  have hsA : wA.heap.size = w.heap.size + 2 := by rw [← hwA]; simp
  have hxA : wA.heap[w.heap.size]? = some (.cells #[.slice A0_0 l0_0.length c0_0, .int .i64 a0_1] 24 (0, 0)) := by rw [← hwA]; exact blk_alloc (alloc_new w _) _
  have hyA : wA.heap[w.heap.size + 1]? = some (.cells #[.slice none 0 0, .int .i64 0] 24 (0, 0)) := by
    rw [← hwA]
    have := alloc_new (w.alloc (.cells #[.slice A0_0 l0_0.length c0_0, .int .i64 a0_1] 24)) (.cells #[.slice none 0 0, .int .i64 0] 24)
    rwa [World.size_alloc] at this
  obtain ⟨P', hP, hrA⟩ : ∃ P' : Nat → Prop, (∀ k, P' k → P0_0_ k ∧ k < w.heap.size) ∧ Kd.F k55 wA P' A0_0 l0_0.length l0_0 := ⟨_, fun _ h => h, Kd.F_below (Kd.F_bound hr) hbA⟩
  have HC : Aside0 (Calls Try.prog 81 #[.agg #[.slice A0_0 l0_0.length c0_0, .int .i64 a0_1], .int .i64 a1, .func (.func 77) #[] #[]] wA fun e w' => ∃ v0_ : Value, e = .returned (.tuple #[.agg #[v0_, .int .i64 r2], .int .i64 r3]) ∧ Kd.V k55 55 w' wA.heap.size (fun k => P' k ∨ wA.heap.size ≤ k) v0_ r1 ∧ Below wA.heap.size wA w') := by
    refine ⟨?_⟩
    by_cases hu : usedB l0_0 a1 = true
    · rw [if_pos hu] at h
      obtain ⟨l', hf, h⟩ := Option.bind_eq_some_iff.1 h
      have hl' : l'.length < 1000000 := by
        by_cases hc : l'.length < 1000000
        · exact hc
        · rw [if_neg hc] at h; cases h
      rw [if_pos hl'] at h
      obtain ⟨rfl, rfl, rfl⟩ : l' = r1 ∧ a0_1 = r2 ∧ (0 : Int) = r3 := by simpa using h
      exact changed77 P' A0_0 c0_0 l0_0 l' a0_1 a1 wA hrA hl hc hu hf hl'
    · rw [if_neg hu] at h
      rw [Bool.not_eq_true] at hu
      obtain ⟨rfl, rfl, rfl⟩ : l0_0 = r1 ∧ a0_1 = r2 ∧ (4 : Int) = r3 := by simpa using h
      exact changedNo77 P' A0_0 c0_0 l0_0 a0_1 a1 wA hrA hc hu
  have HP := Aside0.mk hP
  have HBA := Aside0.mk hbA
  have HSA := Aside0.mk hsA
  have HYA := Aside0.mk hyA
  have hu24 := Try.underlying24
  have b0 : wA.cell? ⟨w.heap.size, 0, none⟩ = some (.slice A0_0 l0_0.length c0_0) := (blk_cell hxA 0).trans rfl
  have b1 : wA.cell? ⟨w.heap.size, 1, none⟩ = some (.int .i64 a0_1) := (blk_cell hxA 1).trans rfl
  clear hs0_0 hr hbA hsA hxA hyA hrA hP h hl hc
  go_enter Try.func46, Try.ntmps46
  go_wp2_with fail
  clear hwA b0 b1
  refine HC.out.mono ?_
  rintro e w1 ⟨v, rfl, hv, hb1⟩
  obtain ⟨A', c', rfl⟩ := Kd.V_slice hv
  have hy1 := blk_below HYA.out hb1
  have HB1 := Aside0.mk (HBA.out.trans (hb1.mono HBA.out.size))
  have HY1 := Aside0.mk hy1
  have HV := Aside0.mk hv
  have y0 : w1.cell? ⟨w.heap.size + 1, 0, none⟩ = some (.slice none 0 0) := (blk_cell hy1 0).trans rfl
  have y1 : w1.cell? ⟨w.heap.size + 1, 1, none⟩ = some (.int .i64 0) := (blk_cell hy1 1).trans rfl
  have f0 := blk_frozen hy1 0
  have f1 := blk_frozen hy1 1
  clear hb1 hy1 hv HC
  go_wp2
  refine bodyPost_ret (results_ct rfl _ _ (w.heap.size + 1) 24 #[.slice A' r1.length c', .int .i64 r2] (0, 0) _ rfl (blk_put (cs := #[.slice A' r1.length c', .int .i64 0]) (blk_put (cs := #[.slice none 0 0, .int .i64 0]) HY1.out 0 _ rfl) 1 _ rfl) Try.underlying24 rfl (by kernel_rfl)) rfl ?_
  have hne : ∀ k, (P' k ∨ wA.heap.size ≤ k) → k ≠ w.heap.size + 1 := fun k hk => by
    have := HSA.out
    rcases hk with h | h
    · have := (HP.out k h).2; omega
    · omega
  refine ⟨_, rfl, ?_, below_set (below_set HB1.out (by omega)) (by omega)⟩
  refine Kd.V_mono (Kd.V_far (p := ⟨w.heap.size + 1, 1, none⟩) (Kd.V_far (p := ⟨w.heap.size + 1, 0, none⟩) HV.out hne _) hne _) fun k hk => ?_
  rcases hk with h | h
  · exact .inl (HP.out k h).1
  · exact .inr (by have := HSA.out; omega)
def heap_Loose.f (l0_0 : List (S55)) (a0_1 : Int) (a1 : Int) : Option ((List (S55)) × Int × Int) :=
  if l0_0.length < 1000000 then (if usedB l0_0 a1 = true then (looseP 5000 l0_0 a1).bind fun l' => if l'.length < 1000000 then some (l', a0_1, 0) else none else some (l0_0, a0_1, 4)) else none
set_option maxHeartbeats 4000000 in
set_option maxRecDepth 100000 in
theorem heap_Loose.calls (P0_0_ : Nat → Prop) (A0_0 : Option Addr) (c0_0 : Nat) (l0_0 : List (S55)) (a0_1 : Int) (a1 : Int) (r1 : List (S55)) (r2 : Int) (r3 : Int) (w : World) (hs0_0 : Kd.V k55 55 w w.heap.size (fun k_ => P0_0_ k_) (.slice A0_0 l0_0.length c0_0) l0_0) (h : heap_Loose.f l0_0 a0_1 a1 = some (r1, r2, r3)) :
    Calls Try.prog 48 #[.agg #[.slice A0_0 l0_0.length c0_0, .int .i64 a0_1], .int .i64 a1] w fun e w' => ∃ v0_ : Value, e = .returned (.tuple #[.agg #[v0_, .int .i64 r2], .int .i64 r3]) ∧ Kd.V k55 55 w' w.heap.size (fun k_ => (P0_0_ k_ ∨ w.heap.size ≤ k_)) v0_ r1 ∧ Below w.heap.size w w' := by
  obtain ⟨-, hc, hr⟩ := Kd.V_at hs0_0
  unfold heap_Loose.f at h
  have hl : l0_0.length < 1000000 := by
    by_cases hc : l0_0.length < 1000000
    · exact hc
    · rw [if_neg hc] at h; cases h
  rw [if_pos hl] at h
  obtain ⟨wA, hwA⟩ : ∃ wA, (w.alloc (.cells #[.slice A0_0 l0_0.length c0_0, .int .i64 a0_1] 24)).alloc (.cells #[.slice none 0 0, .int .i64 0] 24) = wA := ⟨_, rfl⟩
  have hbA : Below w.heap.size w wA := by rw [← hwA]; exact ((Below.refl _ w).alloc (Nat.le_refl _) _).alloc (by simp) _
  have hsA : wA.heap.size = w.heap.size + 2 := by rw [← hwA]; simp
  have hxA : wA.heap[w.heap.size]? = some (.cells #[.slice A0_0 l0_0.length c0_0, .int .i64 a0_1] 24 (0, 0)) := by rw [← hwA]; exact blk_alloc (alloc_new w _) _
  have hyA : wA.heap[w.heap.size + 1]? = some (.cells #[.slice none 0 0, .int .i64 0] 24 (0, 0)) := by
    rw [← hwA]
    have := alloc_new (w.alloc (.cells #[.slice A0_0 l0_0.length c0_0, .int .i64 a0_1] 24)) (.cells #[.slice none 0 0, .int .i64 0] 24)
    rwa [World.size_alloc] at this
  obtain ⟨P', hP, hrA⟩ : ∃ P' : Nat → Prop, (∀ k, P' k → P0_0_ k ∧ k < w.heap.size) ∧ Kd.F k55 wA P' A0_0 l0_0.length l0_0 := ⟨_, fun _ h => h, Kd.F_below (Kd.F_bound hr) hbA⟩
  have HC : Aside0 (Calls Try.prog 81 #[.agg #[.slice A0_0 l0_0.length c0_0, .int .i64 a0_1], .int .i64 a1, .func (.func 82) #[] #[]] wA fun e w' => ∃ v0_ : Value, e = .returned (.tuple #[.agg #[v0_, .int .i64 r2], .int .i64 r3]) ∧ Kd.V k55 55 w' wA.heap.size (fun k => P' k ∨ wA.heap.size ≤ k) v0_ r1 ∧ Below wA.heap.size wA w') := by
    refine ⟨?_⟩
    by_cases hu : usedB l0_0 a1 = true
    · rw [if_pos hu] at h
      obtain ⟨l', hf, h⟩ := Option.bind_eq_some_iff.1 h
      have hl' : l'.length < 1000000 := by
        by_cases hc : l'.length < 1000000
        · exact hc
        · rw [if_neg hc] at h; cases h
      rw [if_pos hl'] at h
      obtain ⟨rfl, rfl, rfl⟩ : l' = r1 ∧ a0_1 = r2 ∧ (0 : Int) = r3 := by simpa using h
      exact changed82 P' 5000 A0_0 c0_0 l0_0 l' a0_1 a1 wA hrA hl hc hu hf hl'
    · rw [if_neg hu] at h
      rw [Bool.not_eq_true] at hu
      obtain ⟨rfl, rfl, rfl⟩ : l0_0 = r1 ∧ a0_1 = r2 ∧ (4 : Int) = r3 := by simpa using h
      exact changedNo82 P' A0_0 c0_0 l0_0 a0_1 a1 wA hrA hc hu
  have HP := Aside0.mk hP
  have HBA := Aside0.mk hbA
  have HSA := Aside0.mk hsA
  have HYA := Aside0.mk hyA
  have hu24 := Try.underlying24
  have b0 : wA.cell? ⟨w.heap.size, 0, none⟩ = some (.slice A0_0 l0_0.length c0_0) := (blk_cell hxA 0).trans rfl
  have b1 : wA.cell? ⟨w.heap.size, 1, none⟩ = some (.int .i64 a0_1) := (blk_cell hxA 1).trans rfl
  clear hs0_0 hr hbA hsA hxA hyA hrA hP h hl hc
  go_enter Try.func48, Try.ntmps48
  go_wp2_with fail
  clear hwA b0 b1
  refine HC.out.mono ?_
  rintro e w1 ⟨v, rfl, hv, hb1⟩
  obtain ⟨A', c', rfl⟩ := Kd.V_slice hv
  have hy1 := blk_below HYA.out hb1
  have HB1 := Aside0.mk (HBA.out.trans (hb1.mono HBA.out.size))
  have HY1 := Aside0.mk hy1
  have HV := Aside0.mk hv
  have y0 : w1.cell? ⟨w.heap.size + 1, 0, none⟩ = some (.slice none 0 0) := (blk_cell hy1 0).trans rfl
  have y1 : w1.cell? ⟨w.heap.size + 1, 1, none⟩ = some (.int .i64 0) := (blk_cell hy1 1).trans rfl
  have f0 := blk_frozen hy1 0
  have f1 := blk_frozen hy1 1
  clear hb1 hy1 hv HC
  go_wp2
  refine bodyPost_ret (results_ct rfl _ _ (w.heap.size + 1) 24 #[.slice A' r1.length c', .int .i64 r2] (0, 0) _ rfl (blk_put (cs := #[.slice A' r1.length c', .int .i64 0]) (blk_put (cs := #[.slice none 0 0, .int .i64 0]) HY1.out 0 _ rfl) 1 _ rfl) Try.underlying24 rfl (by kernel_rfl)) rfl ?_
  have hne : ∀ k, (P' k ∨ wA.heap.size ≤ k) → k ≠ w.heap.size + 1 := fun k hk => by
    have := HSA.out
    rcases hk with h | h
    · have := (HP.out k h).2; omega
    · omega
  refine ⟨_, rfl, ?_, below_set (below_set HB1.out (by omega)) (by omega)⟩
  refine Kd.V_mono (Kd.V_far (p := ⟨w.heap.size + 1, 1, none⟩) (Kd.V_far (p := ⟨w.heap.size + 1, 0, none⟩) HV.out hne _) hne _) fun k hk => ?_
  rcases hk with h | h
  · exact .inl (HP.out k h).1
  · exact .inr (by have := HSA.out; omega)
def heap_Settle.f (l0_0 : List (S55)) (a0_1 : Int) : Option ((List (S55)) × Int) := if 0 < l0_0.length ∧ l0_0.length < 1000000 then some (l0_0.map fun x => ⟨x.f0, false, x.f2⟩, a0_1) else none
theorem settle_step (l : List S55) (j : Nat) (h : j < l.length) : ((l.take j).map (fun x : S55 => (⟨x.f0, false, x.f2⟩ : S55)) ++ l.drop j).set j ⟨(rd_T55 ((l.take j).map (fun x : S55 => (⟨x.f0, false, x.f2⟩ : S55)) ++ l.drop j) (j : Nat)).f0, false, (rd_T55 ((l.take j).map (fun x : S55 => (⟨x.f0, false, x.f2⟩ : S55)) ++ l.drop j) (j : Nat)).f2⟩ = (l.take (j + 1)).map (fun x : S55 => (⟨x.f0, false, x.f2⟩ : S55)) ++ l.drop (j + 1) := by
  have hl : ((l.take j).map (fun x : S55 => (⟨x.f0, false, x.f2⟩ : S55))).length = j := by rw [List.length_map, List.length_take]; omega
  have hr : rd_T55 ((l.take j).map (fun x : S55 => (⟨x.f0, false, x.f2⟩ : S55)) ++ l.drop j) (j : Nat) = l[j] := by
    simp only [rd_T55, Int.toNat_natCast, List.getD_eq_getElem?_getD]
    rw [List.getElem?_append_right (by omega), hl, Nat.sub_self, List.drop_eq_getElem_cons h]
    rfl
  rw [hr, List.set_append_right _ _ (by omega), hl, Nat.sub_self, List.drop_eq_getElem_cons h, List.set_cons_zero, List.take_succ_eq_append_getElem h, List.map_append, List.append_assoc]
  rfl
set_option maxHeartbeats 4000000 in
set_option maxRecDepth 100000 in
theorem heap_Settle.calls (P0_0_ : Nat → Prop) (A0_0 : Option Addr) (c0_0 : Nat) (l0_0 : List (S55)) (a0_1 : Int) (r1 : List (S55)) (r2 : Int) (w : World) (hs0_0 : Kd.V k55 55 w w.heap.size (fun k_ => P0_0_ k_) (.slice A0_0 l0_0.length c0_0) l0_0) (h : heap_Settle.f l0_0 a0_1 = some (r1, r2)) :
    Calls Try.prog 50 #[.agg #[.slice A0_0 l0_0.length c0_0, .int .i64 a0_1]] w fun e w' => ∃ v0_ : Value, e = .returned (.agg #[v0_, .int .i64 r2]) ∧ Kd.V k55 55 w' w.heap.size (fun k_ => (P0_0_ k_ ∨ w.heap.size ≤ k_)) v0_ r1 ∧ Below w.heap.size w w' := by
  obtain ⟨-, hc, hr⟩ := Kd.V_at hs0_0
  unfold heap_Settle.f at h
  have hcond : 0 < l0_0.length ∧ l0_0.length < 1000000 := by
    by_cases hc : 0 < l0_0.length ∧ l0_0.length < 1000000
    · exact hc
    · rw [if_neg hc] at h; cases h
  rw [if_pos hcond] at h
  obtain ⟨h0, hl⟩ := hcond
  obtain ⟨h1, rfl⟩ : (l0_0.map fun x => (⟨x.f0, false, x.f2⟩ : S55)) = r1 ∧ a0_1 = r2 := by simpa using h
  have HRES := Aside0.mk h1
  obtain ⟨wA, hwA⟩ : ∃ wA, (w.alloc (.cells #[.slice A0_0 l0_0.length c0_0, .int .i64 a0_1] 24)).alloc (.cells #[.slice none 0 0, .int .i64 0] 24) = wA := ⟨_, rfl⟩
  have hbA : Below w.heap.size w wA := by rw [← hwA]; exact ((Below.refl _ w).alloc (Nat.le_refl _) _).alloc (by simp) _
  have hsA : wA.heap.size = w.heap.size + 2 := by rw [← hwA]; simp
  have hxA : wA.heap[w.heap.size]? = some (.cells #[.slice A0_0 l0_0.length c0_0, .int .i64 a0_1] 24 (0, 0)) := by rw [← hwA]; exact blk_alloc (alloc_new w _) _
  have hyA : wA.heap[w.heap.size + 1]? = some (.cells #[.slice none 0 0, .int .i64 0] 24 (0, 0)) := by
    rw [← hwA]
    have := alloc_new (w.alloc (.cells #[.slice A0_0 l0_0.length c0_0, .int .i64 a0_1] 24)) (.cells #[.slice none 0 0, .int .i64 0] 24)
    rwa [World.size_alloc] at this
  obtain ⟨P', hP, hrA⟩ : ∃ P' : Nat → Prop, (∀ k, P' k → P0_0_ k ∧ k < w.heap.size) ∧ Kd.F k55 wA P' A0_0 l0_0.length l0_0 := ⟨_, fun _ h => h, Kd.F_below (Kd.F_bound hr) hbA⟩
  have HP := Aside0.mk hP
  have HBA := Aside0.mk hbA
  have HSA := Aside0.mk hsA
  have HYA := Aside0.mk hyA
  have HRA := Aside0.mk hrA
  have hu24 := Try.underlying24
  have hu55 := Try.underlying55
  have b0 : wA.cell? ⟨w.heap.size, 0, none⟩ = some (.slice A0_0 l0_0.length c0_0) := (blk_cell hxA 0).trans rfl
  have b1 : wA.cell? ⟨w.heap.size, 1, none⟩ = some (.int .i64 a0_1) := (blk_cell hxA 1).trans rfl
  clear hs0_0 hr hbA hsA hxA hyA hrA hP h hc h1
  go_enter Try.func50, Try.ntmps50
  go_wp2_with fail
  clear hwA b0 b1
  refine (own_walk P' A0_0 c0_0 l0_0 a0_1 wA HRA.out h0 hl).mono ?_
  rintro e w1 ⟨b, g, rfl, hw, hb1⟩
  have HY1 := Aside0.mk (blk_below HYA.out hb1)
  have HB1 := Aside0.mk (HBA.out.trans (hb1.mono HBA.out.size))
  have HW := Aside0.mk hw
  have b0 : w1.cell? ⟨b, 0, none⟩ = some (.slice (some ⟨g, 0, none⟩) l0_0.length l0_0.length) := (blk_cell hw.box 0).trans rfl
  have hgg : wA.heap.size ≤ g := hw.hg
  have hbb : wA.heap.size ≤ b := hw.hb
  clear hw hb1
  go_wp2
  go_loopg [13] l0_0.length (fun kx s wr => ∃ (j : Nat), s = .int .i64 j ∧ j ≤ l0_0.length ∧ l0_0.length - j ≤ kx ∧ Aside0 (Wk wA P' wr b g ((l0_0.take j).map (fun x : S55 => (⟨x.f0, false, x.f2⟩ : S55)) ++ l0_0.drop j) a0_1) ∧ Aside0 (KeepBut w1 wr g none))
  case atStart => exact ⟨0, rfl, Nat.zero_le _, by omega, ⟨by simpa using HW.out⟩, ⟨KeepBut.refl _ _ _⟩⟩
  case round =>
    obtain ⟨j, rfl, hj, hgk, HWr, HKr⟩ := hrel
    have hlen : ((l0_0.take j).map (fun x : S55 => (⟨x.f0, false, x.f2⟩ : S55)) ++ l0_0.drop j).length = l0_0.length := by simp; omega
    have r0 : wr.cell? ⟨b, 0, none⟩ = some (.slice (some ⟨g, 0, none⟩) l0_0.length l0_0.length) := by
      have := (blk_cell HWr.out.box 0).trans rfl
      rw [hlen] at this
      exact this
    have r1 : wr.cell? ⟨b, 1, none⟩ = some (.int .i64 a0_1) := (blk_cell HWr.out.box 1).trans rfl
    by_cases hlt : j < l0_0.length
    · have HS := Aside0.mk (Wk.setPin HWr.out (i := j) (by rw [hlen]; exact hlt) false)
      have HS2 : Aside0 (Wk wA P' (wr.setCell ⟨g, j * 4 + 1, none⟩ (.bool false)) b g ((l0_0.take (j + 1)).map (fun x : S55 => (⟨x.f0, false, x.f2⟩ : S55)) ++ l0_0.drop (j + 1)) a0_1) := ⟨by rw [← settle_step l0_0 j hlt]; exact HS.out⟩
      obtain ⟨cs, hcc, hcs⟩ := HWr.out.blk
      have f1 := blk_frozen hcc (j * 4 + 1)
      obtain ⟨-, x1, -, -⟩ := HWr.out.row j (by rw [hlen]; exact hlt)
      generalize (rd_T55 ((l0_0.take j).map (fun x : S55 => (⟨x.f0, false, x.f2⟩ : S55)) ++ l0_0.drop j) (j : Nat)).f1 = pin at x1
      have p1 : (0 : Int) ≤ j := by omega
      have q1 : (j : Int) < l0_0.length := by omega
      clear HS hlen hcc hcs r1
      go_wp2
      go_roundg (l0_0.length - (j + 1))
      case measure => omega
      case rel => exact ⟨j + 1, by simp, by omega, Nat.le_refl _, HS2, ⟨HKr.out.set_ _ _⟩⟩
    · obtain rfl : j = l0_0.length := by omega
      have HWF : Aside0 (Wk wA P' wr b g (l0_0.map fun x : S55 => (⟨x.f0, false, x.f2⟩ : S55)) a0_1) := ⟨by have := HWr.out; rw [List.take_length, List.drop_length, List.append_nil] at this; exact this⟩
      have hgn : w.heap.size + 1 ≠ g := by have := HSA.out; omega
      have hy3 := HKr.out.blk HY1.out hgn (by simp)
      have HY3 := Aside0.mk hy3
      have f0 := blk_frozen hy3 0
      have f1 := blk_frozen hy3 1
      have y0 : wr.cell? ⟨w.heap.size + 1, 0, none⟩ = some (.slice none 0 0) := (blk_cell hy3 0).trans rfl
      have y1 : wr.cell? ⟨w.heap.size + 1, 1, none⟩ = some (.int .i64 0) := (blk_cell hy3 1).trans rfl
      have hbn : b ≠ w.heap.size + 1 := by have := HSA.out; omega
      have HB3 : Aside0 (Below w.heap.size w wr) := ⟨HBA.out.trans (HWr.out.low.mono HBA.out.size)⟩
      clear hy3 hlen
      go_wp2
      refine bodyPost_ret (results_cell_row rfl _ _ (w.heap.size + 1) 24 #[.slice (some ⟨g, 0, none⟩) l0_0.length l0_0.length, .int .i64 a0_1] (0, 0) _ rfl (blk_put (cs := #[.slice (some ⟨g, 0, none⟩) l0_0.length l0_0.length, .int .i64 0]) (blk_put (cs := #[.slice none 0 0, .int .i64 0]) HY3.out 0 _ rfl) 1 _ rfl) Try.underlying24 rfl (by kernel_rfl)) rfl ?_
      have hne : ∀ k, (P' k ∨ wA.heap.size ≤ k) → k ≠ w.heap.size + 1 := fun k hk => by
        have := HSA.out
        rcases hk with h | h
        · have := (HP.out k h).2; omega
        · omega
      have hv := HWF.out.V (by rw [List.length_map]; exact hl) w.heap.size
      rw [List.length_map] at hv
      refine ⟨_, rfl, ?_, below_set (below_set HB3.out (by omega)) (by omega)⟩
      rw [← HRES.out]
      refine Kd.V_mono (Kd.V_far (p := ⟨w.heap.size + 1, 1, none⟩) (Kd.V_far (p := ⟨w.heap.size + 1, 0, none⟩) hv hne _) hne _) fun k hk => ?_
      rcases hk with h | h
      · exact .inl (HP.out k h).1
      · exact .inr (by have := HSA.out; omega)
end Go.Proofs.Yteiladccdenpbaa.P
end
section
namespace Go.Proofs.Yteiladccdenpbaa.P
open Go.RowKit Go.Proofs.YteiladccdenpbaaW.PrintWords Go.Proofs.YteiladccdenpbaaW.PrintLast Go.Proofs.YteiladccdenpbaaW.PrintMore
set_option linter.unusedVariables false
set_option linter.unusedSimpArgs false
def oddPlace (n : Nat) (x : S49) : Bool := decide (x.f1 < 0) || decide ((n : Int) ≤ x.f1)
set_option maxHeartbeats 4000000 in
set_option maxRecDepth 100000 in
theorem places1 (g : Nat) (A : Option Addr) (n c : Nat) (x : S49) (W : World) (h0 : W.cell? ⟨g, 0, none⟩ = some (.slice A n c)) :
    Calls Try.prog 90 (#[itemV x] ++ #[.pointer (some ⟨g, 0, none⟩)]) W fun e w' => e = .returned (.bool (oddPlace n x)) ∧ Below W.heap.size W w' := by
  have hu49 := Try.underlying49
  have hu24 := Try.underlying24
  have hlt := World.block_lt_of_cell? W _ h0
  have hlt' : g < W.heap.size := hlt
  obtain ⟨k, v⟩ := x
  have HB := Aside0.mk ((Below.refl W.heap.size W).alloc (Nat.le_refl _) (.cells #[.int .i64 k, .int .i64 v] 49))
  simp only [oddPlace]
  simp only [List.append_toArray, List.cons_append, List.nil_append]
  by_cases h1 : v < 0
  · rw [decide_eq_true h1, Bool.true_or]
    have hd : decide (v < 0) = true := decide_eq_true h1
    go_enter Try.func90, Try.ntmps90
    go_wp2
    go_ret
    exact ⟨rfl, HB.out⟩
  · rw [decide_eq_false h1, Bool.false_or]
    have hd : decide (v < 0) = false := decide_eq_false h1
    go_enter Try.func90, Try.ntmps90
    go_wp2
    go_ret
    exact ⟨rfl, HB.out⟩
def placesB (n : Nat) (leaf : Bool) (it : List S49) : Bool := leaf || !(it.any (oddPlace n))
set_option maxHeartbeats 4000000 in
set_option maxRecDepth 100000 in
theorem places_walk (A : Option Addr) (n c : Nat) (kp : Int) (leaf : Bool) (A' : Option Addr) (c' : Nat) (it : List S49) (w : World) (hit : Kd.C k49 w A' it.length it) (hl : it.length < 1000000) :
    Calls Try.prog 65 #[.agg #[.slice A n c, .int .i64 kp], .agg #[.bool leaf, .slice A' it.length c']] w fun e w' => e = .returned (.bool (placesB n leaf it)) ∧ Below w.heap.size w w' := by
  have hu53 := Try.underlying53
  have hu24 := Try.underlying24
  have HB := Aside0.mk (((Below.refl w.heap.size w).alloc (Nat.le_refl _) (.cells #[.slice A n c, .int .i64 kp] 24)).alloc (by simp) (.cells #[.bool leaf, .slice A' it.length c'] 53))
  unfold placesB
  cases leaf with
  | true =>
    clear hit
    go_enter Try.func65, Try.ntmps65
    go_wp2
    go_ret
    exact ⟨rfl, HB.out⟩
  | false =>
    rw [Bool.false_or]
    obtain ⟨wA, hwA⟩ : ∃ wA, (w.alloc (.cells #[.slice A n c, .int .i64 kp] 24)).alloc (.cells #[.bool false, .slice A' it.length c'] 53) = wA := ⟨_, rfl⟩
    rw [hwA] at HB
    have hx : wA.heap[w.heap.size]? = some (.cells #[.slice A n c, .int .i64 kp] 24 (0, 0)) := by rw [← hwA]; exact blk_alloc (alloc_new w _) _
    have hy : wA.heap[w.heap.size + 1]? = some (.cells #[.bool false, .slice A' it.length c'] 53 (0, 0)) := by
      rw [← hwA]
      have := alloc_new (w.alloc (.cells #[.slice A n c, .int .i64 kp] 24)) (.cells #[.bool false, .slice A' it.length c'] 53)
      rwa [World.size_alloc] at this
    have HC := Aside0.mk (contains49_90 #[.pointer (some ⟨w.heap.size, 0, none⟩)] (oddPlace n) it A' c' wA hl (Kd.C_below hit HB.out) (fun W x hb _ => places1 w.heap.size A n c x W ((hb.cell (World.block_lt_of_cell? wA _ ((blk_cell hx 0).trans rfl))).trans ((blk_cell hx 0).trans rfl))))
    generalize it.any (oddPlace n) = any at HC
    have y0 : wA.cell? ⟨w.heap.size + 1, 0, none⟩ = some (.bool false) := (blk_cell hy 0).trans rfl
    have y1 : wA.cell? ⟨w.heap.size + 1, 1, none⟩ = some (.slice A' it.length c') := (blk_cell hy 1).trans rfl
    clear hit hx hy
    go_enter Try.func65, Try.ntmps65
    go_wp2_with fail
    clear hwA
    refine HC.out.mono ?_
    rintro e w1 ⟨rfl, hb1⟩
    have HB1 := Aside0.mk (HB.out.trans (hb1.mono HB.out.size))
    clear hb1 y0 y1 HC
    cases any
    all_goals go_wp2
    all_goals go_ret
    all_goals exact ⟨rfl, HB1.out⟩
set_option maxHeartbeats 4000000 in
set_option maxRecDepth 100000 in
theorem leads1 (g : Nat) (A : Option Addr) (c : Nat) (l : List S55) (kp : Int) (x : S49) (W : World) (h0 : W.cell? ⟨g, 0, none⟩ = some (.slice A l.length c)) (h1 : W.cell? ⟨g, 1, none⟩ = some (.int .i64 kp)) (hr : Kd.C k55 W A l.length l) (hc : l.length ≤ c) :
    Calls Try.prog 92 (#[itemV x] ++ #[.pointer (some ⟨g, 0, none⟩)]) W fun e w' => e = .returned (.bool (!usedB l x.f1)) ∧ Below W.heap.size W w' := by
  have hu49 := Try.underlying49
  have hu24 := Try.underlying24
  have hlt := World.block_lt_of_cell? W _ h0
  have hlt' : g < W.heap.size := hlt
  obtain ⟨k, v⟩ := x
  have HB := Aside0.mk ((Below.refl W.heap.size W).alloc (Nat.le_refl _) (.cells #[.int .i64 k, .int .i64 v] 49))
  simp only [List.append_toArray, List.cons_append, List.nil_append]
  generalize hu : usedB l v = u
  have HC := Aside0.mk (heap_isUsed.calls A c l kp v u (W.alloc (.cells #[.int .i64 k, .int .i64 v] 49)) (Kd.C_below hr HB.out) hc (by rw [isUsed_val, hu]))
  clear hr hu hc
  go_enter Try.func92, Try.ntmps92
  go_wp2_with fail
  refine HC.out.mono ?_
  rintro e w1 ⟨rfl, hb1⟩
  have HB1 := Aside0.mk (HB.out.trans (hb1.mono HB.out.size))
  clear hb1 HC
  cases u
  all_goals go_wp2
  all_goals go_ret
  all_goals exact ⟨rfl, HB1.out⟩
def leadsB (l : List S55) (leaf : Bool) (it : List S49) : Bool := leaf || !(it.any fun x => !usedB l x.f1)
set_option maxHeartbeats 4000000 in
set_option maxRecDepth 100000 in
theorem leads_walk (A : Option Addr) (c : Nat) (l : List S55) (kp : Int) (leaf : Bool) (A' : Option Addr) (c' : Nat) (it : List S49) (w : World) (hr : Kd.C k55 w A l.length l) (hc : l.length ≤ c) (hit : Kd.C k49 w A' it.length it) (hl : it.length < 1000000) :
    Calls Try.prog 71 #[.agg #[.slice A l.length c, .int .i64 kp], .agg #[.bool leaf, .slice A' it.length c']] w fun e w' => e = .returned (.bool (leadsB l leaf it)) ∧ Below w.heap.size w w' := by
  have hu53 := Try.underlying53
  have hu24 := Try.underlying24
  have HB := Aside0.mk (((Below.refl w.heap.size w).alloc (Nat.le_refl _) (.cells #[.slice A l.length c, .int .i64 kp] 24)).alloc (by simp) (.cells #[.bool leaf, .slice A' it.length c'] 53))
  unfold leadsB
  cases leaf with
  | true =>
    clear hit hr
    go_enter Try.func71, Try.ntmps71
    go_wp2
    go_ret
    exact ⟨rfl, HB.out⟩
  | false =>
    rw [Bool.false_or]
    obtain ⟨wA, hwA⟩ : ∃ wA, (w.alloc (.cells #[.slice A l.length c, .int .i64 kp] 24)).alloc (.cells #[.bool false, .slice A' it.length c'] 53) = wA := ⟨_, rfl⟩
    rw [hwA] at HB
    have hx : wA.heap[w.heap.size]? = some (.cells #[.slice A l.length c, .int .i64 kp] 24 (0, 0)) := by rw [← hwA]; exact blk_alloc (alloc_new w _) _
    have hy : wA.heap[w.heap.size + 1]? = some (.cells #[.bool false, .slice A' it.length c'] 53 (0, 0)) := by
      rw [← hwA]
      have := alloc_new (w.alloc (.cells #[.slice A l.length c, .int .i64 kp] 24)) (.cells #[.bool false, .slice A' it.length c'] 53)
      rwa [World.size_alloc] at this
    have c0 : wA.cell? ⟨w.heap.size, 0, none⟩ = some (.slice A l.length c) := (blk_cell hx 0).trans rfl
    have c1 : wA.cell? ⟨w.heap.size, 1, none⟩ = some (.int .i64 kp) := (blk_cell hx 1).trans rfl
    have HC := Aside0.mk (contains49_92 #[.pointer (some ⟨w.heap.size, 0, none⟩)] (fun x => !usedB l x.f1) it A' c' wA hl (Kd.C_below hit HB.out) (fun W x hb _ => leads1 w.heap.size A c l kp x W ((hb.cell (World.block_lt_of_cell? wA _ c0)).trans c0) ((hb.cell (World.block_lt_of_cell? wA _ c1)).trans c1) (Kd.C_below (Kd.C_below hr HB.out) hb) hc))
    generalize (it.any fun x => !usedB l x.f1) = any at HC
    have y0 : wA.cell? ⟨w.heap.size + 1, 0, none⟩ = some (.bool false) := (blk_cell hy 0).trans rfl
    have y1 : wA.cell? ⟨w.heap.size + 1, 1, none⟩ = some (.slice A' it.length c') := (blk_cell hy 1).trans rfl
    clear hit hr hx hy c0 c1
    go_enter Try.func71, Try.ntmps71
    go_wp2_with fail
    clear hwA
    refine HC.out.mono ?_
    rintro e w1 ⟨rfl, hb1⟩
    have HB1 := Aside0.mk (HB.out.trans (hb1.mono HB.out.size))
    clear hb1 y0 y1 HC
    cases any
    all_goals go_wp2
    all_goals go_ret
    all_goals exact ⟨rfl, HB1.out⟩
def oddB (n : Nat) (x : S55) : Bool :=
  if x.f0 = 0 then (x.f2.f0 || decide (0 < x.f2.f1.length)) else (decide (x.f0 < 0) || decide (2147483647 < x.f0) || x.f1 || !decide (RtN x.f2.f1) || !placesB n x.f2.f0 x.f2.f1)
set_option maxHeartbeats 4000000 in
set_option maxRecDepth 100000 in
theorem right1 (g : Nat) (A : Option Addr) (n c : Nat) (kp : Int) (x : S55) (A' : Option Addr) (c' : Nat) (W : World) (h0 : W.cell? ⟨g, 0, none⟩ = some (.slice A n c)) (h1 : W.cell? ⟨g, 1, none⟩ = some (.int .i64 kp)) (hc : x.f2.f1.length ≤ c') (hit : Kd.C k49 W A' x.f2.f1.length x.f2.f1) (hl : x.f2.f1.length < 1000000) (hn : n < 1000000) :
    Calls Try.prog 63 (#[cellV x A' c'] ++ #[.pointer (some ⟨g, 0, none⟩)]) W fun e w' => e = .returned (.bool (oddB n x)) ∧ Below W.heap.size W w' := by
  have hu55 := Try.underlying55
  have hu53 := Try.underlying53
  have hu24 := Try.underlying24
  have hlt := World.block_lt_of_cell? W _ h0
  have hlt' : g < W.heap.size := hlt
  obtain ⟨ref, pin, leaf, it⟩ := x
  simp only [cellV] at *
  simp only [List.append_toArray, List.cons_append, List.nil_append]
  obtain ⟨wA, hwA⟩ : ∃ wA, W.alloc (.cells #[.int .i64 ref, .bool pin, .bool leaf, .slice A' it.length c'] 55) = wA := ⟨_, rfl⟩
  have hbA : Below W.heap.size W wA := by rw [← hwA]; exact (Below.refl W.heap.size W).alloc (Nat.le_refl _) _
  have hx : wA.heap[W.heap.size]? = some (.cells #[.int .i64 ref, .bool pin, .bool leaf, .slice A' it.length c'] 55 (0, 0)) := by rw [← hwA]; exact alloc_new W _
  have x0 : wA.cell? ⟨W.heap.size, 0, none⟩ = some (.int .i64 ref) := (blk_cell hx 0).trans rfl
  have x1 : wA.cell? ⟨W.heap.size, 1, none⟩ = some (.bool pin) := (blk_cell hx 1).trans rfl
  have x2 : wA.cell? ⟨W.heap.size, 2, none⟩ = some (.bool leaf) := (blk_cell hx 2).trans rfl
  have x3 : wA.cell? ⟨W.heap.size, 3, none⟩ = some (.slice A' it.length c') := (blk_cell hx 3).trans rfl
  have hitA := Kd.C_below hit hbA
  have HR := Aside0.mk (node_Right.calls 6 leaf A' c' it (decide (RtN it)) wA hitA hc (right04_val leaf it 6 (by omega)))
  have HP := Aside0.mk (fun (w1 : World) (hb : Below wA.heap.size wA w1) => places_walk A n c kp leaf A' c' it w1 (Kd.C_below hitA hb) hl)
  have HBA := Aside0.mk hbA
  have g0 : wA.cell? ⟨g, 0, none⟩ = some (.slice A n c) := (hbA.cell hlt).trans h0
  have g1 : wA.cell? ⟨g, 1, none⟩ = some (.int .i64 kp) := (hbA.cell (World.block_lt_of_cell? W _ h1)).trans h1
  have HX := Aside0.mk hx
  unfold oddB
  simp only []
  generalize decide (RtN it) = rt at HR
  generalize placesB n leaf it = pl at HP
  have hlz : it.length < 1000000 := hl
  clear hit hitA hbA hx hl h0 h1
  by_cases hz : ref = 0
  · subst hz
    rw [if_pos rfl]
    clear HR HP
    cases leaf with
    | true =>
      rw [Bool.true_or]
      go_enter Try.func63, Try.ntmps63
      go_wp2
      go_ret
      exact ⟨rfl, HBA.out⟩
    | false =>
      rw [Bool.false_or]
      by_cases hll : 0 < it.length
      · have hd : decide (0 < it.length) = true := decide_eq_true hll
        have hd2 : decide (0 < (it.length : Int)) = true := decide_eq_true (by omega)
        rw [hd]
        go_enter Try.func63, Try.ntmps63
        go_wp2
        go_ret
        exact ⟨rfl, HBA.out⟩
      · have hd : decide (0 < it.length) = false := decide_eq_false hll
        have hd2 : decide (0 < (it.length : Int)) = false := decide_eq_false (by omega)
        rw [hd]
        go_enter Try.func63, Try.ntmps63
        go_wp2
        go_ret
        exact ⟨rfl, HBA.out⟩
  rw [if_neg hz]
  have hzb : (ref == 0) = false := beq_eq_false_iff_ne.2 hz
  by_cases h2 : ref < 0
  · have hd : decide (ref < 0) = true := decide_eq_true h2
    rw [hd]
    simp only [Bool.true_or]
    clear HR HP hz
    go_enter Try.func63, Try.ntmps63
    go_wp2
    go_ret
    exact ⟨rfl, HBA.out⟩
  have hd2 : decide (ref < 0) = false := decide_eq_false h2
  rw [hd2, Bool.false_or]
  by_cases h3 : 2147483647 < ref
  · have hd : decide (2147483647 < ref) = true := decide_eq_true h3
    rw [hd]
    simp only [Bool.true_or]
    clear HR HP hz
    go_enter Try.func63, Try.ntmps63
    go_wp2
    go_ret
    exact ⟨rfl, HBA.out⟩
  have hd3 : decide (2147483647 < ref) = false := decide_eq_false h3
  rw [hd3, Bool.false_or]
  cases pin with
  | true =>
    simp only [Bool.true_or]
    clear HR HP hz
    go_enter Try.func63, Try.ntmps63
    go_wp2
    go_ret
    exact ⟨rfl, HBA.out⟩
  | false =>
    rw [Bool.false_or]
    cases rt with
    | false =>
      simp only [Bool.not_false, Bool.true_or]
      clear HP hz
      go_enter Try.func63, Try.ntmps63
      go_wp2_with fail
      refine HR.out.mono ?_
      rintro e w1 ⟨rfl, hb1⟩
      have HB1 := Aside0.mk (HBA.out.trans (hb1.mono HBA.out.size))
      clear hb1 HR
      go_wp2
      go_ret
      exact ⟨rfl, HB1.out⟩
    | true =>
      rw [Bool.not_true, Bool.false_or]
      clear hz
      go_enter Try.func63, Try.ntmps63
      go_wp2_with fail
      refine HR.out.mono ?_
      rintro e w1 ⟨rfl, hb1⟩
      have HB1 := Aside0.mk (HBA.out.trans (hb1.mono HBA.out.size))
      have HP1 := Aside0.mk (HP.out w1 hb1)
      have hx1 := blk_below HX.out hb1
      have y2 : w1.cell? ⟨W.heap.size, 2, none⟩ = some (.bool leaf) := (blk_cell hx1 2).trans rfl
      have y3 : w1.cell? ⟨W.heap.size, 3, none⟩ = some (.slice A' it.length c') := (blk_cell hx1 3).trans rfl
      have z0 : w1.cell? ⟨g, 0, none⟩ = some (.slice A n c) := (hb1.cell (World.block_lt_of_cell? wA _ g0)).trans g0
      have z1 : w1.cell? ⟨g, 1, none⟩ = some (.int .i64 kp) := (hb1.cell (World.block_lt_of_cell? wA _ g1)).trans g1
      clear hb1 hx1 HR HP HX x0 x1 x2 x3 g0 g1 hwA
      go_wp2_with fail
      refine HP1.out.mono ?_
      rintro e w2 ⟨rfl, hb2⟩
      have HB2 := Aside0.mk (HB1.out.trans (hb2.mono HB1.out.size))
      clear hb2 HP1
      cases pl
      all_goals go_wp2
      all_goals go_ret
      all_goals exact ⟨rfl, HB2.out⟩
def rightB (l : List S55) (kp : Int) : Bool := decide (1 ≤ l.length) && decide (l.length ≤ 2000) && decide (0 ≤ kp) && decide (kp ≤ (l.length : Int)) && !(l.any (oddB l.length))
def heap_Right.f (l0_0 : List (S55)) (a0_1 : Int) : Option (Bool) := if l0_0.length < 1000000 ∧ (∀ x ∈ l0_0, x.f2.f1.length < 1000000) then some (rightB l0_0 a0_1) else none
set_option maxHeartbeats 4000000 in
set_option maxRecDepth 100000 in
theorem heap_Right.calls (A0_0 : Option Addr) (c0_0 : Nat) (l0_0 : List (S55)) (a0_1 : Int) (r : Bool) (w : World) (hr0_0 : Kd.C k55 w A0_0 l0_0.length l0_0) (hc0_0 : l0_0.length ≤ c0_0) (h : heap_Right.f l0_0 a0_1 = some r) :
    Calls Try.prog 38 #[.agg #[.slice A0_0 l0_0.length c0_0, .int .i64 a0_1]] w fun e w' => e = .returned (.bool r) ∧ Below w.heap.size w w' := by
  unfold heap_Right.f at h
  have hcond : l0_0.length < 1000000 ∧ (∀ x ∈ l0_0, x.f2.f1.length < 1000000) := by
    by_cases hc : l0_0.length < 1000000 ∧ (∀ x ∈ l0_0, x.f2.f1.length < 1000000)
    · exact hc
    · rw [if_neg hc] at h; cases h
  rw [if_pos hcond] at h
  obtain ⟨hl, hi⟩ := hcond
  obtain rfl := Option.some.inj h
  obtain ⟨wA, hwA⟩ : ∃ wA, w.alloc (.cells #[.slice A0_0 l0_0.length c0_0, .int .i64 a0_1] 24) = wA := ⟨_, rfl⟩
  have hbA : Below w.heap.size w wA := by rw [← hwA]; exact (Below.refl w.heap.size w).alloc (Nat.le_refl _) _
  have hx : wA.heap[w.heap.size]? = some (.cells #[.slice A0_0 l0_0.length c0_0, .int .i64 a0_1] 24 (0, 0)) := by rw [← hwA]; exact alloc_new w _
  have x0 : wA.cell? ⟨w.heap.size, 0, none⟩ = some (.slice A0_0 l0_0.length c0_0) := (blk_cell hx 0).trans rfl
  have x1 : wA.cell? ⟨w.heap.size, 1, none⟩ = some (.int .i64 a0_1) := (blk_cell hx 1).trans rfl
  have hrA := Kd.C_below hr0_0 hbA
  have HC := Aside0.mk (contains55_63 #[.pointer (some ⟨w.heap.size, 0, none⟩)] (oddB l0_0.length) l0_0 A0_0 c0_0 wA hl hrA (fun W x A' c' hb hm hcl hit => right1 w.heap.size A0_0 l0_0.length c0_0 a0_1 x A' c' W ((hb.cell (World.block_lt_of_cell? wA _ x0)).trans x0) ((hb.cell (World.block_lt_of_cell? wA _ x1)).trans x1) hcl hit (hi x hm) hl))
  have HBA := Aside0.mk hbA
  unfold rightB
  generalize l0_0.any (oddB l0_0.length) = any at HC
  have hu24 := Try.underlying24
  clear hr0_0 hbA hx hrA hi h
  by_cases h1 : 1 ≤ l0_0.length
  · rw [decide_eq_true h1, Bool.true_and]
    have d1 : decide (0 < l0_0.length) = true := decide_eq_true (by omega)
    have d1' : decide (1 ≤ l0_0.length) = true := decide_eq_true (by omega)
    have d1i : decide ((1 : Int) ≤ (l0_0.length : Int)) = true := decide_eq_true (by omega)
    have d1j : decide ((0 : Int) < (l0_0.length : Int)) = true := decide_eq_true (by omega)
    by_cases h2 : l0_0.length ≤ 2000
    · rw [decide_eq_true h2, Bool.true_and]
      have d2 : decide (l0_0.length ≤ 2000) = true := decide_eq_true h2
      have d2i : decide ((l0_0.length : Int) ≤ 2000) = true := decide_eq_true (by omega)
      by_cases h3 : 0 ≤ a0_1
      · rw [decide_eq_true h3, Bool.true_and]
        have d3 : decide (0 ≤ a0_1) = true := decide_eq_true h3
        by_cases h4 : a0_1 ≤ (l0_0.length : Int)
        · rw [decide_eq_true h4, Bool.true_and]
          have d4 : decide (a0_1 ≤ (l0_0.length : Int)) = true := decide_eq_true h4
          go_enter Try.func38, Try.ntmps38
          go_wp2_with fail
          clear hwA
          refine HC.out.mono ?_
          rintro e w1 ⟨rfl, hb1⟩
          have HB1 := Aside0.mk (HBA.out.trans (hb1.mono HBA.out.size))
          clear hb1 HC x0 x1
          cases any
          all_goals go_wp2
          all_goals go_ret
          all_goals exact ⟨rfl, HB1.out⟩
        · rw [decide_eq_false h4, Bool.false_and]
          have d4 : decide (a0_1 ≤ (l0_0.length : Int)) = false := decide_eq_false h4
          clear HC
          go_enter Try.func38, Try.ntmps38
          go_wp2
          go_ret
          exact ⟨rfl, HBA.out⟩
      · rw [decide_eq_false h3, Bool.false_and, Bool.false_and]
        have d3 : decide (0 ≤ a0_1) = false := decide_eq_false h3
        clear HC
        go_enter Try.func38, Try.ntmps38
        go_wp2
        go_ret
        exact ⟨rfl, HBA.out⟩
    · rw [decide_eq_false h2, Bool.false_and, Bool.false_and, Bool.false_and]
      have d2 : decide (l0_0.length ≤ 2000) = false := decide_eq_false h2
      have d2i : decide ((l0_0.length : Int) ≤ 2000) = false := decide_eq_false (by omega)
      clear HC
      go_enter Try.func38, Try.ntmps38
      go_wp2
      go_ret
      exact ⟨rfl, HBA.out⟩
  · rw [decide_eq_false h1, Bool.false_and, Bool.false_and, Bool.false_and, Bool.false_and]
    have d1 : decide (0 < l0_0.length) = false := decide_eq_false (by omega)
    have d1' : decide (1 ≤ l0_0.length) = false := decide_eq_false (by omega)
    have d1i : decide ((1 : Int) ≤ (l0_0.length : Int)) = false := decide_eq_false (by omega)
    have d1j : decide ((0 : Int) < (l0_0.length : Int)) = false := decide_eq_false (by omega)
    clear HC
    go_enter Try.func38, Try.ntmps38
    go_wp2
    go_ret
    exact ⟨rfl, HBA.out⟩
def sameB (x y : S55) : Bool := (x.f0 == y.f0) && ((x.f1 == y.f1) && ((x.f2.f0 == y.f2.f0) && decide (x.f2.f1 = y.f2.f1)))
def sameL : List S55 → List S55 → Bool
  | [], [] => true
  | x :: xs, y :: ys => sameB x y && sameL xs ys
  | _, _ => false
set_option maxHeartbeats 4000000 in
set_option maxRecDepth 100000 in
theorem same1 (x y : S55) (A B : Option Addr) (c d : Nat) (W : World) (hx : Kd.C k49 W A x.f2.f1.length x.f2.f1) (hy : Kd.C k49 W B y.f2.f1.length y.f2.f1) (hc : x.f2.f1.length ≤ c) (hd : y.f2.f1.length ≤ d) (hl : x.f2.f1.length ≤ 1000) :
    Calls Try.prog 68 #[cellV x A c, cellV y B d] W fun e w' => e = .returned (.bool (sameB x y)) ∧ Below W.heap.size W w' := by
  have hu55 := Try.underlying55
  have hu53 := Try.underlying53
  obtain ⟨r1, p1, f1, i1⟩ := x
  obtain ⟨r2, p2, f2, i2⟩ := y
  simp only [cellV, sameB] at *
  obtain ⟨wA, hwA⟩ : ∃ wA, (W.alloc (.cells #[.int .i64 r1, .bool p1, .bool f1, .slice A i1.length c] 55)).alloc (.cells #[.int .i64 r2, .bool p2, .bool f2, .slice B i2.length d] 55) = wA := ⟨_, rfl⟩
  have hbA : Below W.heap.size W wA := by rw [← hwA]; exact ((Below.refl W.heap.size W).alloc (Nat.le_refl _) _).alloc (by simp) _
  have hxA : wA.heap[W.heap.size]? = some (.cells #[.int .i64 r1, .bool p1, .bool f1, .slice A i1.length c] 55 (0, 0)) := by rw [← hwA]; exact blk_alloc (alloc_new W _) _
  have hyA : wA.heap[W.heap.size + 1]? = some (.cells #[.int .i64 r2, .bool p2, .bool f2, .slice B i2.length d] 55 (0, 0)) := by
    rw [← hwA]
    have := alloc_new (W.alloc (.cells #[.int .i64 r1, .bool p1, .bool f1, .slice A i1.length c] 55)) (.cells #[.int .i64 r2, .bool p2, .bool f2, .slice B i2.length d] 55)
    rwa [World.size_alloc] at this
  have x0 : wA.cell? ⟨W.heap.size, 0, none⟩ = some (.int .i64 r1) := (blk_cell hxA 0).trans rfl
  have x1 : wA.cell? ⟨W.heap.size, 1, none⟩ = some (.bool p1) := (blk_cell hxA 1).trans rfl
  have x2 : wA.cell? ⟨W.heap.size, 2, none⟩ = some (.bool f1) := (blk_cell hxA 2).trans rfl
  have x3 : wA.cell? ⟨W.heap.size, 3, none⟩ = some (.slice A i1.length c) := (blk_cell hxA 3).trans rfl
  have y0 : wA.cell? ⟨W.heap.size + 1, 0, none⟩ = some (.int .i64 r2) := (blk_cell hyA 0).trans rfl
  have y1 : wA.cell? ⟨W.heap.size + 1, 1, none⟩ = some (.bool p2) := (blk_cell hyA 1).trans rfl
  have y2 : wA.cell? ⟨W.heap.size + 1, 2, none⟩ = some (.bool f2) := (blk_cell hyA 2).trans rfl
  have y3 : wA.cell? ⟨W.heap.size + 1, 3, none⟩ = some (.slice B i2.length d) := (blk_cell hyA 3).trans rfl
  have HN := Aside0.mk (node_Same.calls 1001 f1 A c i1 f2 B d i2 _ wA (Kd.C_below hx hbA) hc (Kd.C_below hy hbA) hd (same04_val 1001 f1 f2 i1 i2 hl (by omega)))
  have HBA := Aside0.mk hbA
  generalize (f1 == f2 && decide (i1 = i2)) = nn at HN ⊢
  clear hx hy hbA hxA hyA hl
  by_cases h1 : r1 = r2
  · subst h1
    have d1 : (r1 == r1) = true := beq_self_eq_true r1
    rw [d1, Bool.true_and]
    by_cases h2 : p1 = p2
    · subst h2
      have d2 : (p1 == p1) = true := beq_self_eq_true p1
      rw [d2, Bool.true_and]
      go_enter Try.func68, Try.ntmps68
      go_wp2_with fail
      clear hwA
      refine HN.out.mono ?_
      rintro e w1 ⟨rfl, hb1⟩
      have HB1 := Aside0.mk (HBA.out.trans (hb1.mono HBA.out.size))
      clear hb1 HN x0 x1 x2 x3 y0 y1 y2 y3
      go_wp2
      go_ret
      exact ⟨rfl, HB1.out⟩
    · have d2 : (p1 == p2) = false := beq_eq_false_iff_ne.2 h2
      rw [d2, Bool.false_and]
      clear HN
      go_enter Try.func68, Try.ntmps68
      go_wp2
      go_ret
      exact ⟨rfl, HBA.out⟩
  · have d1 : (r1 == r2) = false := beq_eq_false_iff_ne.2 h1
    rw [d1, Bool.false_and]
    clear HN
    go_enter Try.func68, Try.ntmps68
    go_wp2
    go_ret
    exact ⟨rfl, HBA.out⟩
set_option maxHeartbeats 4000000 in
set_option maxRecDepth 100000 in
theorem equal55 (A B : Option Addr) (c d : Nat) (la lb : List S55) (w : World) (ha : Kd.C k55 w A la.length la) (hb : Kd.C k55 w B lb.length lb) (hs : ∀ x ∈ la, x.f2.f1.length ≤ 1000) (hl : la.length < 1000000) (hlb : lb.length < 1000000) :
    Calls Try.prog 67 #[.slice A la.length c, .slice B lb.length d, .func (.func 68) #[] #[]] w fun e w' => e = .returned (.bool (decide (la.length = lb.length) && sameL la lb)) ∧ Below w.heap.size w w' := by
  have HA := Aside0.mk ha
  have HB := Aside0.mk hb
  have HS := Aside0.mk hs
  have hu55 := Try.underlying55
  have hu53 := Try.underlying53
  clear ha hb hs
  by_cases hab : la.length = lb.length
  · rw [decide_eq_true hab, Bool.true_and]
    generalize hres : sameL la lb = res
    have RS := Aside0.mk hres
    have HAB := Aside0.mk hab
    have hnb : ((la.length : Int) != (lb.length : Int)) = false := by rw [bne_eq_false_iff_eq]; omega
    have heb : ((la.length : Int) == (lb.length : Int)) = true := by rw [beq_iff_eq]; omega
    have hnb2 : (la.length != lb.length) = false := by rw [bne_eq_false_iff_eq]; omega
    have heb2 : (la.length == lb.length) = true := by rw [beq_iff_eq]; omega
    clear hres hab
    go_enter Try.func67, Try.ntmps67
    go_wp2
    go_loopg [17] la.length (fun kx s wr => ∃ (j : Nat), s = .int .i64 j ∧ j ≤ la.length ∧ la.length - j ≤ kx ∧ Aside0 (Below w.heap.size w wr) ∧ Aside0 (sameL (la.drop j) (lb.drop j) = res))
    case atStart => exact ⟨0, rfl, Nat.zero_le _, by omega, ⟨Below.refl _ _⟩, ⟨by rw [List.drop_zero, List.drop_zero]; exact RS.out⟩⟩
    case round =>
      obtain ⟨j, rfl, hj, hg, HBr, HD⟩ := hrel
      by_cases hlt : j < la.length
      · have hltb : j < lb.length := by have := HAB.out; omega
        obtain ⟨ad, A3, c3, rfl, x0, x1, x2, x3, hl3, hi3⟩ := at_T55 (Kd.C_below HA.out HBr.out) (j : Int) (by omega) (by omega)
        obtain ⟨bd, B3, d3, rfl, y0, y1, y2, y3, kl3, ki3⟩ := at_T55 (Kd.C_below HB.out HBr.out) (j : Int) (by omega) (by omega)
        obtain ⟨hm, hda⟩ := rd55_mem hlt
        obtain ⟨-, hdb⟩ := rd55_mem hltb
        have hls := HS.out _ hm
        rw [Int.toNat_natCast] at x0 x1 x2 x3 y0 y1 y2 y3
        generalize rd_T55 la (j : Nat) = x at *
        generalize rd_T55 lb (j : Nat) = y at *
        have HD2 : Aside0 ((sameB x y && sameL (la.drop (j + 1)) (lb.drop (j + 1))) = res) := ⟨by have := HD.out; rw [hda, hdb, sameL] at this; exact this⟩
        have hbl : Below wr.heap.size wr ((wr.alloc (.cells #[.int .i64 x.f0, .bool x.f1, .bool x.f2.f0, .slice A3 x.f2.f1.length c3] 55)).alloc (.cells #[.int .i64 y.f0, .bool y.f1, .bool y.f2.f0, .slice B3 y.f2.f1.length d3] 55)) := ((Below.refl wr.heap.size wr).alloc (Nat.le_refl _) _).alloc (by simp) _
        have HC := Aside0.mk (same1 x y A3 B3 c3 d3 _ (Kd.C_below hi3 hbl) (Kd.C_below ki3 hbl) hl3 kl3 hls)
        have HBl := Aside0.mk (HBr.out.trans (hbl.mono HBr.out.size))
        have t0 := World.block_lt_of_cell? wr _ y0
        have t1 := World.block_lt_of_cell? wr _ y1
        have s0 := World.block_lt_of_cell? wr _ x0
        have s1 := World.block_lt_of_cell? wr _ x1
        have q1 : (0 : Int) ≤ j := by omega
        have q2 : (j : Int) < la.length := by omega
        have q3 : (j : Int) < lb.length := by omega
        clear hl3 hi3 kl3 ki3 hm hda hdb hls HD hbl
        go_wp2_with fail
        refine HC.out.mono ?_
        rintro e w' ⟨rfl, hb⟩
        have HB2 := Aside0.mk (HBl.out.trans (hb.mono HBl.out.size))
        clear hb HC
        cases hpx : sameB x y
        · have hi : res = false := by have := HD2.out; rw [hpx, Bool.false_and] at this; exact this.symm
          subst hi
          go_wp2
          go_ret
          exact ⟨rfl, HB2.out⟩
        · have HI : Aside0 (sameL (la.drop (j + 1)) (lb.drop (j + 1)) = res) := ⟨by have := HD2.out; rwa [hpx, Bool.true_and] at this⟩
          go_wp2
          go_roundg (la.length - (j + 1))
          case measure => omega
          case rel => exact ⟨j + 1, by simp, by omega, Nat.le_refl _, HB2, HI⟩
      · obtain rfl : j = la.length := by omega
        have hi : res = true := by
          have := HD.out
          rw [List.drop_length, List.drop_of_length_le (by have := HAB.out; omega)] at this
          exact this.symm
        subst hi
        go_wp2
        go_ret
        exact ⟨rfl, HBr.out⟩
  · rw [decide_eq_false hab, Bool.false_and]
    have hnb : ((la.length : Int) != (lb.length : Int)) = true := by rw [bne_iff_ne]; omega
    have heb : ((la.length : Int) == (lb.length : Int)) = false := by rw [beq_eq_false_iff_ne]; omega
    have hnb2 : (la.length != lb.length) = true := by rw [bne_iff_ne]; omega
    have heb2 : (la.length == lb.length) = false := by rw [beq_eq_false_iff_ne]; omega
    go_enter Try.func67, Try.ntmps67
    go_wp2
    go_ret
    exact ⟨rfl, Below.refl _ _⟩
def heap_Same.f (l0_0 : List (S55)) (a0_1 : Int) (l1_0 : List (S55)) (a1_1 : Int) : Option (Bool) :=
  if l0_0.length < 1000000 ∧ l1_0.length < 1000000 ∧ (∀ x ∈ l0_0, x.f2.f1.length ≤ 1000) then some ((a0_1 == a1_1) && (decide (l0_0.length = l1_0.length) && sameL l0_0 l1_0)) else none
set_option maxHeartbeats 4000000 in
set_option maxRecDepth 100000 in
theorem heap_Same.calls (A0_0 : Option Addr) (c0_0 : Nat) (l0_0 : List (S55)) (a0_1 : Int) (A1_0 : Option Addr) (c1_0 : Nat) (l1_0 : List (S55)) (a1_1 : Int) (r : Bool) (w : World) (hr0_0 : Kd.C k55 w A0_0 l0_0.length l0_0) (hc0_0 : l0_0.length ≤ c0_0) (hr1_0 : Kd.C k55 w A1_0 l1_0.length l1_0) (hc1_0 : l1_0.length ≤ c1_0) (h : heap_Same.f l0_0 a0_1 l1_0 a1_1 = some r) :
    Calls Try.prog 39 #[.agg #[.slice A0_0 l0_0.length c0_0, .int .i64 a0_1], .agg #[.slice A1_0 l1_0.length c1_0, .int .i64 a1_1]] w fun e w' => e = .returned (.bool r) ∧ Below w.heap.size w w' := by
  unfold heap_Same.f at h
  have hcond : l0_0.length < 1000000 ∧ l1_0.length < 1000000 ∧ (∀ x ∈ l0_0, x.f2.f1.length ≤ 1000) := by
    by_cases hc : l0_0.length < 1000000 ∧ l1_0.length < 1000000 ∧ (∀ x ∈ l0_0, x.f2.f1.length ≤ 1000)
    · exact hc
    · rw [if_neg hc] at h; cases h
  rw [if_pos hcond] at h
  obtain ⟨hl, hl2, hi⟩ := hcond
  obtain rfl := Option.some.inj h
  obtain ⟨wA, hwA⟩ : ∃ wA, (w.alloc (.cells #[.slice A0_0 l0_0.length c0_0, .int .i64 a0_1] 24)).alloc (.cells #[.slice A1_0 l1_0.length c1_0, .int .i64 a1_1] 24) = wA := ⟨_, rfl⟩
  have hbA : Below w.heap.size w wA := by rw [← hwA]; exact ((Below.refl w.heap.size w).alloc (Nat.le_refl _) _).alloc (by simp) _
  have hxA : wA.heap[w.heap.size]? = some (.cells #[.slice A0_0 l0_0.length c0_0, .int .i64 a0_1] 24 (0, 0)) := by rw [← hwA]; exact blk_alloc (alloc_new w _) _
  have hyA : wA.heap[w.heap.size + 1]? = some (.cells #[.slice A1_0 l1_0.length c1_0, .int .i64 a1_1] 24 (0, 0)) := by
    rw [← hwA]
    have := alloc_new (w.alloc (.cells #[.slice A0_0 l0_0.length c0_0, .int .i64 a0_1] 24)) (.cells #[.slice A1_0 l1_0.length c1_0, .int .i64 a1_1] 24)
    rwa [World.size_alloc] at this
  have x0 : wA.cell? ⟨w.heap.size, 0, none⟩ = some (.slice A0_0 l0_0.length c0_0) := (blk_cell hxA 0).trans rfl
  have x1 : wA.cell? ⟨w.heap.size, 1, none⟩ = some (.int .i64 a0_1) := (blk_cell hxA 1).trans rfl
  have y0 : wA.cell? ⟨w.heap.size + 1, 0, none⟩ = some (.slice A1_0 l1_0.length c1_0) := (blk_cell hyA 0).trans rfl
  have y1 : wA.cell? ⟨w.heap.size + 1, 1, none⟩ = some (.int .i64 a1_1) := (blk_cell hyA 1).trans rfl
  have HC := Aside0.mk (equal55 A0_0 A1_0 c0_0 c1_0 l0_0 l1_0 wA (Kd.C_below hr0_0 hbA) (Kd.C_below hr1_0 hbA) hi hl hl2)
  have HBA := Aside0.mk hbA
  generalize (decide (l0_0.length = l1_0.length) && sameL l0_0 l1_0) = ss at HC ⊢
  have hu24 := Try.underlying24
  clear hr0_0 hr1_0 hbA hxA hyA hi h
  by_cases h1 : a0_1 = a1_1
  · subst h1
    have d1 : (a0_1 == a0_1) = true := beq_self_eq_true a0_1
    rw [d1, Bool.true_and]
    go_enter Try.func39, Try.ntmps39
    go_wp2_with fail
    clear hwA
    refine HC.out.mono ?_
    rintro e w1 ⟨rfl, hb1⟩
    have HB1 := Aside0.mk (HBA.out.trans (hb1.mono HBA.out.size))
    clear hb1 HC x0 x1 y0 y1
    go_wp2
    go_ret
    exact ⟨rfl, HB1.out⟩
  · have d1 : (a0_1 == a1_1) = false := beq_eq_false_iff_ne.2 h1
    rw [d1, Bool.false_and]
    clear HC
    go_enter Try.func39, Try.ntmps39
    go_wp2
    go_ret
    exact ⟨rfl, HBA.out⟩
end Go.Proofs.Yteiladccdenpbaa.P
end
section
namespace Go.Proofs.Yteiladccdenpbaa.P
open Go.RowKit Go.Proofs.YteiladccdenpbaaW.PrintWords Go.Proofs.YteiladccdenpbaaW.PrintLast Go.Proofs.YteiladccdenpbaaW.PrintMore
attribute [local go_sem] max2_int min2_int max_two min_two max_three min_three max_four min_four
set_option linter.unusedVariables false
set_option linter.unusedSimpArgs false
def slices_Index_int_int.l0 : Nat → List Int → Int → Int → Int → Option (Int)
 | 0, _, _, _, _ => none
 | k + 1, x0, x1, x7, x8 => if x8 < x7 then (if 0 ≤ x8 then (if x8 < (x0.length : Int) then (if x1 = (rd x0 x8) then (some x8) else (slices_Index_int_int.l0 k x0 x1 x7 (wrap64 (x8 + 1)))) else (none)) else (none)) else (some (-1))
def slices_Index_int_int.f (k : Nat) (l0 : List Int) (a1 : Int) : Option (Int) := slices_Index_int_int.l0 k l0 a1 (l0.length : Int) 0
set_option maxHeartbeats 8000000 in
set_option maxRecDepth 100000 in
theorem slices_Index_int_int.calls (k : Nat) (A0 : Option Addr) (c0 : Nat) (l0 : List Int) (a1 : Int) (r : Int) (w : World) (hr0 : Kd.C (Kd.int .i64) w A0 l0.length l0) (hc0 : l0.length ≤ c0) (h : slices_Index_int_int.f k l0 a1 = some r) :
  Calls Try.prog 94 #[.slice A0 l0.length c0, .int .i64 a1] w fun e w' => e = .returned (.int .i64 r) ∧ Drawn0 w w' := by
 have HR0 := Aside0.mk hr0
 have HC0 := Aside0.mk hc0
 clear hr0 hc0
 have H : (slices_Index_int_int.l0 k l0 a1 (l0.length : Int) 0) = some r := h
 clear h
 have H' := Aside0.mk H
 clear H
 go_enter Try.func94, Try.ntmps94
 go_wp2
 go_loopg [8] k (fun kq v8 w' => ∃ (x8_1 : Int), v8 = .int .i64 x8_1 ∧ Aside0 (slices_Index_int_int.l0 kq l0 a1 (l0.length : Int) x8_1 = some r) ∧ Aside0 (kq ≤ k) ∧ Drawn0 w w')
 case atStart => exact ⟨(0), (by first | rfl | (simp; done) | (simp [*]; done)), H', ⟨Nat.le_refl _⟩, by repeat (first | exact Drawn0.refl _ | apply Drawn0.step)⟩
 case round =>
  clear H'
  try clear p2
  obtain ⟨x8_1, rfl, HA, HK1, ⟨m1, rfl⟩⟩ := hrel
  cases gk with
  | zero => exact absurd HA.out (by simp [slices_Index_int_int.l0])
  | succ k1 =>
   have H := HA.out
   clear HA
   simp only [slices_Index_int_int.l0] at H
   by_cases c3 : x8_1 < (l0.length : Int)
   ·rw [if_pos c3] at H
    have c3b0 : decide (x8_1 < (l0.length : Int)) = true := decide_eq_true c3
    clear c3
    by_cases c4 : 0 ≤ x8_1
    ·rw [if_pos c4] at H
     have c4b0 : decide (0 ≤ x8_1) = true := decide_eq_true c4
     clear c4
     by_cases c5 : x8_1 < (l0.length : Int)
     ·rw [if_pos c5] at H
      have c5b0 : decide (x8_1 < (l0.length : Int)) = true := decide_eq_true c5
      clear c5
      by_cases c6 : a1 = (rd l0 x8_1)
      ·rw [if_pos c6] at H
       have c6b0 : (a1 == (rd l0 x8_1)) = true := beq_iff_eq.mpr c6
       have c6b1 : (a1 != (rd l0 x8_1)) = false := bne_eq_false_iff_eq.mpr c6
       clear c6
       obtain rfl := Option.some.inj H
       have p443 : 0 ≤ (x8_1 : Int) := of_decide_eq_true (by first | (with_reducible assumption) | assumption)
       have q443 : x8_1 < (l0.length : Int) := of_decide_eq_true (by first | (with_reducible assumption) | assumption)
       obtain ⟨ad443, e443, hx443_0⟩ := Kd.at_int HR0.out x8_1 p443 q443
       cases e443
       replace p443 := eq_true p443
       replace q443 := eq_true q443
       go_wp2
       go_ret
       exact ⟨by first | rfl | (simp; done) | (simp [*]; done), by repeat (first | exact Drawn0.refl _ | apply Drawn0.step)⟩
      ·rw [if_neg c6] at H
       have c6b0 : (a1 == (rd l0 x8_1)) = false := beq_eq_false_iff_ne.mpr c6
       have c6b1 : (a1 != (rd l0 x8_1)) = true := bne_iff_ne.mpr c6
       have H' := Aside0.mk H
       clear H
       have p443 : 0 ≤ (x8_1 : Int) := of_decide_eq_true (by first | (with_reducible assumption) | assumption)
       have q443 : x8_1 < (l0.length : Int) := of_decide_eq_true (by first | (with_reducible assumption) | assumption)
       obtain ⟨ad443, e443, hx443_0⟩ := Kd.at_int HR0.out x8_1 p443 q443
       cases e443
       replace p443 := eq_true p443
       replace q443 := eq_true q443
       go_wp2
       go_roundg k1
       case measure => have := HK1.out; omega
       case rel => exact ⟨(wrap64 (x8_1 + 1)), (by first | rfl | (simp; done) | (simp [*]; done)), H', ⟨by have := HK1.out; omega⟩, by repeat (first | exact Drawn0.refl _ | apply Drawn0.step)⟩
     ·rw [if_neg c5] at H
      exact absurd H (by simp)
    ·rw [if_neg c4] at H
     exact absurd H (by simp)
   ·rw [if_neg c3] at H
    have c3b0 : decide (x8_1 < (l0.length : Int)) = false := decide_eq_false c3
    clear c3
    obtain rfl := Option.some.inj H
    go_wp2
    go_ret
    exact ⟨by first | rfl | (simp; done) | (simp [*]; done), by repeat (first | exact Drawn0.refl _ | apply Drawn0.step)⟩
end Go.Proofs.Yteiladccdenpbaa.P
end
section
namespace Go.Proofs.Yteiladccdenpbaa.P
open Go.RowKit Go.Proofs.YteiladccdenpbaaW.PrintWords Go.Proofs.YteiladccdenpbaaW.PrintLast Go.Proofs.YteiladccdenpbaaW.PrintMore
attribute [local go_sem] max2_int min2_int max_two min_two max_three min_three max_four min_four
set_option linter.unusedVariables false
set_option linter.unusedSimpArgs false
def slices_Contains_int_int.f (k : Nat) (l0 : List Int) (a1 : Int) : Option (Bool) := (slices_Index_int_int.f k l0 a1).bind fun t444 => (some (decide (t444 ≥ 0)))
set_option maxHeartbeats 8000000 in
set_option maxRecDepth 100000 in
theorem slices_Contains_int_int.calls (k : Nat) (A0 : Option Addr) (c0 : Nat) (l0 : List Int) (a1 : Int) (r : Bool) (w : World) (hr0 : Kd.C (Kd.int .i64) w A0 l0.length l0) (hc0 : l0.length ≤ c0) (h : slices_Contains_int_int.f k l0 a1 = some r) :
  Calls Try.prog 76 #[.slice A0 l0.length c0, .int .i64 a1] w fun e w' => e = .returned (.bool r) ∧ Drawn0 w w' := by
 have HR0 := Aside0.mk hr0
 have HC0 := Aside0.mk hc0
 clear hr0 hc0
 have H : ((slices_Index_int_int.f k l0 a1).bind fun t444 => (some (decide (t444 ≥ 0)))) = some r := h
 clear h
 replace H := Option.bind_eq_some_iff.mp H
 obtain ⟨t444, A30, H⟩ := H
 replace H : (some (decide (t444 ≥ 0))) = some r := H
 have A3 := Aside0.mk A30
 clear A30
 obtain rfl := Option.some.inj H
 go_enter Try.func76, Try.ntmps76
 go_wp2_with (first | ((with_reducible refine gate_callee (f := 94) rfl ?_); refine goesL_ (some 7) rfl rfl Try.func94 (by kernel_rfl) rfl #[.slice A0 l0.length c0, .int .i64 a1] rfl (by (try simp only [List.map_toArray, List.map_cons, List.map_nil]); first | done | rfl | (simp only [List.length_drop, List.length_take]; rfl)) ?_; (with_reducible refine (slices_Index_int_int.calls k _ _ l0 a1 t444 _ ?side1 ?side2 A3.out).mono ?_); (case side1 => repeat (first | exact HR0.out | (with_reducible refine Kd.C_alloc ?_ _) | (with_reducible refine Kd.C_drewN ?_ _) | (with_reducible refine Kd.C_drew ?_))); (case side2 => exact HC0.out); rintro e w' ⟨rfl, ⟨nd, rfl⟩⟩; refine ⟨_, rfl, ?_⟩))
 go_ret
 exact ⟨by first | rfl | (simp; done) | (simp [*]; done), by repeat (first | exact Drawn0.refl _ | apply Drawn0.step)⟩
end Go.Proofs.Yteiladccdenpbaa.P
end
section
namespace Go.Proofs.Yteiladccdenpbaa.P
open Go.RowKit Go.Proofs.YteiladccdenpbaaW.PrintWords Go.Proofs.YteiladccdenpbaaW.PrintLast Go.Proofs.YteiladccdenpbaaW.PrintMore
attribute [local go_sem] max2_int min2_int max_two min_two max_three min_three max_four min_four
set_option linter.unusedVariables false
set_option linter.unusedSimpArgs false
def heap_isFree.f (a0_0 : Int) (a0_1 : Bool) (a0_2 : Bool) (l0_3 : List (S49)) : Option (Bool) := if a0_0 = 0 then (some (!a0_1)) else (some false)
set_option maxHeartbeats 8000000 in
set_option maxRecDepth 100000 in
theorem heap_isFree.calls (a0_0 : Int) (a0_1 : Bool) (a0_2 : Bool) (A0_3 : Option Addr) (c0_3 : Nat) (l0_3 : List (S49)) (r : Bool) (w : World) (hr0_3 : Kd.C k49 w A0_3 l0_3.length l0_3) (hc0_3 : l0_3.length ≤ c0_3) (h : heap_isFree.f a0_0 a0_1 a0_2 l0_3 = some r) :
  Calls Try.prog 70 #[.agg #[.int .i64 a0_0, .bool a0_1, .bool a0_2, .slice A0_3 l0_3.length c0_3]] w fun e w' => e = .returned (.bool r) ∧ Below w.heap.size w w' := by
 have hu55 := Try.underlying55
 have HR0_3 := Aside0.mk hr0_3
 have HC0_3 := Aside0.mk hc0_3
 clear hr0_3 hc0_3
 have HB := Aside0.mk (Below.refl w.heap.size w)
 have H : (if a0_0 = 0 then (some (!a0_1)) else (some false)) = some r := h
 clear h
 by_cases c2 : a0_0 = 0
 ·rw [if_pos c2] at H
  have c2b0 : (a0_0 == 0) = true := beq_iff_eq.mpr c2
  have c2b1 : (a0_0 != 0) = false := bne_eq_false_iff_eq.mpr c2
  clear c2
  obtain rfl := Option.some.inj H
  go_enter Try.func70, Try.ntmps70
  go_wp2_with (first | ((with_reducible refine gate_dst (N := 1) rfl ?_); refine box_event ?hg (N := 1) ?hd (cs := #[.int .i64 a0_0, .bool a0_1, .bool a0_2, .slice A0_3 l0_3.length c0_3]) (t := 55) ?hr ?_; (case hd => rfl); (case hg => rfl); (case hr => first | (go_simp; done) | (go_simp; rfl)); intro gb120 hg w3 hbox hb; have n0_ := Aside0.mk (below_step (by repeat (first | (with_reducible first | exact HB.out | apply below_alloc | apply pw_below_drewN | apply below_drew1) | exact HB.out)) hb); have n1_ := Aside0.mk (hbox); have n2_ := Aside0.mk ((by rw [hg]; exact (below_size (by repeat (first | (with_reducible first | exact HB.out | apply below_alloc | apply pw_below_drewN | apply below_drew1) | exact HB.out))) : w.heap.size ≤ gb120)); have n3_ := Aside0.mk ((by rw [hg]; exact (below_size (by repeat (first | (with_reducible first | exact HB.out | apply below_alloc | apply pw_below_drewN | apply below_drew1) | exact HB.out))) : w.heap.size ≤ gb120)); clear HB; have HB := n0_; have BK120 := n1_; have GW120 := n2_; have GE120 := n3_; clear n0_ n1_ n2_ n3_; clear hb hbox hg; have hcz4_0 : w3.cell? ⟨gb120, 0, none⟩ = some (.int .i64 a0_0) := (blk_cell BK120.out 0).trans rfl; have hcz4_1 : w3.cell? ⟨gb120, 1, none⟩ = some (.bool a0_1) := (blk_cell BK120.out 1).trans rfl; have hcz4_2 : w3.cell? ⟨gb120, 2, none⟩ = some (.bool a0_2) := (blk_cell BK120.out 2).trans rfl; have hcz4_3 : w3.cell? ⟨gb120, 3, none⟩ = some (.slice A0_3 l0_3.length c0_3) := (blk_cell BK120.out 3).trans rfl; have hfz4_0 := blk_frozen BK120.out 0; have hfz4_1 := blk_frozen BK120.out 1; have hfz4_2 := blk_frozen BK120.out 2; have hfz4_3 := blk_frozen BK120.out 3))
  go_ret
  exact ⟨by first | rfl | (simp [errW_none, errW_some] <;> rfl) | (simp [*, errW_none, errW_some] <;> rfl), by repeat (first | (with_reducible first | exact HB.out | apply below_alloc | apply pw_below_drewN | apply below_drew1 | refine below_set ?_ GE120.out) | exact HB.out)⟩
 ·rw [if_neg c2] at H
  have c2b0 : (a0_0 == 0) = false := beq_eq_false_iff_ne.mpr c2
  have c2b1 : (a0_0 != 0) = true := bne_iff_ne.mpr c2
  obtain rfl := Option.some.inj H
  go_enter Try.func70, Try.ntmps70
  go_wp2_with (first | ((with_reducible refine gate_dst (N := 1) rfl ?_); refine box_event ?hg (N := 1) ?hd (cs := #[.int .i64 a0_0, .bool a0_1, .bool a0_2, .slice A0_3 l0_3.length c0_3]) (t := 55) ?hr ?_; (case hd => rfl); (case hg => rfl); (case hr => first | (go_simp; done) | (go_simp; rfl)); intro gb120 hg w5 hbox hb; have n0_ := Aside0.mk (below_step (by repeat (first | (with_reducible first | exact HB.out | apply below_alloc | apply pw_below_drewN | apply below_drew1) | exact HB.out)) hb); have n1_ := Aside0.mk (hbox); have n2_ := Aside0.mk ((by rw [hg]; exact (below_size (by repeat (first | (with_reducible first | exact HB.out | apply below_alloc | apply pw_below_drewN | apply below_drew1) | exact HB.out))) : w.heap.size ≤ gb120)); have n3_ := Aside0.mk ((by rw [hg]; exact (below_size (by repeat (first | (with_reducible first | exact HB.out | apply below_alloc | apply pw_below_drewN | apply below_drew1) | exact HB.out))) : w.heap.size ≤ gb120)); clear HB; have HB := n0_; have BK120 := n1_; have GW120 := n2_; have GE120 := n3_; clear n0_ n1_ n2_ n3_; clear hb hbox hg; have hcz6_0 : w5.cell? ⟨gb120, 0, none⟩ = some (.int .i64 a0_0) := (blk_cell BK120.out 0).trans rfl; have hcz6_1 : w5.cell? ⟨gb120, 1, none⟩ = some (.bool a0_1) := (blk_cell BK120.out 1).trans rfl; have hcz6_2 : w5.cell? ⟨gb120, 2, none⟩ = some (.bool a0_2) := (blk_cell BK120.out 2).trans rfl; have hcz6_3 : w5.cell? ⟨gb120, 3, none⟩ = some (.slice A0_3 l0_3.length c0_3) := (blk_cell BK120.out 3).trans rfl; have hfz6_0 := blk_frozen BK120.out 0; have hfz6_1 := blk_frozen BK120.out 1; have hfz6_2 := blk_frozen BK120.out 2; have hfz6_3 := blk_frozen BK120.out 3))
  go_ret
  exact ⟨by first | rfl | (simp [errW_none, errW_some] <;> rfl) | (simp [*, errW_none, errW_some] <;> rfl), by repeat (first | (with_reducible first | exact HB.out | apply below_alloc | apply pw_below_drewN | apply below_drew1 | refine below_set ?_ GE120.out) | exact HB.out)⟩
end Go.Proofs.Yteiladccdenpbaa.P
end
section
namespace Go.Proofs.Yteiladccdenpbaa.P
open Go.RowKit Go.Proofs.YteiladccdenpbaaW.PrintWords Go.Proofs.YteiladccdenpbaaW.PrintLast Go.Proofs.YteiladccdenpbaaW.PrintMore
set_option linter.unusedVariables false
set_option linter.unusedSimpArgs false
theorem index_l0 (l : List Int) (a : Int) (hl : l.length ≤ 1000000) : ∀ (d k j : Nat), j + d = l.length → d < k → ∃ r, slices_Index_int_int.l0 k l a (l.length : Int) (j : Int) = some r ∧ (0 ≤ r ↔ a ∈ l.drop j) := by
  intro d
  induction d with
  | zero =>
    intro k j hj hk
    obtain ⟨k, rfl⟩ : ∃ m, k = m + 1 := ⟨k - 1, by omega⟩
    simp only [slices_Index_int_int.l0]
    rw [if_neg (by omega), List.drop_eq_nil_of_le (by omega)]
    exact ⟨_, rfl, fun h => by omega, fun h => by cases h⟩
  | succ d ih =>
    intro k j hj hk
    obtain ⟨k, rfl⟩ : ∃ m, k = m + 1 := ⟨k - 1, by omega⟩
    have hlt : j < l.length := by omega
    have hrd : rd l (j : Nat) = l[j] := by simp only [rd, Int.toNat_natCast, List.getD_eq_getElem?_getD, List.getElem?_eq_getElem hlt, Option.getD_some]
    simp only [slices_Index_int_int.l0]
    rw [if_pos (by omega), if_pos (by omega), if_pos (by omega), hrd, wsucc j (by omega), List.drop_eq_getElem_cons hlt]
    by_cases h : a = l[j]
    · rw [if_pos h]
      exact ⟨_, rfl, fun _ => by rw [h]; exact List.mem_cons_self .., fun _ => by omega⟩
    · rw [if_neg h]
      obtain ⟨r, hr, hs⟩ := ih k (j + 1) (by omega) (by omega)
      exact ⟨r, hr, hs.trans ⟨fun hm => List.mem_cons_of_mem _ hm, fun hm => (List.mem_cons.1 hm).resolve_left h⟩⟩
theorem contains_val (l : List Int) (a : Int) (hl : l.length ≤ 1000000) (k : Nat) (hk : l.length < k) : slices_Contains_int_int.f k l a = some (decide (a ∈ l)) := by
  unfold slices_Contains_int_int.f slices_Index_int_int.f
  obtain ⟨r, hr, hs⟩ := index_l0 l a hl l.length k 0 (by omega) hk
  rw [show ((0 : Nat) : Int) = 0 from rfl] at hr
  rw [hr, Option.bind_some]
  congr 1
  rw [decide_eq_decide]
  rw [List.drop_zero] at hs
  exact hs
def allocF (held : List Int) (l : List S55) (q : Int) : Option (List S55) := if q ∈ held then some l else holdP l q
set_option maxHeartbeats 4000000 in
set_option maxRecDepth 100000 in
theorem alloc1 (w0 : World) (P : Nat → Prop) (W : World) (b g gh gw : Nat) (H : Option Addr) (hc : Nat) (held : List Int) (kp p : Int) (l l' : List S55) (hw : Wk w0 P W b g l kp) (hH : Kd.C (Kd.int .i64) W H held.length held) (hcap : held.length ≤ hc) (hhl : held.length ≤ 1000000)
    (h1 : W.heap[gh]? = some (.cells #[.slice H held.length hc] 31 (0, 0))) (h2 : W.heap[gw]? = some (.cells #[.pointer (some ⟨b, 0, none⟩)] 108 (0, 0))) (hf : allocF held l p = some l') :
    Calls Try.prog 75 #[.int .i64 p, .pointer (some ⟨gh, 0, none⟩), .pointer (some ⟨gw, 0, none⟩)] W fun e W' => (∃ v, e = .returned v) ∧ Wk w0 P W' b g l' kp ∧ KeepBut W W' g none := by
  have a0 : W.cell? ⟨gh, 0, none⟩ = some (.slice H held.length hc) := (blk_cell h1 0).trans rfl
  have HC := Aside0.mk (slices_Contains_int_int.calls (held.length + 1) H hc held p (decide (p ∈ held)) W hH hcap (contains_val held p hhl _ (by omega)))
  have HW := Aside0.mk hw
  have HGW := Aside0.mk h2
  unfold allocF at hf
  by_cases hm : p ∈ held
  · rw [if_pos hm] at hf
    obtain rfl := Option.some.inj hf
    rw [decide_eq_true hm] at HC
    clear hw hH h1 h2 hf hm
    go_enter Try.func75, Try.ntmps75
    go_wp2_with fail
    refine HC.out.mono ?_
    rintro e w1 ⟨rfl, hd⟩
    have hb := hd.below
    have HW1 := Aside0.mk (HW.out.below hb)
    have HK1 := Aside0.mk (KeepBut.of_below hb g none)
    clear hb hd HC a0
    go_wp2
    go_end0
    exact ⟨⟨_, rfl⟩, HW1.out, HK1.out⟩
  · rw [if_neg hm] at hf
    rw [decide_eq_false hm] at HC
    have HF := Aside0.mk hf
    clear hw hH h1 h2 hf hm
    go_enter Try.func75, Try.ntmps75
    go_wp2_with fail
    refine HC.out.mono ?_
    rintro e w1 ⟨rfl, hd⟩
    have hb := hd.below
    have HW1 := Aside0.mk (HW.out.below hb)
    have HK1 := Aside0.mk (KeepBut.of_below hb g none)
    have c0 : w1.cell? ⟨gw, 0, none⟩ = some (.pointer (some ⟨b, 0, none⟩)) := (blk_cell (blk_below HGW.out hb) 0).trans rfl
    clear hb hd HC a0
    go_wp2_with fail
    refine (hold_walk w0 P b g l l' kp p w1 HW1.out HF.out).mono ?_
    rintro e w2 ⟨⟨v, rfl⟩, hw2, hk2⟩
    have HW2 := Aside0.mk hw2
    have HK2 := Aside0.mk (HK1.out.trans hk2 (.inl rfl))
    clear hw2 hk2 c0
    go_wp2
    go_end0
    exact ⟨⟨_, rfl⟩, HW2.out, HK2.out⟩
theorem Wk.put4 {w0 W : World} {P : Nat → Prop} {b g : Nat} {l : List S55} {kp : Int} (h : Wk w0 P W b g l kp) {i : Nat} (hi : i < l.length) (r : Int) (pin leaf : Bool) (it : List S49) (A : Option Addr) (c : Nat) (hl : it.length ≤ c) (hr : Kd.F k49 w0 P A it.length it) :
    Wk w0 P ((((W.setCell ⟨g, i * 4, none⟩ (.int .i64 r)).setCell ⟨g, i * 4 + 1, none⟩ (.bool pin)).setCell ⟨g, i * 4 + 2, none⟩ (.bool leaf)).setCell ⟨g, i * 4 + 3, none⟩ (.slice A it.length c)) b g (l.set i ⟨r, pin, ⟨leaf, it⟩⟩) kp := by
  have h1 := Wk.setRef h hi r
  have h2 := Wk.setPin h1 (by rw [List.length_set]; exact hi) pin
  rw [rd_set hi, if_pos rfl, List.set_set] at h2
  have h3 := Wk.setLeaf h2 (by rw [List.length_set]; exact hi) leaf
  rw [rd_set hi, if_pos rfl, List.set_set] at h3
  have h4 := Wk.setIt h3 (by rw [List.length_set]; exact hi) it A it.length c rfl hl hr
  rw [rd_set hi, if_pos rfl, List.set_set] at h4
  exact h4
def isFreeB (x : S55) : Bool := (x.f0 == 0) && !x.f1
theorem isFree_val (x : S55) : heap_isFree.f x.f0 x.f1 x.f2.f0 x.f2.f1 = some (isFreeB x) := by
  unfold heap_isFree.f isFreeB
  by_cases h : x.f0 = 0
  · rw [if_pos h, beq_iff_eq.2 h, Bool.true_and]
  · rw [if_neg h, beq_eq_false_iff_ne.2 h, Bool.false_and]
def heap_Alloc.f (l0_0 : List (S55)) (a0_1 : Int) (a1_0 : Bool) (l1_1 : List (S49)) (l2 : List Int) : Option ((List (S55)) × Int × Int × Int) :=
  if l0_0.length < 1000000 ∧ l1_1.length < 1000000 ∧ l2.length ≤ 1000000 then
    (if RtN l1_1 ∧ leadsB l0_0 a1_0 l1_1 = true then
      (if idxN isFreeB l0_0 0 < 0 then some (l0_0, a0_1, 0, 3) else
        (eachP (allocF l2) a1_0 l1_1 l0_0).bind fun l' => if l'.length = l0_0.length then some (l'.set (idxN isFreeB l0_0 0).toNat ⟨1, false, ⟨a1_0, l1_1⟩⟩, a0_1, idxN isFreeB l0_0 0, 0) else none)
    else some (l0_0, a0_1, 0, 1))
  else none
set_option maxHeartbeats 8000000 in
set_option maxRecDepth 100000 in
theorem heap_Alloc.calls (P0_0_ : Nat → Prop) (A0_0 : Option Addr) (c0_0 : Nat) (l0_0 : List (S55)) (a0_1 : Int) (a1_0 : Bool) (P1_1_ : Nat → Prop) (A1_1 : Option Addr) (c1_1 : Nat) (l1_1 : List (S49)) (A2 : Option Addr) (c2 : Nat) (l2 : List Int) (r1 : List (S55)) (r2 : Int) (r3 : Int) (r4 : Int) (w : World) (hs0_0 : Kd.V k55 55 w w.heap.size (fun k_ => P0_0_ k_) (.slice A0_0 l0_0.length c0_0) l0_0) (hs1_1 : Kd.V k49 49 w w.heap.size (fun k_ => P1_1_ k_) (.slice A1_1 l1_1.length c1_1) l1_1) (hr2 : Kd.C (Kd.int .i64) w A2 l2.length l2) (hc2 : l2.length ≤ c2) (h : heap_Alloc.f l0_0 a0_1 a1_0 l1_1 l2 = some (r1, r2, r3, r4)) :
    Calls Try.prog 44 #[.agg #[.slice A0_0 l0_0.length c0_0, .int .i64 a0_1], .agg #[.bool a1_0, .slice A1_1 l1_1.length c1_1], .slice A2 l2.length c2] w fun e w' => ∃ v0_ : Value, e = .returned (.tuple #[.agg #[v0_, .int .i64 r2], .int .i64 r3, .int .i64 r4]) ∧ Kd.V k55 55 w' w.heap.size (fun k_ => ((P0_0_ k_ ∨ P1_1_ k_) ∨ w.heap.size ≤ k_)) v0_ r1 ∧ Below w.heap.size w w' := by
  obtain ⟨-, hc0, hf0⟩ := Kd.V_at hs0_0
  obtain ⟨-, hc1, hf1⟩ := Kd.V_at hs1_1
  unfold heap_Alloc.f at h
  have hcond : l0_0.length < 1000000 ∧ l1_1.length < 1000000 ∧ l2.length ≤ 1000000 := by
    by_cases hc : l0_0.length < 1000000 ∧ l1_1.length < 1000000 ∧ l2.length ≤ 1000000
    · exact hc
    · rw [if_neg hc] at h; cases h
  rw [if_pos hcond] at h
  obtain ⟨hl0, hl1, hl2⟩ := hcond
  obtain ⟨wA, hwA⟩ : ∃ wA, (((w.alloc (.cells #[.slice A0_0 l0_0.length c0_0, .int .i64 a0_1] 24)).alloc (.cells #[.bool a1_0, .slice A1_1 l1_1.length c1_1] 53)).alloc (.cells #[.slice A2 l2.length c2] 31)).alloc (.cells #[.slice none 0 0, .int .i64 0] 24) = wA := ⟨_, rfl⟩
  have hbA : Below w.heap.size w wA := by rw [← hwA]; exact ((((Below.refl _ w).alloc (Nat.le_refl _) _).alloc (by simp) _).alloc (by simp; omega) _).alloc (by simp; omega) _
  have hsA : wA.heap.size = w.heap.size + 4 := by rw [← hwA]; simp
  have k0 : wA.heap[w.heap.size]? = some (.cells #[.slice A0_0 l0_0.length c0_0, .int .i64 a0_1] 24 (0, 0)) := by rw [← hwA]; exact blk_alloc (blk_alloc (blk_alloc (alloc_new w _) _) _) _
  have k1 : wA.heap[w.heap.size + 1]? = some (.cells #[.bool a1_0, .slice A1_1 l1_1.length c1_1] 53 (0, 0)) := by
    rw [← hwA]
    have := alloc_new (w.alloc (.cells #[.slice A0_0 l0_0.length c0_0, .int .i64 a0_1] 24)) (.cells #[.bool a1_0, .slice A1_1 l1_1.length c1_1] 53)
    rw [World.size_alloc] at this
    exact blk_alloc (blk_alloc this _) _
  have k2 : wA.heap[w.heap.size + 2]? = some (.cells #[.slice A2 l2.length c2] 31 (0, 0)) := by
    rw [← hwA]
    have := alloc_new ((w.alloc (.cells #[.slice A0_0 l0_0.length c0_0, .int .i64 a0_1] 24)).alloc (.cells #[.bool a1_0, .slice A1_1 l1_1.length c1_1] 53)) (.cells #[.slice A2 l2.length c2] 31)
    rw [World.size_alloc, World.size_alloc] at this
    exact blk_alloc this _
  have k3 : wA.heap[w.heap.size + 3]? = some (.cells #[.slice none 0 0, .int .i64 0] 24 (0, 0)) := by
    rw [← hwA]
    have := alloc_new (((w.alloc (.cells #[.slice A0_0 l0_0.length c0_0, .int .i64 a0_1] 24)).alloc (.cells #[.bool a1_0, .slice A1_1 l1_1.length c1_1] 53)).alloc (.cells #[.slice A2 l2.length c2] 31)) (.cells #[.slice none 0 0, .int .i64 0] 24)
    rw [World.size_alloc, World.size_alloc, World.size_alloc] at this
    exact this
  obtain ⟨P', hP, hF0, hF1⟩ : ∃ P' : Nat → Prop, (∀ k, P' k → (P0_0_ k ∨ P1_1_ k) ∧ k < w.heap.size) ∧ Kd.F k55 wA P' A0_0 l0_0.length l0_0 ∧ Kd.F k49 wA P' A1_1 l1_1.length l1_1 :=
    ⟨fun k => (P0_0_ k ∨ P1_1_ k) ∧ k < w.heap.size, fun _ h => h, Kd.F_below (Kd.F_mono (Kd.F_bound hf0) fun k hk => ⟨.inl hk.1, hk.2⟩) hbA, Kd.F_below (Kd.F_mono (Kd.F_bound hf1) fun k hk => ⟨.inr hk.1, hk.2⟩) hbA⟩
  have hH := Kd.C_below hr2 hbA
  have HP := Aside0.mk hP
  have HBA := Aside0.mk hbA
  have HSA := Aside0.mk hsA
  have K0 := Aside0.mk k0
  have K1 := Aside0.mk k1
  have K2 := Aside0.mk k2
  have K3 := Aside0.mk k3
  have HF0 := Aside0.mk hF0
  have HF1 := Aside0.mk hF1
  have HH := Aside0.mk hH
  have HC0 := Aside0.mk hc0
  have HC1 := Aside0.mk hc1
  have HC2 := Aside0.mk hc2
  have HL2 := Aside0.mk hl2
  have HR := Aside0.mk (node_Right.calls 6 a1_0 A1_1 c1_1 l1_1 (decide (RtN l1_1)) wA (Kd.F_now hF1) hc1 (right04_val a1_0 l1_1 6 (by omega)))
  have HLD := Aside0.mk (fun (w1 : World) (hb : Below wA.heap.size wA w1) => leads_walk A0_0 c0_0 l0_0 a0_1 a1_0 A1_1 c1_1 l1_1 w1 (Kd.C_below (Kd.F_now hF0) hb) hc0 (Kd.C_below (Kd.F_now hF1) hb) hl1)
  have HIX := Aside0.mk (fun (w1 : World) (hb : Below wA.heap.size wA w1) => index55_70 #[] isFreeB l0_0 A0_0 c0_0 w1 hl0 (Kd.C_below (Kd.F_now hF0) hb) (fun W x A' c' _ _ hcl hit => heap_isFree.calls x.f0 x.f1 x.f2.f0 A' c' x.f2.f1 (isFreeB x) W hit hcl (isFree_val x)))
  have hu24 := Try.underlying24
  have hu53 := Try.underlying53
  have hu55 := Try.underlying55
  have a0 : wA.cell? ⟨w.heap.size, 0, none⟩ = some (.slice A0_0 l0_0.length c0_0) := (blk_cell k0 0).trans rfl
  have a1 : wA.cell? ⟨w.heap.size, 1, none⟩ = some (.int .i64 a0_1) := (blk_cell k0 1).trans rfl
  have a2 : wA.cell? ⟨w.heap.size + 1, 0, none⟩ = some (.bool a1_0) := (blk_cell k1 0).trans rfl
  have a3 : wA.cell? ⟨w.heap.size + 1, 1, none⟩ = some (.slice A1_1 l1_1.length c1_1) := (blk_cell k1 1).trans rfl
  have give : ∀ (W : World) (e : Int), Below wA.heap.size wA W → Kd.V k55 55 ((W.setCell ⟨w.heap.size + 3, 0, none⟩ (.slice A0_0 l0_0.length c0_0)).setCell ⟨w.heap.size + 3, 1, none⟩ (.int .i64 a0_1)) w.heap.size (fun k_ => ((P0_0_ k_ ∨ P1_1_ k_) ∨ w.heap.size ≤ k_)) (.slice A0_0 l0_0.length c0_0) l0_0 ∧ Below w.heap.size w ((W.setCell ⟨w.heap.size + 3, 0, none⟩ (.slice A0_0 l0_0.length c0_0)).setCell ⟨w.heap.size + 3, 1, none⟩ (.int .i64 a0_1)) ∧
      ((W.setCell ⟨w.heap.size + 3, 0, none⟩ (.slice A0_0 l0_0.length c0_0)).setCell ⟨w.heap.size + 3, 1, none⟩ (.int .i64 a0_1)).heap[w.heap.size + 3]? = some (.cells #[.slice A0_0 l0_0.length c0_0, .int .i64 a0_1] 24 (0, 0)) := by
    intro W e hb
    have hne : ∀ k, P' k → k ≠ w.heap.size + 3 := fun k hk => by have := (hP k hk).2; omega
    refine ⟨Kd.V_mono (Kd.V_far (p := ⟨w.heap.size + 3, 1, none⟩) (Kd.V_far (p := ⟨w.heap.size + 3, 0, none⟩) (Kd.V_mk hc0 (Kd.F_below hF0 hb)) hne _) hne _) fun k hk => .inl (hP k hk).1, below_set (below_set (hbA.trans (hb.mono hbA.size)) (by omega)) (by omega), ?_⟩
    exact blk_put (cs := #[.slice A0_0 l0_0.length c0_0, .int .i64 0]) (blk_put (cs := #[.slice none 0 0, .int .i64 0]) (blk_below k3 hb) 0 _ rfl) 1 _ rfl
  have GIVE := Aside0.mk give
  clear hs0_0 hs1_1 hr2 hc2 hc0 hf0 hc1 hf1 hbA hsA k0 k1 k2 k3 hP hF0 hF1 hH give hl2
  have after : ∀ (w1 : World) (hb : Below wA.heap.size wA w1), Aside0 (w1.cell? ⟨w.heap.size, 0, none⟩ = some (.slice A0_0 l0_0.length c0_0) ∧ w1.cell? ⟨w.heap.size, 1, none⟩ = some (.int .i64 a0_1) ∧ w1.cell? ⟨w.heap.size + 1, 0, none⟩ = some (.bool a1_0) ∧ w1.cell? ⟨w.heap.size + 1, 1, none⟩ = some (.slice A1_1 l1_1.length c1_1) ∧ w1.cell? ⟨w.heap.size + 3, 0, none⟩ = some (.slice none 0 0) ∧ w1.cell? ⟨w.heap.size + 3, 1, none⟩ = some (.int .i64 0) ∧ w1.frozen? ⟨w.heap.size + 3, 0, none⟩ = false ∧ w1.frozen? ⟨w.heap.size + 3, 1, none⟩ = false) := fun w1 hb =>
    ⟨(blk_cell (blk_below K0.out hb) 0).trans rfl, (blk_cell (blk_below K0.out hb) 1).trans rfl, (blk_cell (blk_below K1.out hb) 0).trans rfl, (blk_cell (blk_below K1.out hb) 1).trans rfl, (blk_cell (blk_below K3.out hb) 0).trans rfl, (blk_cell (blk_below K3.out hb) 1).trans rfl, blk_frozen (blk_below K3.out hb) 0, blk_frozen (blk_below K3.out hb) 1⟩
  have AFTER := Aside0.mk after
  clear after
  by_cases hrt : RtN l1_1
  case neg =>
    rw [if_neg (fun hh => hrt hh.1)] at h
    obtain ⟨rfl, rfl, rfl, rfl⟩ : l0_0 = r1 ∧ a0_1 = r2 ∧ (0 : Int) = r3 ∧ (1 : Int) = r4 := by simpa using h
    rw [decide_eq_false hrt] at HR
    clear h hrt HLD HIX
    go_enter Try.func44, Try.ntmps44
    go_wp2_with fail
    clear hwA a0 a1 a2 a3
    refine HR.out.mono ?_
    rintro e w1 ⟨rfl, hb1⟩
    obtain ⟨a0, a1, a2, a3, y0, y1, f0, f1⟩ := (AFTER.out w1 hb1).out
    obtain ⟨gv, gb, gk⟩ := GIVE.out w1 0 hb1
    have GV := Aside0.mk gv
    have GB := Aside0.mk gb
    have GK := Aside0.mk gk
    clear gv gb gk hb1
    go_wp2
    refine bodyPost_ret (results_ctt rfl _ _ (w.heap.size + 3) 24 #[.slice A0_0 l0_0.length c0_0, .int .i64 a0_1] (0, 0) _ rfl GK.out Try.underlying24 rfl (by kernel_rfl)) rfl ?_
    exact ⟨_, rfl, GV.out, GB.out⟩
  rw [decide_eq_true hrt] at HR
  by_cases hld : leadsB l0_0 a1_0 l1_1 = true
  case neg =>
    rw [if_neg (fun hh => hld hh.2)] at h
    obtain ⟨rfl, rfl, rfl, rfl⟩ : l0_0 = r1 ∧ a0_1 = r2 ∧ (0 : Int) = r3 ∧ (1 : Int) = r4 := by simpa using h
    rw [Bool.not_eq_true] at hld
    rw [hld] at HLD
    clear h hrt HIX hld
    go_enter Try.func44, Try.ntmps44
    go_wp2_with fail
    clear hwA a0 a1 a2 a3
    refine HR.out.mono ?_
    rintro e w1 ⟨rfl, hb1⟩
    obtain ⟨a0, a1, a2, a3, -, -, -, -⟩ := (AFTER.out w1 hb1).out
    have HL1 := Aside0.mk (HLD.out w1 hb1)
    have HB1 := Aside0.mk hb1
    clear hb1
    go_wp2_with fail
    clear a0 a1 a2 a3
    refine HL1.out.mono ?_
    rintro e w2 ⟨rfl, hb2⟩
    have hb2 := HB1.out.trans (hb2.mono HB1.out.size)
    obtain ⟨a0, a1, a2, a3, y0, y1, f0, f1⟩ := (AFTER.out w2 hb2).out
    obtain ⟨gv, gb, gk⟩ := GIVE.out w2 0 hb2
    have GV := Aside0.mk gv
    have GB := Aside0.mk gb
    have GK := Aside0.mk gk
    clear gv gb gk hb2
    go_wp2
    refine bodyPost_ret (results_ctt rfl _ _ (w.heap.size + 3) 24 #[.slice A0_0 l0_0.length c0_0, .int .i64 a0_1] (0, 0) _ rfl GK.out Try.underlying24 rfl (by kernel_rfl)) rfl ?_
    exact ⟨_, rfl, GV.out, GB.out⟩
  rw [if_pos ⟨hrt, hld⟩] at h
  rw [hld] at HLD
  have hidx := idxN_bound isFreeB l0_0 0
  generalize hix : idxN isFreeB l0_0 0 = ix at h HIX hidx
  have HIDX := Aside0.mk hidx
  clear hrt hld hix hidx
  by_cases hneg : ix < 0
  case pos =>
    rw [if_pos hneg] at h
    obtain ⟨rfl, rfl, rfl, rfl⟩ : l0_0 = r1 ∧ a0_1 = r2 ∧ (0 : Int) = r3 ∧ (3 : Int) = r4 := by simpa using h
    have hnb : decide (ix < 0) = true := decide_eq_true hneg
    clear h
    go_enter Try.func44, Try.ntmps44
    go_wp2_with fail
    clear hwA a0 a1 a2 a3
    refine HR.out.mono ?_
    rintro e w1 ⟨rfl, hb1⟩
    obtain ⟨a0, a1, a2, a3, -, -, -, -⟩ := (AFTER.out w1 hb1).out
    have HL1 := Aside0.mk (HLD.out w1 hb1)
    have HB1 := Aside0.mk hb1
    clear hb1
    go_wp2_with fail
    clear a0 a1 a2 a3
    refine HL1.out.mono ?_
    rintro e w2 ⟨rfl, hb2⟩
    have hb2 := HB1.out.trans (hb2.mono HB1.out.size)
    obtain ⟨a0, a1, a2, a3, -, -, -, -⟩ := (AFTER.out w2 hb2).out
    have HI2 := Aside0.mk (HIX.out w2 hb2)
    have HB2 := Aside0.mk hb2
    clear hb2
    go_wp2_with fail
    clear a0 a1 a2 a3
    refine HI2.out.mono ?_
    rintro e w3 ⟨rfl, hb3⟩
    have hb3 := HB2.out.trans (hb3.mono HB2.out.size)
    obtain ⟨a0, a1, a2, a3, y0, y1, f0, f1⟩ := (AFTER.out w3 hb3).out
    obtain ⟨gv, gb, gk⟩ := GIVE.out w3 0 hb3
    have GV := Aside0.mk gv
    have GB := Aside0.mk gb
    have GK := Aside0.mk gk
    clear gv gb gk hb3
    go_wp2
    refine bodyPost_ret (results_ctt rfl _ _ (w.heap.size + 3) 24 #[.slice A0_0 l0_0.length c0_0, .int .i64 a0_1] (0, 0) _ rfl GK.out Try.underlying24 rfl (by kernel_rfl)) rfl ?_
    exact ⟨_, rfl, GV.out, GB.out⟩
  rw [if_neg hneg] at h
  have hnb : decide (ix < 0) = false := decide_eq_false hneg
  obtain ⟨l', he, h⟩ := Option.bind_eq_some_iff.1 h
  have hll : l'.length = l0_0.length := by
    by_cases hc : l'.length = l0_0.length
    · exact hc
    · rw [if_neg hc] at h; cases h
  rw [if_pos hll] at h
  obtain ⟨i, rfl⟩ : ∃ i : Nat, ix = (i : Int) := ⟨ix.toNat, by omega⟩
  rw [Int.toNat_natCast] at h
  obtain ⟨hres, rfl, rfl, rfl⟩ : l'.set i ⟨1, false, ⟨a1_0, l1_1⟩⟩ = r1 ∧ a0_1 = r2 ∧ (i : Int) = r3 ∧ (0 : Int) = r4 := by simpa using h
  have hi : i < l0_0.length := by have := HIDX.out; omega
  have HRES := Aside0.mk hres
  have HE := Aside0.mk he
  have HLL := Aside0.mk hll
  have h0 : 0 < l0_0.length := by omega
  clear h hres he hll GIVE
  go_enter Try.func44, Try.ntmps44
  go_wp2_with fail
  clear hwA a0 a1 a2 a3
  refine HR.out.mono ?_
  rintro e w1 ⟨rfl, hb1⟩
  obtain ⟨a0, a1, a2, a3, -, -, -, -⟩ := (AFTER.out w1 hb1).out
  have HL1 := Aside0.mk (HLD.out w1 hb1)
  have HB1 := Aside0.mk hb1
  clear hb1
  go_wp2_with fail
  clear a0 a1 a2 a3
  refine HL1.out.mono ?_
  rintro e w2 ⟨rfl, hb2⟩
  have hb2 := HB1.out.trans (hb2.mono HB1.out.size)
  obtain ⟨a0, a1, a2, a3, -, -, -, -⟩ := (AFTER.out w2 hb2).out
  have HI2 := Aside0.mk (HIX.out w2 hb2)
  have HB2 := Aside0.mk hb2
  clear hb2
  go_wp2_with fail
  clear a0 a1 a2 a3
  refine HI2.out.mono ?_
  rintro e w3 ⟨rfl, hb3⟩
  have hb3 := HB2.out.trans (hb3.mono HB2.out.size)
  obtain ⟨a0, a1, a2, a3, -, -, -, -⟩ := (AFTER.out w3 hb3).out
  have HB3 := Aside0.mk hb3
  clear hb3 HL1 HI2 HR HLD HIX HB1 HB2
  go_wp2_with fail
  clear a0 a1 a2 a3
  refine (own_walk P' A0_0 c0_0 l0_0 a0_1 w3 (Kd.F_below HF0.out HB3.out) h0 hl0).mono ?_
  rintro e w4 ⟨b, g, rfl, hw4, hb4⟩
  have hb4' := HB3.out.trans (hb4.mono HB3.out.size)
  obtain ⟨-, -, a2, a3, -, -, -, -⟩ := (AFTER.out w4 hb4').out
  have HB4 := Aside0.mk hb4'
  have hsz3 : wA.heap.size ≤ w3.heap.size := HB3.out.size
  have hsz4 : w3.heap.size ≤ w4.heap.size := hb4.size
  have hg4 : w3.heap.size ≤ g := hw4.hg
  have hb4g : w3.heap.size ≤ b := hw4.hb
  have HBX := Aside0.mk (show Below w4.heap.size w4 (w4.alloc (.cells #[.pointer (some ⟨b, 0, none⟩)] 108)) from (Below.refl _ w4).alloc (Nat.le_refl _) _)
  have HW5 := Aside0.mk (hw4.below HBX.out)
  have hnew := alloc_new w4 (.cells #[.pointer (some ⟨b, 0, none⟩)] 108)
  obtain ⟨cs4, hcs4, -⟩ := hw4.blk
  have hglt : g < w4.heap.size := (Array.getElem?_eq_some_iff.1 hcs4).1
  have HNEW := Aside0.mk hnew
  have l1 : w.heap.size + 1 < w4.heap.size := by have := HSA.out; omega
  have l0 : w.heap.size < w4.heap.size := by have := HSA.out; omega
  have HEACH := Aside0.mk (each75 w3 P' (w4.alloc (.cells #[.pointer (some ⟨b, 0, none⟩)] 108)) b g (w.heap.size + 2) w4.heap.size a0_1 (allocF l2)
    (fun W l l' p hw hk hf => alloc1 w3 P' W b g (w.heap.size + 2) w4.heap.size A2 c2 l2 a0_1 p l l' hw (Kd.C_below (Kd.C_below HH.out HB3.out) hw.low) HC2.out HL2.out
      (hk.blk (blk_below (blk_below K2.out HB4.out) HBX.out) (by have := HSA.out; omega) (by simp)) (hk.blk HNEW.out (by omega) (by simp)) hf)
    a1_0 A1_1 c1_1 l1_1 l0_0 l' HW5.out (Kd.C_below (Kd.F_now HF1.out) HB3.out) HE.out)
  clear hw4 hb4 hb4' hnew hcs4
  go_wp2_with fail
  refine HEACH.out.mono ?_
  rintro e w6 ⟨⟨v, rfl⟩, hw6, hk6⟩
  have HW6 := Aside0.mk hw6
  have k36 := hk6.blk (blk_below (blk_below K3.out HB4.out) HBX.out) (by have := HSA.out; omega) (by simp)
  have k16 := hk6.blk (blk_below (blk_below K1.out HB4.out) HBX.out) (by have := HSA.out; omega) (by simp)
  have kn6 := hk6.blk HNEW.out (by omega) (by simp)
  have K36 := Aside0.mk k36
  have b0 : w6.cell? ⟨b, 0, none⟩ = some (.slice (some ⟨g, 0, none⟩) l0_0.length l0_0.length) := by
    have := (blk_cell hw6.box 0).trans rfl
    rw [HLL.out] at this
    exact this
  have b1 : w6.cell? ⟨b, 1, none⟩ = some (.int .i64 a0_1) := (blk_cell hw6.box 1).trans rfl
  have n0 : w6.cell? ⟨w4.heap.size, 0, none⟩ = some (.pointer (some ⟨b, 0, none⟩)) := (blk_cell kn6 0).trans rfl
  have m0 : w6.cell? ⟨w.heap.size + 1, 0, none⟩ = some (.bool a1_0) := (blk_cell k16 0).trans rfl
  have m1 : w6.cell? ⟨w.heap.size + 1, 1, none⟩ = some (.slice A1_1 l1_1.length c1_1) := (blk_cell k16 1).trans rfl
  obtain ⟨cs, hcc, hcs⟩ := hw6.blk
  have f0 := blk_frozen hcc (i * 4)
  have f1 := blk_frozen hcc (i * 4 + 1)
  have f2 := blk_frozen hcc (i * 4 + 2)
  have f3 := blk_frozen hcc (i * 4 + 3)
  obtain ⟨x0, x1, x2, A', c', x3, -, -⟩ := hw6.row i (by have := HLL.out; omega)
  have p1 : (0 : Int) ≤ (i : Int) := by omega
  have q1 : (i : Int) < (l0_0.length : Int) := by omega
  have hlt6 := (Array.getElem?_eq_some_iff.1 kn6).1
  clear hw6 hk6 k36 k16 kn6 hcc hcs HEACH HW5 HNEW HBX a2 a3
  generalize (rd_T55 l' (i : Nat)).f0 = o0 at x0
  generalize (rd_T55 l' (i : Nat)).f1 = o1 at x1
  generalize (rd_T55 l' (i : Nat)).f2.f0 = o2 at x2
  generalize (rd_T55 l' (i : Nat)).f2.f1.length = o3 at x3
  have mixed : Try.prog.follows .mixedOrders = true := by kernel_rfl
  go_wp2
  go_region_o
  have hw7 := (Wk.put4 HW6.out (i := i) (by have := HLL.out; omega) 1 false a1_0 l1_1 A1_1 c1_1 HC1.out (Kd.F_below HF1.out HB3.out)).below (below_drew1 (Below.refl _ _))
  have hk7 := keep_drew (((((KeepBut.refl w6 g none).set_ (i * 4) (.int .i64 1)).set_ (i * 4 + 1) (.bool false)).set_ (i * 4 + 2) (.bool a1_0)).set_ (i * 4 + 3) (.slice A1_1 l1_1.length c1_1))
  clear f0 f1 f2 f3 x0 x1 x2 x3 b0 b1 m0 m1
  generalize ((((w6.setCell ⟨g, i * 4, none⟩ (.int .i64 1)).setCell ⟨g, i * 4 + 1, none⟩ (.bool false)).setCell ⟨g, i * 4 + 2, none⟩ (.bool a1_0)).setCell ⟨g, i * 4 + 3, none⟩ (.slice A1_1 l1_1.length c1_1)).drew = w7 at hw7 hk7 ⊢
  have n1 : w7.cell? ⟨w4.heap.size, 0, none⟩ = some (.pointer (some ⟨b, 0, none⟩)) := keep_cell hk7 n0 (by show w4.heap.size ≠ g; omega)
  have k37 := hk7.blk K36.out (by have := HSA.out; omega) (by simp)
  have K37 := Aside0.mk k37
  have y0 : w7.cell? ⟨w.heap.size + 3, 0, none⟩ = some (.slice none 0 0) := (blk_cell k37 0).trans rfl
  have y1 : w7.cell? ⟨w.heap.size + 3, 1, none⟩ = some (.int .i64 0) := (blk_cell k37 1).trans rfl
  have g0 := blk_frozen k37 0
  have g1 := blk_frozen k37 1
  have hlen7 : (l'.set i (⟨1, false, ⟨a1_0, l1_1⟩⟩ : S55)).length = l0_0.length := by rw [List.length_set]; exact HLL.out
  have b0 : w7.cell? ⟨b, 0, none⟩ = some (.slice (some ⟨g, 0, none⟩) l0_0.length l0_0.length) := by
    have := (blk_cell hw7.box 0).trans rfl
    rw [hlen7] at this
    exact this
  have b1 : w7.cell? ⟨b, 1, none⟩ = some (.int .i64 a0_1) := (blk_cell hw7.box 1).trans rfl
  have hb7 : b ≠ w.heap.size + 3 := by have := HSA.out; omega
  have hg7 : w.heap.size + 3 ≠ b := by have := HSA.out; omega
  have HW7 := Aside0.mk hw7
  have HB7 : Aside0 (Below w.heap.size w w7) := ⟨(HBA.out.trans (HB3.out.mono HBA.out.size)).trans (hw7.low.mono (by have := HSA.out; omega))⟩
  have HV7 : Aside0 (Kd.V k55 55 w7 w.heap.size (fun k => P' k ∨ w3.heap.size ≤ k) (.slice (some ⟨g, 0, none⟩) l0_0.length l0_0.length) r1) := by
    have := hw7.V (by rw [hlen7]; exact hl0) w.heap.size
    rw [hlen7, HRES.out] at this
    exact ⟨this⟩
  clear hw7 hk7 k37 hlen7 n0
  go_wp2
  refine bodyPost_ret (results_ctt rfl _ _ (w.heap.size + 3) 24 #[.slice (some ⟨g, 0, none⟩) l0_0.length l0_0.length, .int .i64 a0_1] (0, 0) _ rfl (blk_put (cs := #[.slice (some ⟨g, 0, none⟩) l0_0.length l0_0.length, .int .i64 0]) (blk_put (cs := #[.slice none 0 0, .int .i64 0]) K37.out 0 _ rfl) 1 _ rfl) Try.underlying24 rfl (by kernel_rfl)) rfl ?_
  have hne : ∀ k, (P' k ∨ w3.heap.size ≤ k) → k ≠ w.heap.size + 3 := fun k hk => by
    have := HSA.out
    rcases hk with h | h
    · have := (HP.out k h).2; omega
    · omega
  refine ⟨_, rfl, ?_, below_set (below_set HB7.out (by omega)) (by omega)⟩
  refine Kd.V_mono (Kd.V_far (p := ⟨w.heap.size + 3, 1, none⟩) (Kd.V_far (p := ⟨w.heap.size + 3, 0, none⟩) HV7.out hne _) hne _) fun k hk => ?_
  rcases hk with h | h
  · exact .inl (HP.out k h).1
  · exact .inr (by have := HSA.out; omega)
end Go.Proofs.Yteiladccdenpbaa.P
end
section
namespace Go.Proofs.Yteiladccdenpbaa.P
open Go.RowKit Go.Proofs.YteiladccdenpbaaW.PrintWords Go.Proofs.YteiladccdenpbaaW.PrintLast Go.Proofs.YteiladccdenpbaaW.PrintMore
attribute [local go_sem] max2_int min2_int max_two min_two max_three min_three max_four min_four
set_option linter.unusedVariables false
set_option linter.unusedSimpArgs false
def heap_New.f (a0 : Int) (a1 : Int) : Option ((List (S55)) × Int × Int) := if a0 < 1 then (some (([] : List (S55)), 0, 1)) else (if a0 > 2000 then (some (([] : List (S55)), 0, 1)) else (if a1 < 0 then (some (([] : List (S55)), 0, 1)) else (if a1 > a0 then (some (([] : List (S55)), 0, 1)) else (if 0 ≤ a0 then (if (a0 : Int).toNat ≤ 5864062014805 then (some ((List.replicate (a0 : Int).toNat z55), a1, 0)) else (none)) else (none)))))
set_option maxHeartbeats 8000000 in
set_option maxRecDepth 100000 in
theorem heap_New.calls (a0 : Int) (a1 : Int) (r1 : List (S55)) (r2 : Int) (r3 : Int) (w : World) (h : heap_New.f a0 a1 = some (r1, r2, r3)) :
  Calls Try.prog 35 #[.int .i64 a0, .int .i64 a1] w fun e w' => ∃ v0_ : Value, e = .returned (.tuple #[.agg #[v0_, .int .i64 r2], .int .i64 r3]) ∧ Kd.S k55 55 w' w.heap.size (fun _ => True) v0_ r1 ∧ Below w.heap.size w w' := by
 have hu24 := Try.underlying24
 have HB := Aside0.mk (Below.refl w.heap.size w)
 have H : (if a0 < 1 then (some (([] : List (S55)), 0, 1)) else (if a0 > 2000 then (some (([] : List (S55)), 0, 1)) else (if a1 < 0 then (some (([] : List (S55)), 0, 1)) else (if a1 > a0 then (some (([] : List (S55)), 0, 1)) else (if 0 ≤ a0 then (if (a0 : Int).toNat ≤ 5864062014805 then (some ((List.replicate (a0 : Int).toNat z55), a1, 0)) else (none)) else (none)))))) = some (r1, r2, r3) := h
 clear h
 by_cases c3 : a0 < 1
 ·rw [if_pos c3] at H
  have c3b0 : decide (a0 < 1) = true := decide_eq_true c3
  clear c3
  simp only [Option.some.injEq, Prod.mk.injEq] at H
  obtain ⟨rfl, rfl, rfl⟩ := H
  go_enter Try.func35, Try.ntmps35
  go_wp2_with (first | ((with_reducible refine gate_dst (N := 4) rfl ?_); refine box_event ?hg (N := 4) ?hd (cs := #[.slice none 0 0, .int .i64 0]) (t := 24) ?hr ?_; (case hd => rfl); (case hg => rfl); (case hr => first | (go_simp; done) | (go_simp; rfl)); intro gb116 hg w4 hbox hb; have n0_ := Aside0.mk (below_step (by repeat (first | (with_reducible first | exact HB.out | apply below_alloc | apply pw_below_drewN | apply below_drew1) | exact HB.out)) hb); have n1_ := Aside0.mk (hbox); have n2_ := Aside0.mk ((by rw [hg]; exact (below_size (by repeat (first | (with_reducible first | exact HB.out | apply below_alloc | apply pw_below_drewN | apply below_drew1) | exact HB.out))) : w.heap.size ≤ gb116)); have n3_ := Aside0.mk ((by rw [hg]; exact (below_size (by repeat (first | (with_reducible first | exact HB.out | apply below_alloc | apply pw_below_drewN | apply below_drew1) | exact HB.out))) : w.heap.size ≤ gb116)); clear HB; have HB := n0_; have BK116 := n1_; have GW116 := n2_; have GE116 := n3_; clear n0_ n1_ n2_ n3_; clear hb hbox hg; have hcz5_0 : w4.cell? ⟨gb116, 0, none⟩ = some (.slice none 0 0) := (blk_cell BK116.out 0).trans rfl; have hcz5_1 : w4.cell? ⟨gb116, 1, none⟩ = some (.int .i64 0) := (blk_cell BK116.out 1).trans rfl; have hfz5_0 := blk_frozen BK116.out 0; have hfz5_1 := blk_frozen BK116.out 1))
  refine bodyPost_ret (results_ct rfl _ _ gb116 24 #[.slice none 0 0, .int .i64 0] (0, 0) _ rfl (by (with_reducible repeat (first | refine blk_drewN ?_ _ | refine blk_drew ?_ | refine blk_alloc ?_ _)); refine blk_put (cs := #[.slice none 0 0, .int .i64 0]) ?_ 1 _ rfl; (with_reducible repeat (first | refine blk_drewN ?_ _ | refine blk_drew ?_ | refine blk_alloc ?_ _)); refine blk_put (cs := #[.slice none 0 0, .int .i64 0]) ?_ 0 _ rfl; (with_reducible repeat (first | refine blk_drewN ?_ _ | refine blk_drew ?_ | refine blk_alloc ?_ _)); exact BK116.out) Try.underlying24 rfl (by kernel_rfl)) rfl ?_
  exact ⟨_, by first | rfl | (simp [errW_none, errW_some] <;> rfl) | (simp [*, errW_none, errW_some] <;> rfl), by first | exact Kd.S_nil _ _ _ _ _ | exact Kd.N_nil _ _ _ _ _ | exact Kd.V_nil _ _ _ _ _ | exact Kd.Q_nil _ _ _ _ _ | exact Kd.R_nil _ _ _ _ _, by repeat (first | (with_reducible first | exact HB.out | apply below_alloc | apply pw_below_drewN | apply below_drew1 | refine below_set ?_ GE116.out) | exact HB.out)⟩
 ·rw [if_neg c3] at H
  have c3b0 : decide (a0 < 1) = false := decide_eq_false c3
  clear c3
  by_cases c6 : a0 > 2000
  ·rw [if_pos c6] at H
   have c6b0 : decide (2000 < a0) = true := decide_eq_true c6
   clear c6
   simp only [Option.some.injEq, Prod.mk.injEq] at H
   obtain ⟨rfl, rfl, rfl⟩ := H
   go_enter Try.func35, Try.ntmps35
   go_wp2_with (first | ((with_reducible refine gate_dst (N := 4) rfl ?_); refine box_event ?hg (N := 4) ?hd (cs := #[.slice none 0 0, .int .i64 0]) (t := 24) ?hr ?_; (case hd => rfl); (case hg => rfl); (case hr => first | (go_simp; done) | (go_simp; rfl)); intro gb116 hg w7 hbox hb; have n0_ := Aside0.mk (below_step (by repeat (first | (with_reducible first | exact HB.out | apply below_alloc | apply pw_below_drewN | apply below_drew1) | exact HB.out)) hb); have n1_ := Aside0.mk (hbox); have n2_ := Aside0.mk ((by rw [hg]; exact (below_size (by repeat (first | (with_reducible first | exact HB.out | apply below_alloc | apply pw_below_drewN | apply below_drew1) | exact HB.out))) : w.heap.size ≤ gb116)); have n3_ := Aside0.mk ((by rw [hg]; exact (below_size (by repeat (first | (with_reducible first | exact HB.out | apply below_alloc | apply pw_below_drewN | apply below_drew1) | exact HB.out))) : w.heap.size ≤ gb116)); clear HB; have HB := n0_; have BK116 := n1_; have GW116 := n2_; have GE116 := n3_; clear n0_ n1_ n2_ n3_; clear hb hbox hg; have hcz8_0 : w7.cell? ⟨gb116, 0, none⟩ = some (.slice none 0 0) := (blk_cell BK116.out 0).trans rfl; have hcz8_1 : w7.cell? ⟨gb116, 1, none⟩ = some (.int .i64 0) := (blk_cell BK116.out 1).trans rfl; have hfz8_0 := blk_frozen BK116.out 0; have hfz8_1 := blk_frozen BK116.out 1))
   refine bodyPost_ret (results_ct rfl _ _ gb116 24 #[.slice none 0 0, .int .i64 0] (0, 0) _ rfl (by (with_reducible repeat (first | refine blk_drewN ?_ _ | refine blk_drew ?_ | refine blk_alloc ?_ _)); refine blk_put (cs := #[.slice none 0 0, .int .i64 0]) ?_ 1 _ rfl; (with_reducible repeat (first | refine blk_drewN ?_ _ | refine blk_drew ?_ | refine blk_alloc ?_ _)); refine blk_put (cs := #[.slice none 0 0, .int .i64 0]) ?_ 0 _ rfl; (with_reducible repeat (first | refine blk_drewN ?_ _ | refine blk_drew ?_ | refine blk_alloc ?_ _)); exact BK116.out) Try.underlying24 rfl (by kernel_rfl)) rfl ?_
   exact ⟨_, by first | rfl | (simp [errW_none, errW_some] <;> rfl) | (simp [*, errW_none, errW_some] <;> rfl), by first | exact Kd.S_nil _ _ _ _ _ | exact Kd.N_nil _ _ _ _ _ | exact Kd.V_nil _ _ _ _ _ | exact Kd.Q_nil _ _ _ _ _ | exact Kd.R_nil _ _ _ _ _, by repeat (first | (with_reducible first | exact HB.out | apply below_alloc | apply pw_below_drewN | apply below_drew1 | refine below_set ?_ GE116.out) | exact HB.out)⟩
  ·rw [if_neg c6] at H
   have c6b0 : decide (2000 < a0) = false := decide_eq_false c6
   clear c6
   by_cases c9 : a1 < 0
   ·rw [if_pos c9] at H
    have c9b0 : decide (a1 < 0) = true := decide_eq_true c9
    clear c9
    simp only [Option.some.injEq, Prod.mk.injEq] at H
    obtain ⟨rfl, rfl, rfl⟩ := H
    go_enter Try.func35, Try.ntmps35
    go_wp2_with (first | ((with_reducible refine gate_dst (N := 4) rfl ?_); refine box_event ?hg (N := 4) ?hd (cs := #[.slice none 0 0, .int .i64 0]) (t := 24) ?hr ?_; (case hd => rfl); (case hg => rfl); (case hr => first | (go_simp; done) | (go_simp; rfl)); intro gb116 hg w10 hbox hb; have n0_ := Aside0.mk (below_step (by repeat (first | (with_reducible first | exact HB.out | apply below_alloc | apply pw_below_drewN | apply below_drew1) | exact HB.out)) hb); have n1_ := Aside0.mk (hbox); have n2_ := Aside0.mk ((by rw [hg]; exact (below_size (by repeat (first | (with_reducible first | exact HB.out | apply below_alloc | apply pw_below_drewN | apply below_drew1) | exact HB.out))) : w.heap.size ≤ gb116)); have n3_ := Aside0.mk ((by rw [hg]; exact (below_size (by repeat (first | (with_reducible first | exact HB.out | apply below_alloc | apply pw_below_drewN | apply below_drew1) | exact HB.out))) : w.heap.size ≤ gb116)); clear HB; have HB := n0_; have BK116 := n1_; have GW116 := n2_; have GE116 := n3_; clear n0_ n1_ n2_ n3_; clear hb hbox hg; have hcz11_0 : w10.cell? ⟨gb116, 0, none⟩ = some (.slice none 0 0) := (blk_cell BK116.out 0).trans rfl; have hcz11_1 : w10.cell? ⟨gb116, 1, none⟩ = some (.int .i64 0) := (blk_cell BK116.out 1).trans rfl; have hfz11_0 := blk_frozen BK116.out 0; have hfz11_1 := blk_frozen BK116.out 1))
    refine bodyPost_ret (results_ct rfl _ _ gb116 24 #[.slice none 0 0, .int .i64 0] (0, 0) _ rfl (by (with_reducible repeat (first | refine blk_drewN ?_ _ | refine blk_drew ?_ | refine blk_alloc ?_ _)); refine blk_put (cs := #[.slice none 0 0, .int .i64 0]) ?_ 1 _ rfl; (with_reducible repeat (first | refine blk_drewN ?_ _ | refine blk_drew ?_ | refine blk_alloc ?_ _)); refine blk_put (cs := #[.slice none 0 0, .int .i64 0]) ?_ 0 _ rfl; (with_reducible repeat (first | refine blk_drewN ?_ _ | refine blk_drew ?_ | refine blk_alloc ?_ _)); exact BK116.out) Try.underlying24 rfl (by kernel_rfl)) rfl ?_
    exact ⟨_, by first | rfl | (simp [errW_none, errW_some] <;> rfl) | (simp [*, errW_none, errW_some] <;> rfl), by first | exact Kd.S_nil _ _ _ _ _ | exact Kd.N_nil _ _ _ _ _ | exact Kd.V_nil _ _ _ _ _ | exact Kd.Q_nil _ _ _ _ _ | exact Kd.R_nil _ _ _ _ _, by repeat (first | (with_reducible first | exact HB.out | apply below_alloc | apply pw_below_drewN | apply below_drew1 | refine below_set ?_ GE116.out) | exact HB.out)⟩
   ·rw [if_neg c9] at H
    have c9b0 : decide (a1 < 0) = false := decide_eq_false c9
    clear c9
    by_cases c12 : a1 > a0
    ·rw [if_pos c12] at H
     have c12b0 : decide (a0 < a1) = true := decide_eq_true c12
     clear c12
     simp only [Option.some.injEq, Prod.mk.injEq] at H
     obtain ⟨rfl, rfl, rfl⟩ := H
     go_enter Try.func35, Try.ntmps35
     go_wp2_with (first | ((with_reducible refine gate_dst (N := 4) rfl ?_); refine box_event ?hg (N := 4) ?hd (cs := #[.slice none 0 0, .int .i64 0]) (t := 24) ?hr ?_; (case hd => rfl); (case hg => rfl); (case hr => first | (go_simp; done) | (go_simp; rfl)); intro gb116 hg w13 hbox hb; have n0_ := Aside0.mk (below_step (by repeat (first | (with_reducible first | exact HB.out | apply below_alloc | apply pw_below_drewN | apply below_drew1) | exact HB.out)) hb); have n1_ := Aside0.mk (hbox); have n2_ := Aside0.mk ((by rw [hg]; exact (below_size (by repeat (first | (with_reducible first | exact HB.out | apply below_alloc | apply pw_below_drewN | apply below_drew1) | exact HB.out))) : w.heap.size ≤ gb116)); have n3_ := Aside0.mk ((by rw [hg]; exact (below_size (by repeat (first | (with_reducible first | exact HB.out | apply below_alloc | apply pw_below_drewN | apply below_drew1) | exact HB.out))) : w.heap.size ≤ gb116)); clear HB; have HB := n0_; have BK116 := n1_; have GW116 := n2_; have GE116 := n3_; clear n0_ n1_ n2_ n3_; clear hb hbox hg; have hcz14_0 : w13.cell? ⟨gb116, 0, none⟩ = some (.slice none 0 0) := (blk_cell BK116.out 0).trans rfl; have hcz14_1 : w13.cell? ⟨gb116, 1, none⟩ = some (.int .i64 0) := (blk_cell BK116.out 1).trans rfl; have hfz14_0 := blk_frozen BK116.out 0; have hfz14_1 := blk_frozen BK116.out 1))
     refine bodyPost_ret (results_ct rfl _ _ gb116 24 #[.slice none 0 0, .int .i64 0] (0, 0) _ rfl (by (with_reducible repeat (first | refine blk_drewN ?_ _ | refine blk_drew ?_ | refine blk_alloc ?_ _)); refine blk_put (cs := #[.slice none 0 0, .int .i64 0]) ?_ 1 _ rfl; (with_reducible repeat (first | refine blk_drewN ?_ _ | refine blk_drew ?_ | refine blk_alloc ?_ _)); refine blk_put (cs := #[.slice none 0 0, .int .i64 0]) ?_ 0 _ rfl; (with_reducible repeat (first | refine blk_drewN ?_ _ | refine blk_drew ?_ | refine blk_alloc ?_ _)); exact BK116.out) Try.underlying24 rfl (by kernel_rfl)) rfl ?_
     exact ⟨_, by first | rfl | (simp [errW_none, errW_some] <;> rfl) | (simp [*, errW_none, errW_some] <;> rfl), by first | exact Kd.S_nil _ _ _ _ _ | exact Kd.N_nil _ _ _ _ _ | exact Kd.V_nil _ _ _ _ _ | exact Kd.Q_nil _ _ _ _ _ | exact Kd.R_nil _ _ _ _ _, by repeat (first | (with_reducible first | exact HB.out | apply below_alloc | apply pw_below_drewN | apply below_drew1 | refine below_set ?_ GE116.out) | exact HB.out)⟩
    ·rw [if_neg c12] at H
     have c12b0 : decide (a0 < a1) = false := decide_eq_false c12
     clear c12
     by_cases c15 : 0 ≤ a0
     ·rw [if_pos c15] at H
      have c15b0 := eq_true c15
      have c15b1 : decide (0 ≤ a0) = true := decide_eq_true c15
      clear c15
      by_cases c16 : (a0 : Int).toNat ≤ 5864062014805
      ·rw [if_pos c16] at H
       have c16b0 := eq_true c16
       have c16b1 : decide ((a0 : Int).toNat ≤ 5864062014805) = true := decide_eq_true c16
       clear c16
       obtain ⟨y117, hy117⟩ : ∃ y_ : List (S55), y_ = (List.replicate (a0 : Int).toNat z55) := ⟨_, rfl⟩
       replace H : (some (y117, a1, 0)) = some (r1, r2, r3) := by first | (rw [hy117]; with_reducible exact H) | (have H2_ := (Option.bind_some _ _).symm.trans H; rw [hy117]; with_reducible exact H2_) | (have H2_ := (Option.bind_some _ _).symm.trans H; with_reducible exact H2_) | with_reducible exact H | (rw [hy117]; exact H) | exact H
       have Ny117 := Aside0.mk hy117
       clear hy117
       simp only [Option.some.injEq, Prod.mk.injEq] at H
       obtain ⟨rfl, rfl, rfl⟩ := H
       go_enter Try.func35, Try.ntmps35
       go_wp2_with (first | ((with_reducible refine gate_dst (N := 4) rfl ?_); refine box_event ?hg (N := 4) ?hd (cs := #[.slice none 0 0, .int .i64 0]) (t := 24) ?hr ?_; (case hd => rfl); (case hg => rfl); (case hr => first | (go_simp; done) | (go_simp; rfl)); intro gb116 hg w17 hbox hb; have n0_ := Aside0.mk (below_step (by repeat (first | (with_reducible first | exact HB.out | apply below_alloc | apply pw_below_drewN | apply below_drew1) | exact HB.out)) hb); have n1_ := Aside0.mk (hbox); have n2_ := Aside0.mk ((by rw [hg]; exact (below_size (by repeat (first | (with_reducible first | exact HB.out | apply below_alloc | apply pw_below_drewN | apply below_drew1) | exact HB.out))) : w.heap.size ≤ gb116)); have n3_ := Aside0.mk ((by rw [hg]; exact (below_size (by repeat (first | (with_reducible first | exact HB.out | apply below_alloc | apply pw_below_drewN | apply below_drew1) | exact HB.out))) : w.heap.size ≤ gb116)); clear HB; have HB := n0_; have BK116 := n1_; have GW116 := n2_; have GE116 := n3_; clear n0_ n1_ n2_ n3_; clear hb hbox hg) | ((with_reducible refine gate_dst (N := 23) rfl ?_); refine Kd.S_make k55 _ 55 rfl (N := 23) rfl 22 _ _ rfl a0 rfl rfl Try.underlying22 (.agg #[(.int .i64 0), (.bool false), (.bool false), (.slice none 0 0)]) 48 info55 rfl (by decide) (by omega) z55 (ok := fun _ => True) (okp := fun _ => True) (k55_mkM _ _ _ z55 (Kd.R_nil _ _ _ _ _)) (fun _ hk => hk) trivial (of_decide_eq_true (by first | (with_reducible assumption) | assumption)) (Nat.le_trans (Nat.mul_le_mul_right _ (of_decide_eq_true (by first | (with_reducible assumption) | assumption) : a0.toNat ≤ 5864062014805)) (by omega)) (Below.refl _ _) (Nat.le_refl _) ?_; intro v118 w18 ho19 hb hg_ hnew_; clear hg_ hnew_; (first | rw [← Ny117.out] at ho19 | (simp only [Int.reduceToNat] at ho19; rw [← Ny117.out] at ho19)); have n0_ := Aside0.mk (Kd.S_lower ho19 (below_size (by repeat (first | (with_reducible first | exact HB.out | apply below_alloc | apply pw_below_drewN | apply below_drew1 | refine below_set ?_ GE116.out) | exact HB.out)))); have n1_ := Aside0.mk (blk_below (g := gb116) (o := .cells #[.slice none 0 0, .int .i64 0] 24 (0, 0)) (by (with_reducible repeat (first | refine blk_drewN ?_ _ | refine blk_drew ?_ | refine blk_alloc ?_ _)); exact BK116.out) hb); have n2_ := Aside0.mk (below_step (by repeat (first | (with_reducible first | exact HB.out | apply below_alloc | apply pw_below_drewN | apply below_drew1 | refine below_set ?_ GE116.out) | exact HB.out)) hb); clear BK116; clear HB; have HO119 := n0_; have BK116 := n1_; have HB := n2_; clear n0_ n1_ n2_; clear hb ho19; obtain ⟨Ao20, co20, eo20⟩ := Kd.S_slice HO119.out; subst eo20; have hcz21_0 : w18.cell? ⟨gb116, 0, none⟩ = some (.slice none 0 0) := (blk_cell BK116.out 0).trans rfl; have hcz21_1 : w18.cell? ⟨gb116, 1, none⟩ = some (.int .i64 0) := (blk_cell BK116.out 1).trans rfl; have hfz21_0 := blk_frozen BK116.out 0; have hfz21_1 := blk_frozen BK116.out 1))
       refine bodyPost_ret (results_ct rfl _ _ gb116 24 #[.slice Ao20 y117.length co20, .int .i64 a1] (0, 0) _ rfl (by (with_reducible repeat (first | refine blk_drewN ?_ _ | refine blk_drew ?_ | refine blk_alloc ?_ _)); refine blk_put (cs := #[.slice Ao20 y117.length co20, .int .i64 0]) ?_ 1 _ rfl; (with_reducible repeat (first | refine blk_drewN ?_ _ | refine blk_drew ?_ | refine blk_alloc ?_ _)); refine blk_put (cs := #[.slice none 0 0, .int .i64 0]) ?_ 0 _ rfl; (with_reducible repeat (first | refine blk_drewN ?_ _ | refine blk_drew ?_ | refine blk_alloc ?_ _)); exact BK116.out) Try.underlying24 rfl (by kernel_rfl)) rfl ?_
       exact ⟨_, by first | rfl | (simp [errW_none, errW_some] <;> rfl) | (simp [*, errW_none, errW_some] <;> rfl), by (with_reducible repeat (first | apply Kd.S_alloc | apply Kd.S_drewN | apply Kd.S_drew)); exact Kd.S_mono (Kd.S_far (p := ⟨gb116, 1, none⟩) (Kd.S_far (p := ⟨gb116, 0, none⟩) (Kd.S_types HO119.out BK116.out (by decide)) (fun _ hk => hk.2) (.slice Ao20 y117.length co20)) (fun _ hk => hk.2) (.int .i64 a1)) (fun _ hk => trivial), by repeat (first | (with_reducible first | exact HB.out | apply below_alloc | apply pw_below_drewN | apply below_drew1 | refine below_set ?_ GE116.out) | exact HB.out)⟩
      ·rw [if_neg c16] at H
       exact absurd H (by simp)
     ·rw [if_neg c15] at H
      exact absurd H (by simp)
end Go.Proofs.Yteiladccdenpbaa.P
end
