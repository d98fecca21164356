/- Texts of this claim's proof put together: HWork, HEach, HOwn, F40, HChg, PFine3, HFl, HTask, HKind, HCat4, HClone, HStep4, HStep5, HSteps, PBound, HShown11, HCleanShared, HCleanBound, HRow, LawCleanBound. -/
import Derived.Below
import Derived.Deep.Draws
import Derived.Deep.AppendLies
import Derived.Maps.AppendAt
import Derived.OwnWalk
import Derived.Laws.BytesArg
import Derived.Laws.MakeOwn
import Derived.Laws.OwnMore
import Derived.Deep.OwnRows
import Derived.Tactics
import Derived.Lib.ConvBytes
import Derived.Laws.Slices
import Derived.WalkKit
import Derived.KernelRfl
import Derived.RowKit3
import Derived.Deep.LoopGhost
import Derived.Deep.QuietTactic
import Derived.BigQuiet
import Derived.WideLaws
import Derived.Deep.DeepCutAuto
import Derived.Deep.CutBlock
import Derived.Deep.RegionHeld3
import Derived.Laws.Rows
import Derived.Lib.AppendStr
import Derived.ArgAppend
import Derived.Laws.IdiomCopy
import Derived.RowKit
import Derived.OrdersHeld
import Derived.Laws.BitsLemmas
import Derived.Laws.StructEq
import Derived.Test.YtflndiikeoflfaaProg
import Derived.Shelf.RegionOpenPlain
import Derived.Shelf.Abstract
import Derived.Laws.CopyOwn
import Derived.Lib.SlBuf
import Derived.WalkLawsBesides
import Derived.Lib.LazyBuf
import Derived.ChangeArms
import Derived.DataReads
import Derived.DataElems
import Derived.SizedLaws
import Derived.Test.YtflndiikeoflfaaRows
import Derived.ProofKit
import Derived.OpenShut
import Derived.ShutString
import Derived.ChangeOld
import Derived.Test.YtflndiikeoflfaaKCleanBound0
import Derived.Test.YtflndiikeoflfaaKCleanBound1
import Derived.Test.YtflndiikeoflfaaKCleanBound2
import Derived.Test.YtflndiikeoflfaaKCleanBound3
namespace Foot
end Foot
namespace Go.Proofs.Ytflndiikeoflfaa
end Go.Proofs.Ytflndiikeoflfaa
namespace Go.Proofs.Ytflndiikeoflfaa.P
end Go.Proofs.Ytflndiikeoflfaa.P
namespace Go.Proofs.Ytflndiikeoflfaa.cleanBound
end Go.Proofs.Ytflndiikeoflfaa.cleanBound
namespace Go.Proofs.YtflndiikeoflfaaW.PrintLast
end Go.Proofs.YtflndiikeoflfaaW.PrintLast
namespace Go.Proofs.YtflndiikeoflfaaW.PrintMore
end Go.Proofs.YtflndiikeoflfaaW.PrintMore
namespace Go.Proofs.YtflndiikeoflfaaW.PrintWords
end Go.Proofs.YtflndiikeoflfaaW.PrintWords
namespace Kd
end Kd
section
namespace Go.Proofs.Ytflndiikeoflfaa.P
open Go.RowKit Go.Proofs.YtflndiikeoflfaaW.PrintWords Go.Proofs.YtflndiikeoflfaaW.PrintLast Go.Proofs.YtflndiikeoflfaaW.PrintMore
set_option linter.unusedVariables false
set_option linter.unusedSimpArgs false
def CellAt (w0 : World) (P : Nat → Prop) (W : World) (g o : Nat) (x : S38) : Prop :=
  W.cell? ⟨g, o, none⟩ = some (.int .i64 x.f0) ∧ W.cell? ⟨g, o + 1, none⟩ = some (.bool x.f1) ∧ W.cell? ⟨g, o + 2, none⟩ = some (.bool x.f2.f0) ∧
    ∃ A c, W.cell? ⟨g, o + 3, none⟩ = some (.slice A x.f2.f1.length c) ∧ x.f2.f1.length ≤ c ∧ Kd.F k46 w0 P A x.f2.f1.length x.f2.f1
structure Wk (w0 : World) (P : Nat → Prop) (W : World) (b g : Nat) (l : List S38) (kp : Int) : Prop where
  box : W.heap[b]? = some (.cells #[.slice (some ⟨g, 0, none⟩) l.length l.length, .int .i64 kp] 82 (0, 0))
  blk : ∃ cs, W.heap[g]? = some (.cells cs 38 (0, 0)) ∧ cs.size = l.length * 4
  row : ∀ i : Nat, i < l.length → CellAt w0 P W g (i * 4) (rd_T38 l (i : Nat))
  low : Below w0.heap.size w0 W
  hb : w0.heap.size ≤ b
  hg : w0.heap.size ≤ g
theorem Wk.ne {w0 W : World} {P : Nat → Prop} {b g : Nat} {l : List S38} {kp : Int} (h : Wk w0 P W b g l kp) : b ≠ g := fun e => by
  obtain ⟨cs, hc, _⟩ := h.blk
  have := h.box
  rw [e, hc] at this
  cases this
theorem put_cell {W : World} {g : Nat} {t : TypeId} {cs : Array Value} (hc : W.heap[g]? = some (.cells cs t (0, 0))) (i : Nat) (u : Value) (hi : i < cs.size) (j : Nat) :
    (W.setCell ⟨g, i, none⟩ u).cell? ⟨g, j, none⟩ = if i = j then some u else W.cell? ⟨g, j, none⟩ := by
  rw [blk_cell (blk_put hc i u rfl) j, blk_cell hc j, Array.getElem?_setIfInBounds]
  by_cases e : i = j
  · subst e; rw [if_pos rfl, if_pos rfl]
    rw [if_pos hi]
  · rw [if_neg e, if_neg e]
theorem rd_set {l : List S38} {i : Nat} {x : S38} (hi : i < l.length) (j : Nat) : rd_T38 (l.set i x) (j : Nat) = if i = j then x else rd_T38 l (j : Nat) := by
  simp only [rd_T38, Int.toNat_natCast, List.getD_eq_getElem?_getD, List.getElem?_set]
  by_cases e : i = j
  · subst e; rw [if_pos rfl, if_pos hi, if_pos rfl]; rfl
  · rw [if_neg e, if_neg e]
theorem Wk.upd {w0 W W' : World} {P : Nat → Prop} {b g : Nat} {l : List S38} {kp : Int} (h : Wk w0 P W b g l kp) {i : Nat} (hi : i < l.length) (x' : S38) (hbox : W'.heap[b]? = W.heap[b]?)
    (hblk : ∃ cs, W'.heap[g]? = some (.cells cs 38 (0, 0)) ∧ cs.size = l.length * 4) (hfar : ∀ o, o < i * 4 ∨ i * 4 + 4 ≤ o → W'.cell? ⟨g, o, none⟩ = W.cell? ⟨g, o, none⟩)
    (hat : CellAt w0 P W' g (i * 4) x') (hlow : Below w0.heap.size w0 W') : Wk w0 P W' b g (l.set i x') kp := by
  refine ⟨by rw [List.length_set]; exact hbox.trans h.box, by rw [List.length_set]; exact hblk, fun j hj => ?_, hlow, h.hb, h.hg⟩
  rw [List.length_set] at hj
  rw [rd_set hi]
  by_cases e : i = j
  · subst e; rw [if_pos rfl]; exact hat
  · rw [if_neg e]
    obtain ⟨a, b', c, A, cc, d, e1, e2⟩ := h.row j hj
    refine ⟨(hfar _ (by omega)).trans a, (hfar _ (by omega)).trans b', (hfar _ (by omega)).trans c, A, cc, (hfar _ (by omega)).trans d, e1, e2⟩
theorem Wk.blkset {w0 W : World} {P : Nat → Prop} {b g : Nat} {l : List S38} {kp : Int} (h : Wk w0 P W b g l kp) {i q : Nat} (hi : i < l.length) (hq : q < 4) (u : Value) (x' : S38)
    (hat : CellAt w0 P (W.setCell ⟨g, i * 4 + q, none⟩ u) g (i * 4) x') : Wk w0 P (W.setCell ⟨g, i * 4 + q, none⟩ u) b g (l.set i x') kp := by
  obtain ⟨cs, hc, hs⟩ := h.blk
  refine h.upd hi x' ?_ ⟨_, blk_put hc (i * 4 + q) u rfl, by rw [Array.size_setIfInBounds]; exact hs⟩ (fun o ho => ?_) hat ?_
  · exact (Below.heap_setCell W _ u _ h.ne)
  · rw [put_cell hc _ _ (by omega), if_neg (by omega)]
  · exact below_set h.low h.hg
theorem Wk.setRef {w0 W : World} {P : Nat → Prop} {b g : Nat} {l : List S38} {kp : Int} (h : Wk w0 P W b g l kp) {i : Nat} (hi : i < l.length) (r : Int) :
    Wk w0 P (W.setCell ⟨g, i * 4, none⟩ (.int .i64 r)) b g (l.set i ⟨r, (rd_T38 l (i : Nat)).f1, (rd_T38 l (i : Nat)).f2⟩) kp := by
  obtain ⟨cs, hc, hs⟩ := h.blk
  obtain ⟨a, b', c, A, cc, d, e1, e2⟩ := h.row i hi
  refine Wk.blkset (q := 0) h hi (by omega) _ _ ⟨?_, ?_, ?_, A, cc, ?_, e1, e2⟩
  all_goals rw [put_cell hc _ _ (by omega)]
  · rw [if_pos (by omega)]
  · rw [if_neg (by omega)]; exact b'
  · rw [if_neg (by omega)]; exact c
  · rw [if_neg (by omega)]; exact d
theorem Wk.setPin {w0 W : World} {P : Nat → Prop} {b g : Nat} {l : List S38} {kp : Int} (h : Wk w0 P W b g l kp) {i : Nat} (hi : i < l.length) (r : Bool) :
    Wk w0 P (W.setCell ⟨g, i * 4 + 1, none⟩ (.bool r)) b g (l.set i ⟨(rd_T38 l (i : Nat)).f0, r, (rd_T38 l (i : Nat)).f2⟩) kp := by
  obtain ⟨cs, hc, hs⟩ := h.blk
  obtain ⟨a, b', c, A, cc, d, e1, e2⟩ := h.row i hi
  refine Wk.blkset (q := 1) h hi (by omega) _ _ ⟨?_, ?_, ?_, A, cc, ?_, e1, e2⟩
  all_goals rw [put_cell hc _ _ (by omega)]
  · rw [if_neg (by omega)]; exact a
  · rw [if_pos (by omega)]
  · rw [if_neg (by omega)]; exact c
  · rw [if_neg (by omega)]; exact d
theorem Wk.setLeaf {w0 W : World} {P : Nat → Prop} {b g : Nat} {l : List S38} {kp : Int} (h : Wk w0 P W b g l kp) {i : Nat} (hi : i < l.length) (r : Bool) :
    Wk w0 P (W.setCell ⟨g, i * 4 + 2, none⟩ (.bool r)) b g (l.set i ⟨(rd_T38 l (i : Nat)).f0, (rd_T38 l (i : Nat)).f1, ⟨r, (rd_T38 l (i : Nat)).f2.f1⟩⟩) kp := by
  obtain ⟨cs, hc, hs⟩ := h.blk
  obtain ⟨a, b', c, A, cc, d, e1, e2⟩ := h.row i hi
  refine Wk.blkset (q := 2) h hi (by omega) _ _ ⟨?_, ?_, ?_, A, cc, ?_, e1, e2⟩
  all_goals rw [put_cell hc _ _ (by omega)]
  · rw [if_neg (by omega)]; exact a
  · rw [if_neg (by omega)]; exact b'
  · rw [if_pos (by omega)]
  · rw [if_neg (by omega)]; exact d
theorem Wk.setIt {w0 W : World} {P : Nat → Prop} {b g : Nat} {l : List S38} {kp : Int} (h : Wk w0 P W b g l kp) {i : Nat} (hi : i < l.length) (it : List S46) (A : Option Addr) (n c : Nat) (hn : n = it.length) (hl : it.length ≤ c) (hr : Kd.F k46 w0 P A it.length it) :
    Wk w0 P (W.setCell ⟨g, i * 4 + 3, none⟩ (.slice A n c)) b g (l.set i ⟨(rd_T38 l (i : Nat)).f0, (rd_T38 l (i : Nat)).f1, ⟨(rd_T38 l (i : Nat)).f2.f0, it⟩⟩) kp := by
  obtain ⟨cs, hc, hs⟩ := h.blk
  obtain ⟨a, b', c', A', cc, d, e1, e2⟩ := h.row i hi
  refine Wk.blkset (q := 3) h hi (by omega) _ _ ⟨?_, ?_, ?_, A, c, ?_, hl, hr⟩
  all_goals rw [put_cell hc _ _ (by omega)]
  · rw [if_neg (by omega)]; exact a
  · rw [if_neg (by omega)]; exact b'
  · rw [if_neg (by omega)]; exact c'
  · rw [if_pos (by omega), hn]
theorem Wk.below {w0 W W' : World} {P : Nat → Prop} {b g : Nat} {l : List S38} {kp : Int} (h : Wk w0 P W b g l kp) (hb : Below W.heap.size W W') : Wk w0 P W' b g l kp := by
  obtain ⟨cs, hc, hs⟩ := h.blk
  have hbg := hb.block g (Array.getElem?_eq_some_iff.1 hc).1
  have hce : ∀ o, W'.cell? ⟨g, o, none⟩ = W.cell? ⟨g, o, none⟩ := fun o => by rw [blk_cell (hbg.trans hc) o, blk_cell hc o]
  refine ⟨(hb.block b (Array.getElem?_eq_some_iff.1 h.box).1).trans h.box, ⟨cs, hbg.trans hc, hs⟩, fun i hi => ?_, h.low.trans (hb.mono h.low.size), h.hb, h.hg⟩
  obtain ⟨a, b', c, A, cc, d, e1, e2⟩ := h.row i hi
  exact ⟨(hce _).trans a, (hce _).trans b', (hce _).trans c, A, cc, (hce _).trans d, e1, e2⟩
end Go.Proofs.Ytflndiikeoflfaa.P
end
section
namespace Go.Proofs.Ytflndiikeoflfaa.P
open Go.RowKit Go.Proofs.YtflndiikeoflfaaW.PrintWords Go.Proofs.YtflndiikeoflfaaW.PrintLast Go.Proofs.YtflndiikeoflfaaW.PrintMore
set_option linter.unusedVariables false
set_option linter.unusedSimpArgs false
def foldO (f : List S38 → Int → Option (List S38)) : List S46 → List S38 → Option (List S38)
  | [], l => some l
  | x :: xs, l => (f l x.f1).bind fun l' => foldO f xs l'
def eachP (f : List S38 → Int → Option (List S38)) (leaf : Bool) (it : List S46) (l : List S38) : Option (List S38) := if leaf = true then some l else if it.length < 1000000 then foldO f it l else none
set_option maxHeartbeats 4000000 in
set_option maxRecDepth 100000 in
theorem each82 (w0 : World) (P : Nat → Prop) (W0 : World) (b g : Nat) (kp : Int) (f : List S38 → Int → Option (List S38))
    (hdo : ∀ (W : World) (l l' : List S38) (p : Int), Wk w0 P W b g l kp → KeepBut W0 W g none → f l p = some l' →
      Calls Try.prog 30 #[.pointer (some ⟨b, 0, none⟩), .int .i64 p] W fun e W' => (∃ v, e = .returned v) ∧ Wk w0 P W' b g l' kp ∧ KeepBut W W' g none)
    (leaf : Bool) (A : Option Addr) (c : Nat) (it : List S46) (l l' : List S38) (hn : Wk w0 P W0 b g l kp) (hit : Kd.C k46 w0 A it.length it) (hf : eachP f leaf it l = some l') :
    Calls Try.prog 42 #[.pointer (some ⟨b, 0, none⟩), .agg #[.bool leaf, .slice A it.length c], .func (.func 30) #[.pointer (some ⟨b, 0, none⟩)] #[]] W0 fun e W' => (∃ v, e = .returned v) ∧ Wk w0 P W' b g l' kp ∧ KeepBut W0 W' g none := by
  have HN := Aside0.mk hn
  have HI := Aside0.mk hit
  have HF := Aside0.mk hf
  have HDO := Aside0.mk hdo
  have hu36 := Try.underlying36
  have hu46 := Try.underlying46
  clear hn hit hf hdo
  cases leaf with
  | true =>
    go_enter Try.func42, Try.ntmps42
    go_wp2
    refine bodyPost_ret (results_none rfl _ _ _) rfl ?_
    have e : l = l' := by exact Option.some.inj HF.out
    subst e
    exact ⟨⟨_, rfl⟩, HN.out.below ((Below.refl _ _).alloc (Nat.le_refl _) _), keep_alloc (KeepBut.refl _ _ _) _⟩
  | false =>
    have hlen : it.length < 1000000 := by
      have := HF.out
      unfold eachP at this
      rw [if_neg (by simp)] at this
      by_cases hc : it.length < 1000000
      · exact hc
      · rw [if_neg hc] at this; cases this
    have HG := Aside0.mk (show foldO f it l = some l' by have := HF.out; unfold eachP at this; rwa [if_neg (by simp), if_pos hlen] at this)
    have HSZ := Aside0.mk HN.out.hg
    clear HF
    go_enter Try.func42, Try.ntmps42
    go_wp2
    go_loopg [13] it.length (fun kx s wr => ∃ (j : Nat) (lj : List S38), s = .int .i64 j ∧ j ≤ it.length ∧ it.length - j ≤ kx ∧ Aside0 (Wk w0 P wr b g lj kp) ∧ Aside0 (KeepBut W0 wr g none) ∧ Aside0 (foldO f (it.drop j) lj = some l'))
    case atStart => exact ⟨0, l, rfl, Nat.zero_le _, by omega, ⟨HN.out.below ((Below.refl _ _).alloc (Nat.le_refl _) _)⟩, ⟨keep_alloc (KeepBut.refl _ _ _) _⟩, ⟨by rw [List.drop_zero]; exact HG.out⟩⟩
    case round =>
      obtain ⟨j, lj, rfl, hj, hgg, HWr, HKr, HFr⟩ := hrel
      by_cases hlt : j < it.length
      · obtain ⟨ad, rfl, x0, x1⟩ := at_T46 (Kd.C_below HI.out HWr.out.low) (j : Int) (by omega) (by omega)
        obtain ⟨-, hd⟩ := rd49_mem hlt
        rw [Int.toNat_natCast] at x0 x1
        have hfd := HFr.out
        rw [hd] at hfd
        generalize rd_T46 it (j : Nat) = x at *
        simp only [foldO] at hfd
        obtain ⟨l2, h2, h3⟩ := Option.bind_eq_some_iff.1 hfd
        have H2 := Aside0.mk h2
        have H3 := Aside0.mk h3
        have p1 : (0 : Int) ≤ j := by omega
        have q1 : (j : Int) < it.length := by omega
        have hbl : Below wr.heap.size wr (wr.alloc (.cells #[.int .i64 x.f0, .int .i64 x.f1] 46)) := (Below.refl _ wr).alloc (Nat.le_refl _) _
        have HC := Aside0.mk (HDO.out _ lj l2 x.f1 (HWr.out.below hbl) (HKr.out.trans (KeepBut.of_below hbl g none) (.inl rfl)) h2)
        have HK2 := Aside0.mk (HKr.out.trans (KeepBut.of_below hbl g none) (.inl rfl))
        clear hfd h2 h3 hd HFr hbl
        go_wp2_with fail
        refine HC.out.mono ?_
        rintro e w' ⟨⟨v, rfl⟩, hw, hk⟩
        have HW2 := Aside0.mk hw
        have HK3 := Aside0.mk (HK2.out.trans hk (.inl rfl))
        clear hw hk
        go_wp2
        go_roundg (it.length - (j + 1))
        case measure => omega
        case rel => exact ⟨j + 1, l2, by simp, by omega, Nat.le_refl _, HW2, HK3, H3⟩
      · obtain rfl : j = it.length := by omega
        have e : lj = l' := by have := HFr.out; rw [List.drop_length] at this; exact Option.some.inj this
        subst e
        go_wp2
        go_end0
        exact ⟨⟨_, rfl⟩, HWr.out, HKr.out⟩
theorem Wk.clear4 {w0 W : World} {P : Nat → Prop} {b g : Nat} {l : List S38} {kp : Int} (h : Wk w0 P W b g l kp) {i : Nat} (hi : i < l.length) (r : Int) :
    Wk w0 P ((((W.setCell ⟨g, i * 4, none⟩ (.int .i64 r)).setCell ⟨g, i * 4 + 2, none⟩ (.bool false)).setCell ⟨g, i * 4 + 2 + 1, none⟩ (.slice none 0 0)).setCell ⟨g, i * 4 + 1, none⟩ (.bool true)) b g (l.set i ⟨r, true, ⟨false, []⟩⟩) kp := by
  have h1 := Wk.setRef h hi r
  have h2 := Wk.setLeaf h1 (by rw [List.length_set]; exact hi) false
  rw [rd_set hi, if_pos rfl, List.set_set] at h2
  have h3 := Wk.setIt h2 (by rw [List.length_set]; exact hi) [] none 0 0 rfl (Nat.le_refl _) (Kd.F_nil k46 w0 P)
  rw [rd_set hi, if_pos rfl, List.set_set] at h3
  have h4 := Wk.setPin h3 (by rw [List.length_set]; exact hi) true
  rw [rd_set hi, if_pos rfl, List.set_set] at h4
  exact h4
def looseP : Nat → List S38 → Int → Option (List S38)
  | 0, _, _ => none
  | k + 1, l, p =>
    if 0 ≤ p ∧ p < (l.length : Int) ∧ l.length < 1000000 ∧ -1000000000 < (rd_T38 l p).f0 ∧ (rd_T38 l p).f0 < 1000000000 then
      (if (rd_T38 l p).f0 = 0 then some l else
        if 0 < (rd_T38 l p).f0 - 1 then some (l.set p.toNat ⟨(rd_T38 l p).f0 - 1, (rd_T38 l p).f1, (rd_T38 l p).f2⟩) else
          eachP (looseP k) (rd_T38 l p).f2.f0 (rd_T38 l p).f2.f1 (l.set p.toNat ⟨(rd_T38 l p).f0 - 1, true, ⟨false, []⟩⟩))
    else none
set_option maxHeartbeats 4000000 in
set_option maxRecDepth 100000 in
theorem loose_walk (w0 : World) (P : Nat → Prop) (b g : Nat) (kp : Int) (k : Nat) : ∀ (W : World) (l l' : List S38) (p : Int), Wk w0 P W b g l kp → looseP k l p = some l' →
    Calls Try.prog 30 #[.pointer (some ⟨b, 0, none⟩), .int .i64 p] W fun e W' => (∃ v, e = .returned v) ∧ Wk w0 P W' b g l' kp ∧ KeepBut W W' g none := by
  induction k with
  | zero => intro W l l' p h hh; simp [looseP] at hh
  | succ k ih =>
  intro W l l' p h hh
  rw [looseP] at hh
  have hcond : 0 ≤ p ∧ p < (l.length : Int) ∧ l.length < 1000000 ∧ -1000000000 < (rd_T38 l p).f0 ∧ (rd_T38 l p).f0 < 1000000000 := by
    by_cases hc : 0 ≤ p ∧ p < (l.length : Int) ∧ l.length < 1000000 ∧ -1000000000 < (rd_T38 l p).f0 ∧ (rd_T38 l p).f0 < 1000000000
    · exact hc
    · rw [if_neg hc] at hh; cases hh
  rw [if_pos hcond] at hh
  obtain ⟨h0, h1, hs, hr⟩ := hcond
  obtain ⟨i, rfl⟩ : ∃ i : Nat, p = (i : Int) := ⟨p.toNat, by omega⟩
  have hi : i < l.length := by omega
  rw [Int.toNat_natCast] at hh
  obtain ⟨x0, x1, x2, A, c, x3, hl3, hi3⟩ := h.row i hi
  have b0 : W.cell? ⟨b, 0, none⟩ = some (.slice (some ⟨g, 0, none⟩) l.length l.length) := (blk_cell h.box 0).trans rfl
  obtain ⟨cs, hc, hcs⟩ := h.blk
  have f0 := blk_frozen hc (i * 4)
  have f1 := blk_frozen hc (i * 4 + 1)
  have f2 := blk_frozen hc (i * 4 + 2)
  have f3 := blk_frozen hc (i * 4 + 3)
  have hgl := (Array.getElem?_eq_some_iff.1 hc).1
  have H := Aside0.mk h
  have hu24 := Try.underlying24
  have hu38 := Try.underlying38
  have hu36 := Try.underlying36
  by_cases hz : (rd_T38 l (i : Nat)).f0 = 0
  · rw [if_pos hz] at hh
    have e := Option.some.inj hh
    subst e
    have hzb : ((rd_T38 l (i : Nat)).f0 == 0) = true := beq_iff_eq.2 hz
    generalize rd_T38 l (i : Nat) = x at *
    clear h hc hcs hh hl3 hi3 x1 x2 x3 hz
    go_enter Try.func30, Try.ntmps30
    go_wp2
    refine bodyPost_ret (results_none rfl _ _ _) rfl ?_
    exact ⟨⟨_, rfl⟩, H.out, KeepBut.refl _ _ _⟩
  rw [if_neg hz] at hh
  have hzb : ((rd_T38 l (i : Nat)).f0 == 0) = false := beq_eq_false_iff_ne.2 hz
  by_cases hp : 0 < (rd_T38 l (i : Nat)).f0 - 1
  · rw [if_pos hp] at hh
    have HL := Aside0.mk (Option.some.inj hh)
    have HS := Aside0.mk (Wk.setRef h hi ((rd_T38 l (i : Nat)).f0 - 1))
    have hpb : decide (0 < (rd_T38 l (i : Nat)).f0 - 1) = true := decide_eq_true hp
    have hq : 1 < (rd_T38 l (i : Nat)).f0 := by omega
    have hqb : decide (1 < (rd_T38 l (i : Nat)).f0) = true := decide_eq_true hq
    generalize rd_T38 l (i : Nat) = x at *
    clear h hcs hh hl3 hi3 x1 x2 x3 hz hp
    have y0 : (W.setCell ⟨g, i * 4, none⟩ (.int .i64 (x.f0 - 1))).cell? ⟨g, i * 4, none⟩ = some (.int .i64 (x.f0 - 1)) := by
      have := HS.out.row i (by rw [List.length_set]; exact hi)
      rw [rd_set hi, if_pos rfl] at this
      exact this.1
    clear hc
    go_enter Try.func30, Try.ntmps30
    go_wp2
    refine bodyPost_ret (results_none rfl _ _ _) rfl ?_
    exact ⟨⟨_, rfl⟩, by rw [← HL.out]; exact HS.out, (KeepBut.refl _ _ _).set_ _ _⟩
  · rw [if_neg hp] at hh
    have HL := Aside0.mk hh
    have hqb : decide (1 < (rd_T38 l (i : Nat)).f0) = false := decide_eq_false (by omega)
    have hq1 : (rd_T38 l (i : Nat)).f0 ≤ 1 := by omega
    have HI3 := Aside0.mk hi3
    have HL3 := Aside0.mk hl3
    have HS := Aside0.mk (Wk.clear4 h hi ((rd_T38 l (i : Nat)).f0 - 1))
    have HIH := Aside0.mk ih
    generalize hx : rd_T38 l (i : Nat) = x at *
    have HX := Aside0.mk hx
    clear h hcs hh hl3 hi3 hz hp hc ih hx
    go_enter Try.func30, Try.ntmps30
    go_wp2_with fail
    refine (each82 w0 P _ b g kp (looseP k) (fun W2 l2 l3 p2 hw2 hk2 hf2 => HIH.out W2 l2 l3 p2 hw2 hf2) x.f2.f0 A c x.f2.f1 _ l' (HS.out.below ((Below.refl _ _).alloc (Nat.le_refl _) _)) (Kd.F_now HI3.out) HL.out).mono ?_
    rintro e W3 ⟨⟨v, rfl⟩, hw3, hk3⟩
    have HW3 := Aside0.mk hw3
    have HK3 := Aside0.mk ((keep_alloc (((((KeepBut.refl W g none).set_ (i * 4) (.int .i64 (x.f0 - 1))).set_ (i * 4 + 2) (.bool false)).set_ (i * 4 + 2 + 1) (.slice none 0 0)).set_ (i * 4 + 1) (.bool true)) (.cells #[.bool x.f2.f0, .slice A x.f2.f1.length c] 36)).trans hk3 (.inl rfl))
    clear hw3 hk3
    go_wp2
    go_end0
    exact ⟨⟨_, rfl⟩, HW3.out, HK3.out⟩
end Go.Proofs.Ytflndiikeoflfaa.P
end
section
namespace Go.Proofs.Ytflndiikeoflfaa.P
open Go.RowKit Go.Proofs.YtflndiikeoflfaaW.PrintWords Go.Proofs.YtflndiikeoflfaaW.PrintLast Go.Proofs.YtflndiikeoflfaaW.PrintMore
set_option linter.unusedVariables false
set_option linter.unusedSimpArgs false
theorem info38 : (Try.prog.info? 38).map (fun i => (i.zero, i.size, i.bytes)) = some (some (.agg #[(.int .i64 0), (.bool false), (.bool false), (.slice none 0 0)]), 4, 48) := by kernel_rfl
theorem run_copy_all {P : Program} (w : World) (dT sT ty elem : TypeId) (g n c : Nat) (a : Addr) (size : Nat) (cur : Array Value) (t : TypeId) (cs : List Value)
    (hu : P.underlying dT = some (.slice elem)) (hs : (P.info? elem).map (·.size) = some size)
    (hg : w.heap[g]? = some (.cells cur t (0, 0))) (hn : cs.length = n * size)
    (hsrc : ∀ j v, cs[j]? = some v → w.cell? (a.add j) = some v) (hfit : cs.length = cur.size) (h1 : ∀ v ∈ cs, v.oneCell' = true) :
    (Builtin.copy_ #[dT, sT] ty #[.slice (some ⟨g, 0, none⟩) n n, .slice (some a) n c]).run P w =
      .ok (goInt n) (w.setRow g cs.toArray) := by
  have hl := run_loadCells_list (P := P) w a cs hsrc
  have hst := run_storeCells_at P g 0 t cs 0 cur w hg (by omega) h1
  rw [show cur.toList.take (0 + 0) ++ cs ++ cur.toList.drop (0 + 0 + cs.length) = cs by
    rw [List.drop_eq_nil_of_le (by simp; omega)]; simp] at hst
  cases hq : P.info? elem with
  | none => simp [hq] at hs
  | some i =>
    have hi : i.size = size := by simpa [hq] using hs
    simp [Builtin.copy_, run_underlying hu, Builtin.lenOf, Builtin.firstCells, sizeOf, typeInfo, hq, hi, ← hn, hl, hst]
theorem alloc_new (W : World) (o : Obj) : (W.alloc o).heap[W.heap.size]? = some o := by
  show (W.heap.push o)[W.heap.size]? = some o
  simp
theorem add_g (g k : Nat) : (⟨g, 0, none⟩ : Addr).add k = ⟨g, k, none⟩ := by unfold Addr.add; split <;> simp_all
theorem src_cells {w : World} {P : Nat → Prop} {ad : Addr} {l : List S38} (hC : Kd.F k38 w P (some ad) l.length l) : ∃ cs : List Value, cs.length = l.length * 4 ∧ (∀ j v, cs[j]? = some v → w.cell? (ad.add j) = some v) ∧ (∀ v ∈ cs, v.oneCell' = true) ∧
    ∀ i : Nat, i < l.length → ∃ A c, cs[i * 4]? = some (.int .i64 (rd_T38 l (i : Nat)).f0) ∧ cs[i * 4 + 1]? = some (.bool (rd_T38 l (i : Nat)).f1) ∧ cs[i * 4 + 2]? = some (.bool (rd_T38 l (i : Nat)).f2.f0) ∧ cs[i * 4 + 3]? = some (.slice A (rd_T38 l (i : Nat)).f2.f1.length c) ∧ (rd_T38 l (i : Nat)).f2.f1.length ≤ c ∧ Kd.F k46 w P A (rd_T38 l (i : Nat)).f2.f1.length (rd_T38 l (i : Nat)).f2.f1 := by
  have cell : ∀ i : Nat, i < l.length → ∃ A c, w.cell? (ad.add (i * 4)) = some (.int .i64 (rd_T38 l (i : Nat)).f0) ∧ w.cell? (ad.add (i * 4 + 1)) = some (.bool (rd_T38 l (i : Nat)).f1) ∧ w.cell? (ad.add (i * 4 + 2)) = some (.bool (rd_T38 l (i : Nat)).f2.f0) ∧ w.cell? (ad.add (i * 4 + 3)) = some (.slice A (rd_T38 l (i : Nat)).f2.f1.length c) ∧ (rd_T38 l (i : Nat)).f2.f1.length ≤ c ∧ Kd.F k46 w P A (rd_T38 l (i : Nat)).f2.f1.length (rd_T38 l (i : Nat)).f2.f1 := by
    intro i hi
    have hg := Kd.F_get hC z38 (i : Int) (by omega) (by omega)
    obtain ⟨ad', c, e, _, hK, hc0, _⟩ := hg
    obtain rfl : ad = ad' := by injection e
    obtain ⟨A3, c3, rfl, l3, g3⟩ := k38_openF hK
    rw [Int.toNat_natCast] at hc0
    have hc : ∀ j u, [Value.int .i64 (rd_T38 l (i : Nat)).f0, .bool (rd_T38 l (i : Nat)).f1, .bool (rd_T38 l (i : Nat)).f2.f0, .slice A3 (rd_T38 l (i : Nat)).f2.f1.length c3][j]? = some u → w.cell? (ad.add (i * 4 + j)) = some u := hc0
    exact ⟨A3, c3, hc 0 _ rfl, hc 1 _ rfl, hc 2 _ rfl, hc 3 _ rfl, l3, g3⟩
  refine ⟨(List.range (l.length * 4)).map fun j => (w.cell? (ad.add j)).getD undef, by simp, fun j v hj => ?_, fun v hv => ?_, fun i hi => ?_⟩
  · rw [List.getElem?_map] at hj
    obtain ⟨j', hj', rfl⟩ := Option.map_eq_some_iff.1 hj
    obtain ⟨hlt, rfl⟩ := List.getElem?_eq_some_iff.1 hj'
    rw [List.length_range] at hlt
    rw [List.getElem_range] at *
    obtain ⟨A, c, a0, a1, a2, a3, _, _⟩ := cell (j / 4) (by omega)
    have hm : j % 4 = 0 ∨ j % 4 = 1 ∨ j % 4 = 2 ∨ j % 4 = 3 := by omega
    rcases hm with h | h | h | h
    · rw [show j = j / 4 * 4 by omega, a0]; rfl
    · rw [show j = j / 4 * 4 + 1 by omega, a1]; rfl
    · rw [show j = j / 4 * 4 + 2 by omega, a2]; rfl
    · rw [show j = j / 4 * 4 + 3 by omega, a3]; rfl
  · obtain ⟨j, hj, rfl⟩ := List.mem_map.1 hv
    rw [List.mem_range] at hj
    obtain ⟨A, c, a0, a1, a2, a3, _, _⟩ := cell (j / 4) (by omega)
    have hm : j % 4 = 0 ∨ j % 4 = 1 ∨ j % 4 = 2 ∨ j % 4 = 3 := by omega
    rcases hm with h | h | h | h
    · rw [show j = j / 4 * 4 by omega, a0]; rfl
    · rw [show j = j / 4 * 4 + 1 by omega, a1]; rfl
    · rw [show j = j / 4 * 4 + 2 by omega, a2]; rfl
    · rw [show j = j / 4 * 4 + 3 by omega, a3]; rfl
  · obtain ⟨A, c, a0, a1, a2, a3, b0, b1⟩ := cell i hi
    have at_ : ∀ j, j < l.length * 4 → ((List.range (l.length * 4)).map fun j => (w.cell? (ad.add j)).getD undef)[j]? = some ((w.cell? (ad.add j)).getD undef) := fun j hj => by
      rw [List.getElem?_map, List.getElem?_range hj]; rfl
    refine ⟨A, c, ?_, ?_, ?_, ?_, b0, b1⟩
    · rw [at_ _ (by omega), a0]; rfl
    · rw [at_ _ (by omega), a1]; rfl
    · rw [at_ _ (by omega), a2]; rfl
    · rw [at_ _ (by omega), a3]; rfl
set_option maxHeartbeats 4000000 in
set_option maxRecDepth 100000 in
theorem own_walk (P : Nat → Prop) (A : Option Addr) (c : Nat) (l : List S38) (kp : Int) (w : World) (hr : Kd.F k38 w P A l.length l) (h0 : 0 < l.length) (hl : l.length < 1000000) :
    Calls Try.prog 41 #[.agg #[.slice A l.length c, .int .i64 kp]] w fun e w' => ∃ b g, e = .returned (.pointer (some ⟨b, 0, none⟩)) ∧ Wk w P w' b g l kp ∧ Below w.heap.size w w' := by
  obtain ⟨ad, A3, c3, rfl, -⟩ := at_T38 (Kd.F_now hr) 0 (by omega) (by omega)
  obtain ⟨cs, hlen, hcs, hone, hat⟩ := src_cells hr
  obtain ⟨i0, hi, hz0, hz1, hz2⟩ := info_parts info38
  have hmk : ∀ W : World, (Instr.makeSlice 22 (.int .i64 (l.length : Int)) (.int .i64 (l.length : Int))).run Try.prog W = .ok (.slice (some ⟨W.heap.size, 0, none⟩) l.length l.length) (W.alloc (.cells (madeCells (Value.agg #[.int .i64 0, .bool false, .bool false, .slice none 0 0]).cells (l.length * 4)) 38)) := fun W => by
    have := run_make (P := Try.prog) W 22 38 i0 _ Try.underlying22 hi hz0 .i64 .i64 (l.length : Int) (l.length : Int) (by omega) (Int.le_refl _) (by rw [hz2]; omega) (by omega)
    rw [hz1, Int.toNat_natCast] at this
    exact this
  obtain ⟨Z, hZ⟩ : ∃ Z, madeCells (Value.agg #[.int .i64 0, .bool false, .bool false, .slice none 0 0]).cells (l.length * 4) = Z := ⟨_, rfl⟩
  have hZs : Z.size = l.length * 4 := by rw [← hZ]; simp [madeCells]
  rw [hZ] at hmk
  obtain ⟨W2, hW2⟩ : ∃ W2, (w.alloc (.cells #[.slice (some ad) l.length c, .int .i64 kp] 24)).alloc (.cells Z 38) = W2 := ⟨_, rfl⟩
  have hb2 : Below w.heap.size w W2 := by rw [← hW2]; exact ((Below.refl _ w).alloc (Nat.le_refl _) _).alloc (by simp) _
  have hg2 : W2.heap[w.heap.size + 1]? = some (.cells Z 38 (0, 0)) := by
    rw [← hW2]
    have := alloc_new (w.alloc (.cells #[.slice (some ad) l.length c, .int .i64 kp] 24)) (.cells Z 38)
    rwa [World.size_alloc] at this
  have hs2 : W2.heap.size = w.heap.size + 2 := by rw [← hW2]; simp
  have hx2 : W2.heap[w.heap.size]? = some (.cells #[.slice (some ad) l.length c, .int .i64 kp] 24 (0, 0)) := by rw [← hW2]; exact blk_alloc (alloc_new w _) _
  have hcp0 := run_copy_all (P := Try.prog) W2 22 22 3 38 (w.heap.size + 1) l.length c ad 4 Z 38 cs Try.underlying22 (by rw [hi]; simp [hz1]) hg2 hlen (fun j v hj => hb2.cell (World.block_lt_of_cell? w _ (hcs j v hj)) |>.trans (hcs j v hj)) (by omega) hone
  obtain ⟨W3, hW3⟩ : ∃ W3, W2.setRow (w.heap.size + 1) cs.toArray = W3 := ⟨_, rfl⟩
  rw [hW3] at hcp0
  have hg3 : W3.heap[w.heap.size + 1]? = some (.cells cs.toArray 38 (0, 0)) := by rw [← hW3]; exact setRow_heap W2 (w.heap.size + 1) Z _ 38 _ hg2
  have hx3 : W3.heap[w.heap.size]? = some (.cells #[.slice (some ad) l.length c, .int .i64 kp] 24 (0, 0)) := by rw [← hW3, setRow_other W2 _ _ _ (by omega)]; exact hx2
  have hs3 : W3.heap.size = w.heap.size + 2 := by rw [← hW3, ← hs2]; simp [World.setRow]
  have hb3 : Below w.heap.size w W3 := by rw [← hW3]; exact below_setRow hb2 (by omega) _
  have c0 : W3.cell? ⟨w.heap.size, 0, none⟩ = some (.slice (some ad) l.length c) := (blk_cell hx3 0).trans rfl
  have c1 : W3.cell? ⟨w.heap.size, 1, none⟩ = some (.int .i64 kp) := (blk_cell hx3 1).trans rfl
  have HW : Aside0 (Wk w P (W3.alloc (.cells #[.slice (some ⟨w.heap.size + 1, 0, none⟩) l.length l.length, .int .i64 kp] 82)) W3.heap.size (w.heap.size + 1) l kp) := by
    refine ⟨alloc_new W3 _, ⟨cs.toArray, blk_alloc hg3 _, by simpa using hlen⟩, fun i hi => ?_, hb3.alloc (by omega) _, by omega, by omega⟩
    obtain ⟨A, cc, a0, a1, a2, a3, d0, d1⟩ := hat i hi
    have cell : ∀ o v, cs[o]? = some v → (W3.alloc (.cells #[.slice (some ⟨w.heap.size + 1, 0, none⟩) l.length l.length, .int .i64 kp] 82)).cell? ⟨w.heap.size + 1, o, none⟩ = some v := fun o v ho => by
      rw [blk_cell (blk_alloc hg3 _) o]
      simpa using ho
    exact ⟨cell _ _ a0, cell _ _ a1, cell _ _ a2, A, cc, cell _ _ a3, d0, d1⟩
  have HB3 := Aside0.mk hb3
  have HS3 := Aside0.mk hs3
  have hcp : (Builtin.copy_ #[22, 22] 3 #[.slice (some ⟨w.heap.size + 1, 0, none⟩) l.length l.length, .slice (some ad) l.length c]).run Try.prog ((w.alloc (.cells #[.slice (some ad) l.length c, .int .i64 kp] 24)).alloc (.cells Z 38)) = .ok (goInt l.length) W3 := by rw [hW2]; exact hcp0
  clear hr hZ hZs hW2 hb2 hg2 hs2 hx2 hcp0 hW3 hg3 hx3 hs3 hb3 hat hcs hone hi hz0 hz1 hz2 hlen
  have hu24 := Try.underlying24
  go_enter Try.func41, Try.ntmps41
  go_wp2
  go_ret
  exact ⟨_, _, rfl, HW.out, HB3.out.alloc (by have := HS3.out; omega) _⟩
end Go.Proofs.Ytflndiikeoflfaa.P
end
section
namespace Go.Proofs.Ytflndiikeoflfaa.P
open Go.RowKit Go.Proofs.YtflndiikeoflfaaW.PrintWords Go.Proofs.YtflndiikeoflfaaW.PrintLast Go.Proofs.YtflndiikeoflfaaW.PrintMore
attribute [local go_sem] max2_int min2_int max_two min_two max_three min_three max_four min_four
set_option linter.unusedVariables false
set_option linter.unusedSimpArgs false
def heap_isUsed.f (l0_0 : List (S38)) (a0_1 : Int) (a1 : Int) : Option (Bool) := if a1 ≥ 0 then (if a1 < (l0_0.length : Int) then (if 0 ≤ a1 then (some (decide (((rd_T38 l0_0 a1).f0) > 0))) else (none)) else (some false)) else (some false)
set_option maxHeartbeats 8000000 in
set_option maxRecDepth 100000 in
theorem heap_isUsed.calls (A0_0 : Option Addr) (c0_0 : Nat) (l0_0 : List (S38)) (a0_1 : Int) (a1 : Int) (r : Bool) (w : World) (hr0_0 : Kd.C k38 w A0_0 l0_0.length l0_0) (hc0_0 : l0_0.length ≤ c0_0) (h : heap_isUsed.f l0_0 a0_1 a1 = some r) :
  Calls Try.prog 40 #[.agg #[.slice A0_0 l0_0.length c0_0, .int .i64 a0_1], .int .i64 a1] w fun e w' => e = .returned (.bool r) ∧ Below w.heap.size w w' := by
 have hu24 := Try.underlying24
 have HR0_0 := Aside0.mk hr0_0
 have HC0_0 := Aside0.mk hc0_0
 clear hr0_0 hc0_0
 have HB := Aside0.mk (Below.refl w.heap.size w)
 have H : (if a1 ≥ 0 then (if a1 < (l0_0.length : Int) then (if 0 ≤ a1 then (some (decide (((rd_T38 l0_0 a1).f0) > 0))) else (none)) else (some false)) else (some false)) = some r := h
 clear h
 by_cases c3 : a1 ≥ 0
 ·rw [if_pos c3] at H
  have c3b0 : decide (0 ≤ a1) = true := decide_eq_true c3
  clear c3
  by_cases c4 : a1 < (l0_0.length : Int)
  ·rw [if_pos c4] at H
   have c4b0 : decide (a1 < (l0_0.length : Int)) = true := decide_eq_true c4
   clear c4
   by_cases c5 : 0 ≤ a1
   ·rw [if_pos c5] at H
    have c5b0 : decide (0 ≤ a1) = true := decide_eq_true c5
    clear c5
    obtain rfl := Option.some.inj H
    go_enter Try.func40, Try.ntmps40
    go_wp2_with (first | ((with_reducible refine gate_dst (N := 2) rfl ?_); (try (refine gate_guard (by rfl) ?_; dsimp only)); refine box_event ?hg (N := 2) ?hd (cs := #[.slice A0_0 l0_0.length c0_0, .int .i64 a0_1]) (t := 24) ?hr ?_; (case hd => rfl); (case hg => rfl); (case hr => first | (go_simp; done) | (go_simp; rfl)); intro gb107 hg w6 hbox hb; have n0_ := Aside0.mk (below_step (by repeat (first | (with_reducible first | exact HB.out | apply below_alloc | apply pw_below_drewN | apply below_drew1) | exact HB.out)) hb); have n1_ := Aside0.mk (hbox); have n2_ := Aside0.mk ((by rw [hg]; exact (below_size (by repeat (first | (with_reducible first | exact HB.out | apply below_alloc | apply pw_below_drewN | apply below_drew1) | exact HB.out))) : w.heap.size ≤ gb107)); have n3_ := Aside0.mk ((by rw [hg]; exact (below_size (by repeat (first | (with_reducible first | exact HB.out | apply below_alloc | apply pw_below_drewN | apply below_drew1) | exact HB.out))) : w.heap.size ≤ gb107)); clear HB; have HB := n0_; have BK107 := n1_; have GW107 := n2_; have GE107 := n3_; clear n0_ n1_ n2_ n3_; clear hb hbox hg; have hcz7_0 : w6.cell? ⟨gb107, 0, none⟩ = some (.slice A0_0 l0_0.length c0_0) := (blk_cell BK107.out 0).trans rfl; have hcz7_1 : w6.cell? ⟨gb107, 1, none⟩ = some (.int .i64 a0_1) := (blk_cell BK107.out 1).trans rfl; have hfz7_0 := blk_frozen BK107.out 0; have hfz7_1 := blk_frozen BK107.out 1; have p108 : 0 ≤ (a1 : Int) := of_decide_eq_true (by first | (with_reducible assumption) | assumption); have q108 : a1 < (l0_0.length : Int) := of_decide_eq_true (by first | (with_reducible assumption) | assumption); obtain ⟨ad108, A108_3, c108_3, e108, hx108_0, hx108_1, hx108_2, hx108_3, hl108_3, hi108_3⟩ := at_T38 HR0_0.out a1 p108 q108; cases e108; replace hx108_0 := (HB.out.cell (World.block_lt_of_cell? w _ hx108_0)).trans hx108_0; replace hx108_1 := (HB.out.cell (World.block_lt_of_cell? w _ hx108_1)).trans hx108_1; replace hx108_2 := (HB.out.cell (World.block_lt_of_cell? w _ hx108_2)).trans hx108_2; replace hx108_3 := (HB.out.cell (World.block_lt_of_cell? w _ hx108_3)).trans hx108_3; have HR108_3 := Aside0.mk hi108_3; have HC108_3 := Aside0.mk hl108_3; clear hi108_3 hl108_3; replace p108 := eq_true p108; replace q108 := eq_true q108))
    go_ret
    exact ⟨by first | rfl | (simp [errW_none, errW_some] <;> rfl) | (simp [*, errW_none, errW_some] <;> rfl), by repeat (first | (with_reducible first | exact HB.out | apply below_alloc | apply pw_below_drewN | apply below_drew1 | refine below_set ?_ GE107.out) | exact HB.out)⟩
   ·rw [if_neg c5] at H
    exact absurd H (by simp)
  ·rw [if_neg c4] at H
   have c4b0 : decide (a1 < (l0_0.length : Int)) = false := decide_eq_false c4
   clear c4
   obtain rfl := Option.some.inj H
   go_enter Try.func40, Try.ntmps40
   go_wp2_with (first | ((with_reducible refine gate_dst (N := 2) rfl ?_); (try (refine gate_guard (by rfl) ?_; dsimp only)); refine box_event ?hg (N := 2) ?hd (cs := #[.slice A0_0 l0_0.length c0_0, .int .i64 a0_1]) (t := 24) ?hr ?_; (case hd => rfl); (case hg => rfl); (case hr => first | (go_simp; done) | (go_simp; rfl)); intro gb107 hg w8 hbox hb; have n0_ := Aside0.mk (below_step (by repeat (first | (with_reducible first | exact HB.out | apply below_alloc | apply pw_below_drewN | apply below_drew1) | exact HB.out)) hb); have n1_ := Aside0.mk (hbox); have n2_ := Aside0.mk ((by rw [hg]; exact (below_size (by repeat (first | (with_reducible first | exact HB.out | apply below_alloc | apply pw_below_drewN | apply below_drew1) | exact HB.out))) : w.heap.size ≤ gb107)); have n3_ := Aside0.mk ((by rw [hg]; exact (below_size (by repeat (first | (with_reducible first | exact HB.out | apply below_alloc | apply pw_below_drewN | apply below_drew1) | exact HB.out))) : w.heap.size ≤ gb107)); clear HB; have HB := n0_; have BK107 := n1_; have GW107 := n2_; have GE107 := n3_; clear n0_ n1_ n2_ n3_; clear hb hbox hg; have hcz9_0 : w8.cell? ⟨gb107, 0, none⟩ = some (.slice A0_0 l0_0.length c0_0) := (blk_cell BK107.out 0).trans rfl; have hcz9_1 : w8.cell? ⟨gb107, 1, none⟩ = some (.int .i64 a0_1) := (blk_cell BK107.out 1).trans rfl; have hfz9_0 := blk_frozen BK107.out 0; have hfz9_1 := blk_frozen BK107.out 1))
   go_ret
   exact ⟨by first | rfl | (simp [errW_none, errW_some] <;> rfl) | (simp [*, errW_none, errW_some] <;> rfl), by repeat (first | (with_reducible first | exact HB.out | apply below_alloc | apply pw_below_drewN | apply below_drew1 | refine below_set ?_ GE107.out) | exact HB.out)⟩
 ·rw [if_neg c3] at H
  have c3b0 : decide (0 ≤ a1) = false := decide_eq_false c3
  clear c3
  obtain rfl := Option.some.inj H
  go_enter Try.func40, Try.ntmps40
  go_wp2_with (first | ((with_reducible refine gate_dst (N := 2) rfl ?_); (try (refine gate_guard (by rfl) ?_; dsimp only)); refine box_event ?hg (N := 2) ?hd (cs := #[.slice A0_0 l0_0.length c0_0, .int .i64 a0_1]) (t := 24) ?hr ?_; (case hd => rfl); (case hg => rfl); (case hr => first | (go_simp; done) | (go_simp; rfl)); intro gb107 hg w10 hbox hb; have n0_ := Aside0.mk (below_step (by repeat (first | (with_reducible first | exact HB.out | apply below_alloc | apply pw_below_drewN | apply below_drew1) | exact HB.out)) hb); have n1_ := Aside0.mk (hbox); have n2_ := Aside0.mk ((by rw [hg]; exact (below_size (by repeat (first | (with_reducible first | exact HB.out | apply below_alloc | apply pw_below_drewN | apply below_drew1) | exact HB.out))) : w.heap.size ≤ gb107)); have n3_ := Aside0.mk ((by rw [hg]; exact (below_size (by repeat (first | (with_reducible first | exact HB.out | apply below_alloc | apply pw_below_drewN | apply below_drew1) | exact HB.out))) : w.heap.size ≤ gb107)); clear HB; have HB := n0_; have BK107 := n1_; have GW107 := n2_; have GE107 := n3_; clear n0_ n1_ n2_ n3_; clear hb hbox hg))
  go_ret
  exact ⟨by first | rfl | (simp [errW_none, errW_some] <;> rfl) | (simp [*, errW_none, errW_some] <;> rfl), by repeat (first | (with_reducible first | exact HB.out | apply below_alloc | apply pw_below_drewN | apply below_drew1 | refine below_set ?_ GE107.out) | exact HB.out)⟩
end Go.Proofs.Ytflndiikeoflfaa.P
end
section
namespace Go.Proofs.Ytflndiikeoflfaa.P
open Go.RowKit Go.Proofs.YtflndiikeoflfaaW.PrintWords Go.Proofs.YtflndiikeoflfaaW.PrintLast Go.Proofs.YtflndiikeoflfaaW.PrintMore
set_option linter.unusedVariables false
set_option linter.unusedSimpArgs false
theorem Wk.C {w0 W : World} {P : Nat → Prop} {b g : Nat} {l : List S38} {kp : Int} (h : Wk w0 P W b g l kp) (hl : l.length < 1000000) : Kd.C k38 W (some ⟨g, 0, none⟩) l.length l := by
  refine ⟨rfl, by omega, fun hn => ⟨_, rfl, fun j x hj => ?_⟩⟩
  have hjl : j < l.length := (List.getElem?_eq_some_iff.1 hj).1
  obtain ⟨a, b', c, A, cc, d, e1, e2⟩ := h.row j hjl
  have e : rd_T38 l (j : Nat) = x := by
    simp only [rd_T38, Int.toNat_natCast, List.getD_eq_getElem?_getD, hj, Option.getD_some]
  rw [e] at a b' c d e1 e2
  refine ⟨_, rfl, k38_mk W x e1 (Kd.C_below (Kd.F_now e2) h.low), fun i u hu => ?_⟩
  rw [add_g]
  match i, hu with
  | 0, hu => simp at hu; subst hu; exact a
  | 1, hu => simp at hu; subst hu; exact b'
  | 2, hu => simp at hu; subst hu; exact c
  | 3, hu => simp at hu; subst hu; exact d
  | i + 4, hu => simp at hu
theorem Wk.V {w W : World} {P : Nat → Prop} {b g : Nat} {l : List S38} {kp : Int} (h : Wk w P W b g l kp) (hl : l.length < 1000000) (base : Nat) : Kd.V k38 38 W base (fun k => P k ∨ w.heap.size ≤ k) (.slice (some ⟨g, 0, none⟩) l.length l.length) l := by
  refine Kd.V_mk (Nat.le_refl _) (fun W' hW => ⟨rfl, by omega, fun hn => ⟨_, rfl, fun j x hj => ?_⟩⟩)
  have hjl : j < l.length := (List.getElem?_eq_some_iff.1 hj).1
  obtain ⟨a, b', c, A, cc, d, e1, e2⟩ := h.row j hjl
  obtain ⟨cs, hc, hs⟩ := h.blk
  have hgl := (Array.getElem?_eq_some_iff.1 hc).1
  have hg' : W'.heap[g]? = some (.cells cs 38 (0, 0)) := (hW g (.inr h.hg) hgl).trans hc
  have ce : ∀ o, W'.cell? ⟨g, o, none⟩ = W.cell? ⟨g, o, none⟩ := fun o => by rw [blk_cell hg' o, blk_cell hc o]
  have hi := e2 W' (fun k hk hlt => (hW k (.inl hk) (Nat.lt_of_lt_of_le hlt h.low.size)).trans (h.low.block k hlt))
  have e : rd_T38 l (j : Nat) = x := by
    simp only [rd_T38, Int.toNat_natCast, List.getD_eq_getElem?_getD, hj, Option.getD_some]
  rw [e] at a b' c d e1 hi
  refine ⟨_, rfl, k38_mk W' x e1 hi, fun i u hu => ?_⟩
  rw [add_g, ce]
  match i, hu with
  | 0, hu => simp at hu; subst hu; exact a
  | 1, hu => simp at hu; subst hu; exact b'
  | 2, hu => simp at hu; subst hu; exact c
  | 3, hu => simp at hu; subst hu; exact d
  | i + 4, hu => simp at hu
def usedB (l : List S38) (p : Int) : Bool := decide (0 ≤ p ∧ p < (l.length : Int) ∧ 0 < (rd_T38 l p).f0)
theorem isUsed_val (l : List S38) (kp p : Int) : heap_isUsed.f l kp p = some (usedB l p) := by
  unfold heap_isUsed.f usedB
  by_cases h0 : p ≥ 0
  · rw [if_pos h0]
    by_cases h1 : p < (l.length : Int)
    · rw [if_pos h1, if_pos h0]
      congr 1
      rw [decide_eq_decide]
      exact ⟨fun h => ⟨h0, h1, h⟩, fun h => h.2.2⟩
    · rw [if_neg h1, decide_eq_false (fun h => h1 h.2.1)]
  · rw [if_neg h0, decide_eq_false (fun h => h0 h.1)]
set_option maxHeartbeats 4000000 in
set_option maxRecDepth 100000 in
theorem changed82 (P : Nat → Prop) (k : Nat) (A : Option Addr) (c : Nat) (l l' : List S38) (kp p : Int) (w : World) (hr : Kd.F k38 w P A l.length l) (hl : l.length < 1000000) (hc : l.length ≤ c) (hu : usedB l p = true) (hf : looseP k l p = some l') (hl' : l'.length < 1000000) :
    Calls Try.prog 29 #[.agg #[.slice A l.length c, .int .i64 kp], .int .i64 p, .func (.func 30) #[] #[]] w fun e w' => ∃ v0_ : Value, e = .returned (.tuple #[.agg #[v0_, .int .i64 kp], .int .i64 0]) ∧ Kd.V k38 38 w' w.heap.size (fun k => P k ∨ w.heap.size ≤ k) v0_ l' ∧ Below w.heap.size w w' := by
  have h0 : 0 < l.length := by
    have := of_decide_eq_true hu
    omega
  obtain ⟨ad, A3, c3, rfl, -⟩ := at_T38 (Kd.F_now hr) 0 (by omega) (by omega)
  obtain ⟨wA, hwA⟩ : ∃ wA, (w.alloc (.cells #[.slice (some ad) l.length c, .int .i64 kp] 24)).alloc (.cells #[.slice none 0 0, .int .i64 0] 24) = wA := ⟨_, rfl⟩
  have hbA : Below w.heap.size w wA := by rw [← hwA]; exact ((Below.refl _ w).alloc (Nat.le_refl _) _).alloc (by simp) _
  have hsA : wA.heap.size = w.heap.size + 2 := by rw [← hwA]; simp
  have hxA : wA.heap[w.heap.size]? = some (.cells #[.slice (some ad) l.length c, .int .i64 kp] 24 (0, 0)) := by rw [← hwA]; exact blk_alloc (alloc_new w _) _
  have hyA : wA.heap[w.heap.size + 1]? = some (.cells #[.slice none 0 0, .int .i64 0] 24 (0, 0)) := by
    rw [← hwA]
    have := alloc_new (w.alloc (.cells #[.slice (some ad) l.length c, .int .i64 kp] 24)) (.cells #[.slice none 0 0, .int .i64 0] 24)
    rwa [World.size_alloc] at this
  obtain ⟨P', hP, hrA⟩ : ∃ P' : Nat → Prop, (∀ k, P' k → P k ∧ k < w.heap.size) ∧ Kd.F k38 wA P' (some ad) l.length l := ⟨_, fun _ h => h, Kd.F_below (Kd.F_bound hr) hbA⟩
  have HP := Aside0.mk hP
  have HBA := Aside0.mk hbA
  have HSA := Aside0.mk hsA
  have HXA := Aside0.mk hxA
  have HYA := Aside0.mk hyA
  have HRA := Aside0.mk hrA
  have HF := Aside0.mk hf
  have HU := Aside0.mk hu
  have HL' := Aside0.mk hl'
  have HCC := Aside0.mk hc
  have hu24 := Try.underlying24
  have a0 : wA.cell? ⟨w.heap.size, 0, none⟩ = some (.slice (some ad) l.length c) := (blk_cell hxA 0).trans rfl
  have a1 : wA.cell? ⟨w.heap.size, 1, none⟩ = some (.int .i64 kp) := (blk_cell hxA 1).trans rfl
  clear hr hbA hsA hxA hyA hrA hf hu hl' hc hP
  go_enter Try.func29, Try.ntmps29
  go_wp2_with fail
  clear hwA a0 a1
  refine (heap_isUsed.calls (some ad) _ l kp p true wA (Kd.F_now HRA.out) HCC.out (by rw [isUsed_val, HU.out])).mono ?_
  rintro e w1 ⟨rfl, hb1⟩
  have HB1 := Aside0.mk (HBA.out.trans (hb1.mono HBA.out.size))
  have HX1 := Aside0.mk (blk_below HXA.out hb1)
  have HY1 := Aside0.mk (blk_below HYA.out hb1)
  have HR1 := Aside0.mk (Kd.F_below HRA.out hb1)
  have HS1 : Aside0 (w.heap.size + 2 ≤ w1.heap.size) := ⟨by have := hb1.size; have := HSA.out; omega⟩
  have c0 : w1.cell? ⟨w.heap.size, 0, none⟩ = some (.slice (some ad) l.length c) := (blk_cell HX1.out 0).trans rfl
  have c1 : w1.cell? ⟨w.heap.size, 1, none⟩ = some (.int .i64 kp) := (blk_cell HX1.out 1).trans rfl
  clear hb1 HBA HXA HYA HRA HSA
  go_wp2_with fail
  refine (own_walk P' (some ad) c l kp w1 HR1.out h0 hl).mono ?_
  rintro e w2 ⟨b, g, rfl, hw, hb2⟩
  have HW2 := Aside0.mk hw
  have HB1' := Aside0.mk HB1.out
  have HB2 := Aside0.mk (HB1.out.trans (hb2.mono HB1.out.size))
  have HY2 := Aside0.mk (blk_below HY1.out hb2)
  clear hw hb2 HB1 HX1 HY1 HR1 c0 c1
  go_wp2_with fail
  refine (loose_walk w1 P' b g kp k w2 l l' p HW2.out HF.out).mono ?_
  rintro e w3 ⟨⟨v, rfl⟩, hw3, hk3⟩
  have HW3 := Aside0.mk hw3
  have HB3 : Aside0 (Below w.heap.size w w3) := ⟨hw3.low.mono (by have := HS1.out; omega) |> fun h => HB1'.out.trans h⟩
  have hgn : w.heap.size + 1 ≠ g := by have := HW2.out.hg; have := HS1.out; omega
  have hbn : w.heap.size + 1 ≠ b := by have := HW2.out.hb; have := HS1.out; omega
  have hy3 := hk3.blk HY2.out hgn (by simp)
  have HY3 := Aside0.mk hy3
  have f0 := blk_frozen hy3 0
  have f1 := blk_frozen hy3 1
  have y0 : w3.cell? ⟨w.heap.size + 1, 0, none⟩ = some (.slice none 0 0) := (blk_cell hy3 0).trans rfl
  have y1 : w3.cell? ⟨w.heap.size + 1, 1, none⟩ = some (.int .i64 0) := (blk_cell hy3 1).trans rfl
  have b0 : w3.cell? ⟨b, 0, none⟩ = some (.slice (some ⟨g, 0, none⟩) l'.length l'.length) := (blk_cell hw3.box 0).trans rfl
  have b1 : w3.cell? ⟨b, 1, none⟩ = some (.int .i64 kp) := (blk_cell hw3.box 1).trans rfl
  clear hw3 hk3 hy3 HY2
  go_wp2
  refine bodyPost_ret (results_ct rfl _ _ (w.heap.size + 1) 24 #[.slice (some ⟨g, 0, none⟩) l'.length l'.length, .int .i64 kp] (0, 0) _ rfl (blk_put (cs := #[.slice (some ⟨g, 0, none⟩) l'.length l'.length, .int .i64 0]) (blk_put (cs := #[.slice none 0 0, .int .i64 0]) HY3.out 0 _ rfl) 1 _ rfl) Try.underlying24 rfl (by kernel_rfl)) rfl ?_
  have hne : ∀ k, (P' k ∨ w1.heap.size ≤ k) → k ≠ w.heap.size + 1 := fun k hk => by
    have := HS1.out
    rcases hk with h | h
    · have := (HP.out k h).2; omega
    · omega
  refine ⟨_, rfl, ?_, below_set (below_set HB3.out (by omega)) (by omega)⟩
  refine Kd.V_mono (Kd.V_far (p := ⟨w.heap.size + 1, 1, none⟩) (Kd.V_far (p := ⟨w.heap.size + 1, 0, none⟩) (HW3.out.V HL'.out w.heap.size) hne _) hne _) fun k hk => ?_
  rcases hk with h | h
  · exact .inl (HP.out k h).1
  · exact .inr (by have := HS1.out; omega)
set_option maxHeartbeats 4000000 in
set_option maxRecDepth 100000 in
theorem changedNo82 (P : Nat → Prop) (A : Option Addr) (c : Nat) (l : List S38) (kp p : Int) (w : World) (hr : Kd.F k38 w P A l.length l) (hc : l.length ≤ c) (hu : usedB l p = false) :
    Calls Try.prog 29 #[.agg #[.slice A l.length c, .int .i64 kp], .int .i64 p, .func (.func 30) #[] #[]] w fun e w' => ∃ v0_ : Value, e = .returned (.tuple #[.agg #[v0_, .int .i64 kp], .int .i64 4]) ∧ Kd.V k38 38 w' w.heap.size (fun k => P k ∨ w.heap.size ≤ k) v0_ l ∧ Below w.heap.size w w' := by
  obtain ⟨wA, hwA⟩ : ∃ wA, (w.alloc (.cells #[.slice A l.length c, .int .i64 kp] 24)).alloc (.cells #[.slice none 0 0, .int .i64 0] 24) = wA := ⟨_, rfl⟩
  have hbA : Below w.heap.size w wA := by rw [← hwA]; exact ((Below.refl _ w).alloc (Nat.le_refl _) _).alloc (by simp) _
  have hsA : wA.heap.size = w.heap.size + 2 := by rw [← hwA]; simp
  have hxA : wA.heap[w.heap.size]? = some (.cells #[.slice A l.length c, .int .i64 kp] 24 (0, 0)) := by rw [← hwA]; exact blk_alloc (alloc_new w _) _
  have hyA : wA.heap[w.heap.size + 1]? = some (.cells #[.slice none 0 0, .int .i64 0] 24 (0, 0)) := by
    rw [← hwA]
    have := alloc_new (w.alloc (.cells #[.slice A l.length c, .int .i64 kp] 24)) (.cells #[.slice none 0 0, .int .i64 0] 24)
    rwa [World.size_alloc] at this
  obtain ⟨P', hP, hrA⟩ : ∃ P' : Nat → Prop, (∀ k, P' k → P k ∧ k < w.heap.size) ∧ Kd.F k38 wA P' A l.length l := ⟨_, fun _ h => h, Kd.F_below (Kd.F_bound hr) hbA⟩
  have HP := Aside0.mk hP
  have HBA := Aside0.mk hbA
  have HSA := Aside0.mk hsA
  have HXA := Aside0.mk hxA
  have HYA := Aside0.mk hyA
  have HRA := Aside0.mk hrA
  have HU := Aside0.mk hu
  have HCC := Aside0.mk hc
  have hu24 := Try.underlying24
  have a0 : wA.cell? ⟨w.heap.size, 0, none⟩ = some (.slice A l.length c) := (blk_cell hxA 0).trans rfl
  have a1 : wA.cell? ⟨w.heap.size, 1, none⟩ = some (.int .i64 kp) := (blk_cell hxA 1).trans rfl
  clear hr hbA hsA hxA hyA hrA hu hc hP
  go_enter Try.func29, Try.ntmps29
  go_wp2_with fail
  clear hwA a0 a1
  refine (heap_isUsed.calls A _ l kp p false wA (Kd.F_now HRA.out) HCC.out (by rw [isUsed_val, HU.out])).mono ?_
  rintro e w1 ⟨rfl, hb1⟩
  have hx1 := blk_below HXA.out hb1
  have hy1 := blk_below HYA.out hb1
  have HB1 := Aside0.mk (HBA.out.trans (hb1.mono HBA.out.size))
  have HY1 := Aside0.mk hy1
  have HR1 := Aside0.mk (Kd.F_below HRA.out hb1)
  have c0 : w1.cell? ⟨w.heap.size, 0, none⟩ = some (.slice A l.length c) := (blk_cell hx1 0).trans rfl
  have c1 : w1.cell? ⟨w.heap.size, 1, none⟩ = some (.int .i64 kp) := (blk_cell hx1 1).trans rfl
  have y0 : w1.cell? ⟨w.heap.size + 1, 0, none⟩ = some (.slice none 0 0) := (blk_cell hy1 0).trans rfl
  have y1 : w1.cell? ⟨w.heap.size + 1, 1, none⟩ = some (.int .i64 0) := (blk_cell hy1 1).trans rfl
  have f0 := blk_frozen hy1 0
  have f1 := blk_frozen hy1 1
  clear hb1 hx1 hy1
  go_wp2
  refine bodyPost_ret (results_ct rfl _ _ (w.heap.size + 1) 24 #[.slice A l.length c, .int .i64 kp] (0, 0) _ rfl (blk_put (cs := #[.slice A l.length c, .int .i64 0]) (blk_put (cs := #[.slice none 0 0, .int .i64 0]) HY1.out 0 _ rfl) 1 _ rfl) Try.underlying24 rfl (by kernel_rfl)) rfl ?_
  refine ⟨_, rfl, ?_, below_set (below_set HB1.out (by omega)) (by omega)⟩
  have hne : ∀ k, P' k → k ≠ w.heap.size + 1 := fun k hk => by have := (HP.out k hk).2; omega
  exact Kd.V_mono (Kd.V_far (p := ⟨w.heap.size + 1, 1, none⟩) (Kd.V_far (p := ⟨w.heap.size + 1, 0, none⟩) (Kd.V_mk HCC.out HR1.out) hne _) hne _) fun k hk => .inl (HP.out k hk).1
def heap_Loose.f (l0_0 : List (S38)) (a0_1 : Int) (a1 : Int) : Option ((List (S38)) × Int × Int) :=
  if l0_0.length < 1000000 then (if usedB l0_0 a1 = true then (looseP 5000 l0_0 a1).bind fun l' => if l'.length < 1000000 then some (l', a0_1, 0) else none else some (l0_0, a0_1, 4)) else none
set_option maxHeartbeats 4000000 in
set_option maxRecDepth 100000 in
theorem heap_Loose.calls (P0_0_ : Nat → Prop) (A0_0 : Option Addr) (c0_0 : Nat) (l0_0 : List (S38)) (a0_1 : Int) (a1 : Int) (r1 : List (S38)) (r2 : Int) (r3 : Int) (w : World) (hs0_0 : Kd.V k38 38 w w.heap.size (fun k_ => P0_0_ k_) (.slice A0_0 l0_0.length c0_0) l0_0) (h : heap_Loose.f l0_0 a0_1 a1 = some (r1, r2, r3)) :
    Calls Try.prog 19 #[.agg #[.slice A0_0 l0_0.length c0_0, .int .i64 a0_1], .int .i64 a1] w fun e w' => ∃ v0_ : Value, e = .returned (.tuple #[.agg #[v0_, .int .i64 r2], .int .i64 r3]) ∧ Kd.V k38 38 w' w.heap.size (fun k_ => (P0_0_ k_ ∨ w.heap.size ≤ k_)) v0_ r1 ∧ Below w.heap.size w w' := by
  obtain ⟨-, hc, hr⟩ := Kd.V_at hs0_0
  unfold heap_Loose.f at h
  have hl : l0_0.length < 1000000 := by
    by_cases hc : l0_0.length < 1000000
    · exact hc
    · rw [if_neg hc] at h; cases h
  rw [if_pos hl] at h
  obtain ⟨wA, hwA⟩ : ∃ wA, (w.alloc (.cells #[.slice A0_0 l0_0.length c0_0, .int .i64 a0_1] 24)).alloc (.cells #[.slice none 0 0, .int .i64 0] 24) = wA := ⟨_, rfl⟩
  have hbA : Below w.heap.size w wA := by rw [← hwA]; exact ((Below.refl _ w).alloc (Nat.le_refl _) _).alloc (by simp) _
  have hsA : wA.heap.size = w.heap.size + 2 := by rw [← hwA]; simp
  have hxA : wA.heap[w.heap.size]? = some (.cells #[.slice A0_0 l0_0.length c0_0, .int .i64 a0_1] 24 (0, 0)) := by rw [← hwA]; exact blk_alloc (alloc_new w _) _
  have hyA : wA.heap[w.heap.size + 1]? = some (.cells #[.slice none 0 0, .int .i64 0] 24 (0, 0)) := by
    rw [← hwA]
    have := alloc_new (w.alloc (.cells #[.slice A0_0 l0_0.length c0_0, .int .i64 a0_1] 24)) (.cells #[.slice none 0 0, .int .i64 0] 24)
    rwa [World.size_alloc] at this
  obtain ⟨P', hP, hrA⟩ : ∃ P' : Nat → Prop, (∀ k, P' k → P0_0_ k ∧ k < w.heap.size) ∧ Kd.F k38 wA P' A0_0 l0_0.length l0_0 := ⟨_, fun _ h => h, Kd.F_below (Kd.F_bound hr) hbA⟩
  have HC : Aside0 (Calls Try.prog 29 #[.agg #[.slice A0_0 l0_0.length c0_0, .int .i64 a0_1], .int .i64 a1, .func (.func 30) #[] #[]] wA fun e w' => ∃ v0_ : Value, e = .returned (.tuple #[.agg #[v0_, .int .i64 r2], .int .i64 r3]) ∧ Kd.V k38 38 w' wA.heap.size (fun k => P' k ∨ wA.heap.size ≤ k) v0_ r1 ∧ Below wA.heap.size wA w') := by
    refine ⟨?_⟩
    by_cases hu : usedB l0_0 a1 = true
    · rw [if_pos hu] at h
      obtain ⟨l', hf, h⟩ := Option.bind_eq_some_iff.1 h
      have hl' : l'.length < 1000000 := by
        by_cases hc : l'.length < 1000000
        · exact hc
        · rw [if_neg hc] at h; cases h
      rw [if_pos hl'] at h
      obtain ⟨rfl, rfl, rfl⟩ : l' = r1 ∧ a0_1 = r2 ∧ (0 : Int) = r3 := by simpa using h
      exact changed82 P' 5000 A0_0 c0_0 l0_0 l' a0_1 a1 wA hrA hl hc hu hf hl'
    · rw [if_neg hu] at h
      rw [Bool.not_eq_true] at hu
      obtain ⟨rfl, rfl, rfl⟩ : l0_0 = r1 ∧ a0_1 = r2 ∧ (4 : Int) = r3 := by simpa using h
      exact changedNo82 P' A0_0 c0_0 l0_0 a0_1 a1 wA hrA hc hu
  have HP := Aside0.mk hP
  have HBA := Aside0.mk hbA
  have HSA := Aside0.mk hsA
  have HYA := Aside0.mk hyA
  have hu24 := Try.underlying24
  have b0 : wA.cell? ⟨w.heap.size, 0, none⟩ = some (.slice A0_0 l0_0.length c0_0) := (blk_cell hxA 0).trans rfl
  have b1 : wA.cell? ⟨w.heap.size, 1, none⟩ = some (.int .i64 a0_1) := (blk_cell hxA 1).trans rfl
  clear hs0_0 hr hbA hsA hxA hyA hrA hP h hl hc
  go_enter Try.func19, Try.ntmps19
  go_wp2_with fail
  clear hwA b0 b1
  refine HC.out.mono ?_
  rintro e w1 ⟨v, rfl, hv, hb1⟩
  obtain ⟨A', c', rfl⟩ := Kd.V_slice hv
  have hy1 := blk_below HYA.out hb1
  have HB1 := Aside0.mk (HBA.out.trans (hb1.mono HBA.out.size))
  have HY1 := Aside0.mk hy1
  have HV := Aside0.mk hv
  have y0 : w1.cell? ⟨w.heap.size + 1, 0, none⟩ = some (.slice none 0 0) := (blk_cell hy1 0).trans rfl
  have y1 : w1.cell? ⟨w.heap.size + 1, 1, none⟩ = some (.int .i64 0) := (blk_cell hy1 1).trans rfl
  have f0 := blk_frozen hy1 0
  have f1 := blk_frozen hy1 1
  clear hb1 hy1 hv HC
  go_wp2
  refine bodyPost_ret (results_ct rfl _ _ (w.heap.size + 1) 24 #[.slice A' r1.length c', .int .i64 r2] (0, 0) _ rfl (blk_put (cs := #[.slice A' r1.length c', .int .i64 0]) (blk_put (cs := #[.slice none 0 0, .int .i64 0]) HY1.out 0 _ rfl) 1 _ rfl) Try.underlying24 rfl (by kernel_rfl)) rfl ?_
  have hne : ∀ k, (P' k ∨ wA.heap.size ≤ k) → k ≠ w.heap.size + 1 := fun k hk => by
    have := HSA.out
    rcases hk with h | h
    · have := (HP.out k h).2; omega
    · omega
  refine ⟨_, rfl, ?_, below_set (below_set HB1.out (by omega)) (by omega)⟩
  refine Kd.V_mono (Kd.V_far (p := ⟨w.heap.size + 1, 1, none⟩) (Kd.V_far (p := ⟨w.heap.size + 1, 0, none⟩) HV.out hne _) hne _) fun k hk => ?_
  rcases hk with h | h
  · exact .inl (HP.out k h).1
  · exact .inr (by have := HSA.out; omega)
end Go.Proofs.Ytflndiikeoflfaa.P
end
section
namespace Go.Proofs.Ytflndiikeoflfaa.P
open Go.RowKit Go.Proofs.YtflndiikeoflfaaW.PrintWords Go.Proofs.YtflndiikeoflfaaW.PrintLast Go.Proofs.YtflndiikeoflfaaW.PrintMore
set_option linter.unusedVariables false
set_option linter.unusedSimpArgs false
theorem small40_val (l : List S38) (kp : Int) {k : Nat} (hk : 100 ≤ k) : assartref05_Small.f k l kp 40 = some (decide (l.length ≤ 40 ∧ smallF l 0)) := by
  unfold assartref05_Small.f
  by_cases h1 : (l.length : Int) > 40
  · rw [if_pos h1, decide_eq_false (fun h => by have := h.1; omega)]
  · rw [if_neg h1]
    have := small_l0 l kp (by omega) l.length k 0 (by omega) (by omega)
    rw [show ((0 : Nat) : Int) = 0 from rfl] at this
    rw [this]
    congr 1
    rw [decide_eq_decide]
    exact ⟨fun h => ⟨by omega, h⟩, fun h => h.2⟩
theorem any_l0 (l : List S38) (kp : Int) (rs : List Int) (H : HR l) (hr : rs.length ≤ 1000) : ∀ (d j k : Nat), j + d = rs.length → d + 302 ≤ k →
    ∃ b, assartref08_Any.l0 k rs [] (j : Int) l kp = some b ∧ (b = true ↔ ∀ i : Nat, i < rs.length → j ≤ i → RightP l (rd rs (i : Nat))) := by
  intro d
  induction d with
  | zero =>
    intro j k hj hk
    obtain ⟨k, rfl⟩ : ∃ m, k = m + 2 := ⟨k - 2, by omega⟩
    refine ⟨true, ?_, fun _ i h1 h2 => by omega, fun _ => rfl⟩
    rw [assartref08_Any.l0, if_neg (by omega), assartref08_Any.l1, if_neg (by simp)]
  | succ d ih =>
    intro j k hj hk
    obtain ⟨k, rfl⟩ : ∃ m, k = m + 1 := ⟨k - 1, by omega⟩
    obtain ⟨b, hb, hbr⟩ := refRight_val (kp := kp) H (rd rs (j : Nat)) (k := k) (by omega)
    rw [assartref08_Any.l0, if_pos (by omega), if_pos (by omega), hb, Option.bind_some]
    cases b with
    | false =>
      refine ⟨false, rfl, fun h => (by cases h), fun h => ?_⟩
      exact hbr.2 (h j (by omega) (Nat.le_refl _))
    | true =>
      obtain ⟨c, hc, hcr⟩ := ih (j + 1) k (by omega) (by omega)
      refine ⟨c, ?_, ?_⟩
      · rw [if_pos rfl, wsucc j (by omega)]; exact hc
      · rw [hcr]
        constructor
        · intro h i hi hj2
          by_cases e : i = j
          · rw [e]; exact hbr.1 rfl
          · exact h i hi (by omega)
        · intro h i hi hj2
          exact h i hi (by omega)
theorem any_val (l : List S38) (kp : Int) (rs : List Int) (hr : rs.length ≤ 20) {k : Nat} (hk : 2020 ≤ k) :
    ∃ b, assartref08_Any.f k l kp rs [] = some b ∧ (b = true ↔ heapR l kp ∧ ∀ i : Nat, i < rs.length → RightP l (rd rs (i : Nat))) := by
  unfold assartref08_Any.f assartref06_Right.f
  rw [right05_val l kp k (.inl hk), Option.bind_some, if_pos (by rfl), Option.bind_some]
  obtain ⟨k, rfl⟩ : ∃ m, k = m + 1 := ⟨k - 1, by omega⟩
  by_cases h : heapR l kp
  · obtain ⟨b, hb, hbr⟩ := any_l0 l kp rs (HR.of h) (by omega) rs.length 0 k (by omega) (by omega)
    rw [show ((0 : Nat) : Int) = 0 from rfl] at hb
    refine ⟨b, ?_, ?_⟩
    · rw [if_pos (decide_eq_true h), assartref08_Any.j0, if_neg (by simp)]
      exact hb
    · rw [hbr]
      exact ⟨fun g => ⟨h, fun i hi => g i hi (Nat.zero_le _)⟩, fun g i hi _ => g.2 i hi⟩
  · refine ⟨false, ?_, fun e => (by cases e), fun g => absurd g.1 h⟩
    rw [if_neg (by simpa using h), assartref08_Any.j0, if_pos rfl]
def FineP (l : List S38) (kp : Int) (rs : List Int) : Prop := l.length ≤ 40 ∧ smallF l 0 ∧ heapR l kp ∧ (∀ i : Nat, i < rs.length → RightP l (rd rs (i : Nat))) ∧
  ∃ H, assartref08_Held.f 400000 l kp rs [] = some H ∧ H.length = l.length ∧ ∀ i : Nat, i < l.length → (rd_T38 l (i : Nat)).f0 = ((refN l rs i : Nat) : Int) ∧ rdOf false H (i : Nat) = decide (0 < (rd_T38 l (i : Nat)).f0)
theorem sh_refl (l : List S38) : Sh l l := ⟨rfl, fun _ => ⟨rfl, Iff.rfl⟩⟩
theorem small_items {l : List S38} (h : smallF l 0) : itemsOk l := fun i hi => (h i hi (Nat.zero_le _)).1
theorem fine_val (l : List S38) (kp : Int) (rs : List Int) (hr : rs.length ≤ 20) :
    ∃ b, assartref08_Fine.f 400000 l kp rs [] 40 = some b ∧ (b = true ↔ FineP l kp rs) := by
  unfold assartref08_Fine.f assartref08_May.f
  rw [small40_val l kp (by omega), Option.bind_some]
  by_cases h : l.length ≤ 40 ∧ smallF l 0
  · rw [if_pos (decide_eq_true h), if_neg (by omega), if_neg (by simp)]
    obtain ⟨b, hb, hbr⟩ := any_val l kp rs hr (k := 400000) (by omega)
    rw [hb, Option.bind_some, Option.bind_some]
    cases b with
    | false =>
      refine ⟨false, rfl, fun e => (by cases e), fun g => ?_⟩
      exact hbr.2 ⟨g.2.2.1, g.2.2.2.1⟩
    | true =>
      obtain ⟨H, hH, _, hHl⟩ := held_val l l kp rs rs (by omega) (small_items h.2) hr hr (sh_refl l) (fun _ => Iff.rfl) (k := 400000) (by omega)
      obtain ⟨R, hR, hRl, hRv⟩ := refs_val l kp rs (by omega) (small_items h.2) hr (k := 400000) (by
        have : l.length * (l.length + 2) ≤ 40 * 42 := Nat.mul_le_mul h.1 (by omega)
        omega)
      have hs := sound_l0 l kp R H (by omega) hRl hHl l.length 0 400000 (by omega) (by omega)
      rw [show ((0 : Nat) : Int) = 0 from rfl] at hs
      unfold assartref08_Sound.f
      rw [if_pos rfl, hR, Option.bind_some, hH, Option.bind_some, hs, Option.bind_some]
      refine ⟨_, rfl, ?_⟩
      · rw [decide_eq_true_iff]
        constructor
        · intro g
          refine ⟨h.1, h.2, (hbr.1 rfl).1, (hbr.1 rfl).2, H, hH, hHl, fun i hi => ?_⟩
          rw [← hRv i hi]
          exact g i hi (Nat.zero_le _)
        · rintro ⟨_, _, _, _, H', hH', _, g⟩ i hi _
          obtain rfl : H = H' := Option.some.inj (hH.symm.trans hH')
          rw [hRv i hi]
          exact g i hi
  · refine ⟨false, ?_, fun e => (by cases e), fun g => absurd ⟨g.1, g.2.1⟩ h⟩
    rw [if_neg (by simpa using h), Option.bind_some, if_neg (by simp)]
end Go.Proofs.Ytflndiikeoflfaa.P
end
section
namespace Go.Proofs.Ytflndiikeoflfaa.P
open Go.RowKit Go.Proofs.YtflndiikeoflfaaW.PrintWords Go.Proofs.YtflndiikeoflfaaW.PrintLast Go.Proofs.YtflndiikeoflfaaW.PrintMore
set_option linter.unusedVariables false
set_option linter.unusedSimpArgs false
def fl (n : Nat) : Nat := floatOfInt .f64 (n : Int)
set_option maxHeartbeats 8000000 in
set_option maxRecDepth 100000 in
theorem fl_back : ∀ p, p < 2000 → floatToIntVal .f64 (fl p) .i64 = some (p : Int) := by decide +kernel
set_option maxHeartbeats 8000000 in
set_option maxRecDepth 100000 in
theorem add0_c0 : ∀ p, p < 100 → floatBits .add .f64 (fl (100 * 0 + p)) 0 = some (fl (100 * 0 + p)) := by decide +kernel
set_option maxHeartbeats 8000000 in
set_option maxRecDepth 100000 in
theorem add0_c1 : ∀ p, p < 100 → floatBits .add .f64 (fl (100 * 1 + p)) 0 = some (fl (100 * 1 + p)) := by decide +kernel
set_option maxHeartbeats 8000000 in
set_option maxRecDepth 100000 in
theorem add0_c2 : ∀ p, p < 100 → floatBits .add .f64 (fl (100 * 2 + p)) 0 = some (fl (100 * 2 + p)) := by decide +kernel
set_option maxHeartbeats 8000000 in
set_option maxRecDepth 100000 in
theorem add0_c3 : ∀ p, p < 100 → floatBits .add .f64 (fl (100 * 3 + p)) 0 = some (fl (100 * 3 + p)) := by decide +kernel
set_option maxHeartbeats 8000000 in
set_option maxRecDepth 100000 in
theorem add0_c4 : ∀ p, p < 100 → floatBits .add .f64 (fl (100 * 4 + p)) 0 = some (fl (100 * 4 + p)) := by decide +kernel
set_option maxHeartbeats 8000000 in
set_option maxRecDepth 100000 in
theorem add0_c5 : ∀ p, p < 100 → floatBits .add .f64 (fl (100 * 5 + p)) 0 = some (fl (100 * 5 + p)) := by decide +kernel
set_option maxHeartbeats 8000000 in
set_option maxRecDepth 100000 in
theorem add0_c6 : ∀ p, p < 100 → floatBits .add .f64 (fl (100 * 6 + p)) 0 = some (fl (100 * 6 + p)) := by decide +kernel
set_option maxHeartbeats 8000000 in
set_option maxRecDepth 100000 in
theorem add0_c7 : ∀ p, p < 100 → floatBits .add .f64 (fl (100 * 7 + p)) 0 = some (fl (100 * 7 + p)) := by decide +kernel
set_option maxHeartbeats 8000000 in
set_option maxRecDepth 100000 in
theorem add0_c8 : ∀ p, p < 100 → floatBits .add .f64 (fl (100 * 8 + p)) 0 = some (fl (100 * 8 + p)) := by decide +kernel
set_option maxHeartbeats 8000000 in
set_option maxRecDepth 100000 in
theorem add0_c9 : ∀ p, p < 100 → floatBits .add .f64 (fl (100 * 9 + p)) 0 = some (fl (100 * 9 + p)) := by decide +kernel
set_option maxHeartbeats 8000000 in
set_option maxRecDepth 100000 in
theorem add0_c10 : ∀ p, p < 100 → floatBits .add .f64 (fl (100 * 10 + p)) 0 = some (fl (100 * 10 + p)) := by decide +kernel
set_option maxHeartbeats 8000000 in
set_option maxRecDepth 100000 in
theorem add0_c11 : ∀ p, p < 100 → floatBits .add .f64 (fl (100 * 11 + p)) 0 = some (fl (100 * 11 + p)) := by decide +kernel
set_option maxHeartbeats 8000000 in
set_option maxRecDepth 100000 in
theorem add0_c12 : ∀ p, p < 100 → floatBits .add .f64 (fl (100 * 12 + p)) 0 = some (fl (100 * 12 + p)) := by decide +kernel
set_option maxHeartbeats 8000000 in
set_option maxRecDepth 100000 in
theorem add0_c13 : ∀ p, p < 100 → floatBits .add .f64 (fl (100 * 13 + p)) 0 = some (fl (100 * 13 + p)) := by decide +kernel
set_option maxHeartbeats 8000000 in
set_option maxRecDepth 100000 in
theorem add0_c14 : ∀ p, p < 100 → floatBits .add .f64 (fl (100 * 14 + p)) 0 = some (fl (100 * 14 + p)) := by decide +kernel
set_option maxHeartbeats 8000000 in
set_option maxRecDepth 100000 in
theorem add0_c15 : ∀ p, p < 100 → floatBits .add .f64 (fl (100 * 15 + p)) 0 = some (fl (100 * 15 + p)) := by decide +kernel
set_option maxHeartbeats 8000000 in
set_option maxRecDepth 100000 in
theorem add0_c16 : ∀ p, p < 100 → floatBits .add .f64 (fl (100 * 16 + p)) 0 = some (fl (100 * 16 + p)) := by decide +kernel
set_option maxHeartbeats 8000000 in
set_option maxRecDepth 100000 in
theorem add0_c17 : ∀ p, p < 100 → floatBits .add .f64 (fl (100 * 17 + p)) 0 = some (fl (100 * 17 + p)) := by decide +kernel
set_option maxHeartbeats 8000000 in
set_option maxRecDepth 100000 in
theorem add0_c18 : ∀ p, p < 100 → floatBits .add .f64 (fl (100 * 18 + p)) 0 = some (fl (100 * 18 + p)) := by decide +kernel
set_option maxHeartbeats 8000000 in
set_option maxRecDepth 100000 in
theorem add0_c19 : ∀ p, p < 100 → floatBits .add .f64 (fl (100 * 19 + p)) 0 = some (fl (100 * 19 + p)) := by decide +kernel
theorem fl_add0 : ∀ p, p < 2000 → floatBits .add .f64 (fl p) 0 = some (fl p) := by
  intro p hp
  have e : p = 100 * (p / 100) + p % 100 := (Nat.div_add_mod p 100).symm
  have hr : p % 100 < 100 := Nat.mod_lt _ (by decide)
  have hc : p / 100 < 20 := by omega
  rw [e]
  generalize p / 100 = c at hc ⊢
  generalize p % 100 = r at hr ⊢
  match c, hc with
  | 0, _ => exact add0_c0 r hr
  | 1, _ => exact add0_c1 r hr
  | 2, _ => exact add0_c2 r hr
  | 3, _ => exact add0_c3 r hr
  | 4, _ => exact add0_c4 r hr
  | 5, _ => exact add0_c5 r hr
  | 6, _ => exact add0_c6 r hr
  | 7, _ => exact add0_c7 r hr
  | 8, _ => exact add0_c8 r hr
  | 9, _ => exact add0_c9 r hr
  | 10, _ => exact add0_c10 r hr
  | 11, _ => exact add0_c11 r hr
  | 12, _ => exact add0_c12 r hr
  | 13, _ => exact add0_c13 r hr
  | 14, _ => exact add0_c14 r hr
  | 15, _ => exact add0_c15 r hr
  | 16, _ => exact add0_c16 r hr
  | 17, _ => exact add0_c17 r hr
  | 18, _ => exact add0_c18 r hr
  | 19, _ => exact add0_c19 r hr
  | c + 20, hc => omega
set_option maxHeartbeats 8000000 in
set_option maxRecDepth 100000 in
theorem fl_add1 : ∀ p, p < 600 → floatBits .add .f64 (fl p) 4607182418800017408 = some (fl (p + 1)) := by decide +kernel
end Go.Proofs.Ytflndiikeoflfaa.P
end
section
namespace Go.Proofs.Ytflndiikeoflfaa.P
open Go.RowKit Go.Proofs.YtflndiikeoflfaaW.PrintWords Go.Proofs.YtflndiikeoflfaaW.PrintLast Go.Proofs.YtflndiikeoflfaaW.PrintMore
set_option linter.unusedVariables false
set_option linter.unusedSimpArgs false
theorem of_walk (p k : Nat) (w : World) : Calls Try.prog 17 #[.int .i64 p, .int .i64 k] w fun e w' => e = .returned (.complex .f64 (fl p) (fl k)) ∧ w' = w := by
  go_enter Try.func17, Try.ntmps17
  go_wp2
  go_ret
  exact ⟨rfl, rfl⟩
theorem on_walk (p k : Nat) (hp : p < 2000) (hk : k < 600) (w : World) : Calls Try.prog 22 #[.complex .f64 (fl p) (fl k)] w fun e w' => e = .returned (.complex .f64 (fl p) (fl (k + 1))) ∧ w' = w := by
  have h : cSumBits .add .f64 (fl p) (fl k) 0 4607182418800017408 = some (fl p, fl (k + 1)) := by
    unfold cSumBits
    rw [fl_add0 p hp, fl_add1 k hk]
    rfl
  have hr := fun w => run_complex_sum (P := Try.prog) (w := w) .add (.inl rfl) 48 .f64 _ _ _ _ _ _ h
  generalize fl p = a at h hr ⊢
  generalize fl k = b at h hr ⊢
  generalize fl (k + 1) = c at h hr ⊢
  go_enter Try.func22, Try.ntmps22
  go_wp2
  go_ret
  exact ⟨rfl, rfl⟩
theorem place_walk (p : Nat) (b : Nat) (hp : p < 2000) (w : World) : Calls Try.prog 27 #[.complex .f64 (fl p) b] w fun e w' => e = .returned (.int .i64 p) ∧ w' = w := by
  have h := fl_back p hp
  have hr := fun w => run_convert_float_int (P := Try.prog) (w := w) 65 3 .f64 .i64 _ _ (by kernel_rfl) Try.underlying3 h
  generalize fl p = a at h hr ⊢
  go_enter Try.func27, Try.ntmps27
  go_wp2
  go_ret
  exact ⟨rfl, rfl⟩
theorem done_walk (k : Nat) (a : Nat) (hk : k < 2000) (w : World) : Calls Try.prog 28 #[.complex .f64 a (fl k)] w fun e w' => e = .returned (.int .i64 k) ∧ w' = w := by
  have h := fl_back k hk
  have hr := fun w => run_convert_float_int (P := Try.prog) (w := w) 65 3 .f64 .i64 _ _ (by kernel_rfl) Try.underlying3 h
  generalize fl k = b at h hr ⊢
  go_enter Try.func28, Try.ntmps28
  go_wp2
  go_ret
  exact ⟨rfl, rfl⟩
end Go.Proofs.Ytflndiikeoflfaa.P
end
section
namespace Go.Proofs.Ytflndiikeoflfaa.P
open Go.RowKit Go.Proofs.YtflndiikeoflfaaW.PrintWords Go.Proofs.YtflndiikeoflfaaW.PrintLast Go.Proofs.YtflndiikeoflfaaW.PrintMore
set_option linter.unusedVariables false
set_option linter.unusedSimpArgs false
def kindV (p k : Nat) (x : S38) : Value :=
  if x.f2.f1.length < k then .iface 57 (.agg #[.int .i64 p]) else
    if 0 < k then .iface 59 (.agg #[.int .i64 (rd_T46 x.f2.f1 ((k - 1 : Nat) : Int)).f1]) else
      if x.f0 ≠ 1 ∨ x.f2.f0 = true then .iface 54 (.agg #[.int .i64 p]) else .iface 68 (.agg #[])
theorem w64_pred {k : Nat} (h0 : 0 < k) (h : k < 2000) : wrap64 ((k : Int) - 1) = ((k - 1 : Nat) : Int) := by unfold wrap64; omega
set_option maxHeartbeats 4000000 in
set_option maxRecDepth 100000 in
theorem kind_walk (A : Option Addr) (c : Nat) (l : List S38) (kp : Int) (p k : Nat) (w : World) (hr : Kd.C k38 w A l.length l) (hp : p < l.length) (hl : l.length < 2000) (hk : k < 600) :
    Calls Try.prog 18 #[.agg #[.slice A l.length c, .int .i64 kp], .complex .f64 (fl p) (fl k)] w fun e w' => e = .returned (kindV p k (rd_T38 l (p : Nat))) ∧ Below w.heap.size w w' := by
  obtain ⟨ad, A3, c3, rfl, x0, x1, x2, x3, hl3, hi3⟩ := at_T38 hr (p : Int) (by omega) (by omega)
  rw [Int.toNat_natCast] at x0 x1 x2 x3
  have l0 : (ad.add (p * 4)).block < w.heap.size := World.block_lt_of_cell? w _ x0
  have l3 : ∀ ad', A3 = some ad' → 0 < (rd_T38 l (p : Nat)).f2.f1.length → ad'.block < w.heap.size := fun ad' e h => by
    obtain ⟨ad2, e2, y0, -⟩ := at_T46 hi3 0 (by omega) (by omega)
    rw [e] at e2
    obtain rfl := Option.some.inj e2
    have := World.block_lt_of_cell? w _ y0
    exact this
  generalize rd_T38 l (p : Nat) = x at *
  obtain ⟨kv, hkv⟩ : ∃ kv, kindV p k x = kv := ⟨_, rfl⟩
  rw [hkv]
  have HKV := Aside0.mk hkv
  clear hkv
  have p1 : (p : Int) < (l.length : Int) := by omega
  replace p1 := eq_true p1
  obtain ⟨wA, hwA⟩ : ∃ wA, w.alloc (.cells #[.slice (some ad) l.length c, .int .i64 kp] 24) = wA := ⟨_, rfl⟩
  have hbA : Below w.heap.size w wA := by rw [← hwA]; exact (Below.refl _ w).alloc (Nat.le_refl _) _
  have KXA : wA.heap[w.heap.size]? = some (.cells #[.slice (some ad) l.length c, .int .i64 kp] 24 (0, 0)) := by rw [← hwA]; exact alloc_new w _
  have b0 : wA.cell? ⟨w.heap.size, 0, none⟩ = some (.slice (some ad) l.length c) := (blk_cell KXA 0).trans rfl
  have b1 : wA.cell? ⟨w.heap.size, 1, none⟩ = some (.int .i64 kp) := (blk_cell KXA 1).trans rfl
  replace x0 := (hbA.cell l0).trans x0
  replace x1 := (hbA.cell (p := ⟨(ad.add (p * 4)).block, (ad.add (p * 4)).off + 1, none⟩) l0).trans x1
  replace x2 := (hbA.cell (p := ⟨(ad.add (p * 4)).block, (ad.add (p * 4)).off + 2, none⟩) l0).trans x2
  replace x3 := (hbA.cell (p := ⟨(ad.add (p * 4)).block, (ad.add (p * 4)).off + 3, none⟩) l0).trans x3
  have HI := Aside0.mk (Kd.C_below hi3 hbA)
  have HB := Aside0.mk hbA
  have HK := Aside0.mk hk
  have H1 := Aside0.mk (fun w => place_walk p (fl k) (by omega) w)
  have H2 := Aside0.mk (fun w => done_walk k (fl p) (by omega) w)
  generalize fl p = fp at H1 H2 ⊢
  generalize fl k = fk at H1 H2 ⊢
  have hu24 := Try.underlying24
  have hu36 := Try.underlying36
  have hu38 := Try.underlying38
  have hu46 := Try.underlying46
  clear hr hl hi3 hl3 l0 l3 KXA hbA hk
  go_enter Try.func18, Try.ntmps18
  go_wp2_with fail
  refine (H1.out _).mono ?_
  rintro e w1 ⟨rfl, hw⟩
  obtain rfl := hw.symm
  go_wp2_with fail
  refine (H2.out _).mono ?_
  rintro e w1 ⟨rfl, hw⟩
  obtain rfl := hw.symm
  by_cases c1 : x.f2.f1.length < k
  · have HV : Aside0 (kv = .iface 57 (.agg #[.int .i64 p])) := ⟨by rw [← HKV.out]; unfold kindV; rw [if_pos c1]⟩
    have hz1 : decide ((k : Int) > (x.f2.f1.length : Int)) = true := decide_eq_true (by omega)
    have hz2 : ((x.f2.f1.length : Int) < (k : Int)) = True := eq_true (by omega)
    have hz3 : (x.f2.f1.length < k) = True := eq_true c1
    go_wp2
    go_ret
    exact ⟨by rw [HV.out]; rfl, HB.out.alloc HB.out.size _⟩
  · have hz1 : decide ((k : Int) > (x.f2.f1.length : Int)) = false := decide_eq_false (by omega)
    have hz2 : ((x.f2.f1.length : Int) < (k : Int)) = False := eq_false (by omega)
    have hz3 : (x.f2.f1.length < k) = False := eq_false c1
    by_cases c2 : 0 < k
    · have HV : Aside0 (kv = .iface 59 (.agg #[.int .i64 (rd_T46 x.f2.f1 ((k - 1 : Nat) : Int)).f1])) := ⟨by rw [← HKV.out]; unfold kindV; rw [if_neg c1, if_pos c2]⟩
      have hy1 : decide ((k : Int) > 0) = true := decide_eq_true (by omega)
      have hy2 : ((0 : Int) < (k : Int)) = True := eq_true (by omega)
      have hy3 : (0 < k) = True := eq_true c2
      have hwp := w64_pred c2 (by have := HK.out; omega)
      obtain ⟨a3, rfl, v0, v1⟩ := at_T46 HI.out ((k - 1 : Nat) : Int) (by omega) (by omega)
      rw [Int.toNat_natCast] at v0 v1
      have q1 : (((k - 1 : Nat) : Int) < (x.f2.f1.length : Int)) = True := eq_true (by omega)
      have q0 : ((0 : Int) ≤ ((k - 1 : Nat) : Int)) = True := eq_true (by omega)
      generalize k - 1 = m at *
      have lz := World.block_lt_of_cell? wA _ v0
      go_wp2
      go_ret
      exact ⟨by rw [HV.out]; rfl, HB.out.alloc HB.out.size _⟩
    · have hc2 := c2
      obtain rfl : k = 0 := by omega
      have hy1 : decide (((0 : Nat) : Int) > 0) = false := by decide
      by_cases c3 : x.f0 = 1
      · have hx1 : (x.f0 != 1) = false := bne_eq_false_iff_eq.mpr c3
        have hx2 : (x.f0 == 1) = true := beq_iff_eq.mpr c3
        by_cases c4 : x.f2.f0 = true
        · have HV : Aside0 (kv = .iface 54 (.agg #[.int .i64 p])) := ⟨by rw [← HKV.out]; unfold kindV; rw [if_neg c1, if_neg (by omega), if_pos (.inr c4)]⟩
          rw [c4] at x2
          clear c3 c4
          go_wp2
          go_ret
          exact ⟨by rw [HV.out]; rfl, HB.out.alloc HB.out.size _⟩
        · have HV : Aside0 (kv = .iface 68 (.agg #[])) := ⟨by rw [← HKV.out]; unfold kindV; rw [if_neg c1, if_neg (by omega), if_neg (by simp [c3, c4])]⟩
          rw [Bool.not_eq_true] at c4
          rw [c4] at x2
          clear c3 c4
          go_wp2
          go_ret
          exact ⟨by rw [HV.out]; rfl, HB.out.alloc HB.out.size _⟩
      · have HV : Aside0 (kv = .iface 54 (.agg #[.int .i64 p])) := ⟨by rw [← HKV.out]; unfold kindV; rw [if_neg c1, if_neg (by omega), if_pos (.inl c3)]⟩
        have hx1 : (x.f0 != 1) = true := bne_iff_ne.mpr c3
        have hx2 : (x.f0 == 1) = false := beq_eq_false_iff_ne.mpr c3
        clear c3
        go_wp2
        go_ret
        exact ⟨by rw [HV.out]; rfl, HB.out.alloc HB.out.size _⟩
end Go.Proofs.Ytflndiikeoflfaa.P
end
section
namespace Go.Proofs.Ytflndiikeoflfaa.P
open Go.RowKit Go.Proofs.YtflndiikeoflfaaW.PrintWords Go.Proofs.YtflndiikeoflfaaW.PrintLast Go.Proofs.YtflndiikeoflfaaW.PrintMore
set_option linter.unusedVariables false
set_option linter.unusedSimpArgs false
def kc : Kd (Nat × Nat) := Kd.scalar (fun c => Value.complex .f64 c.1 c.2) (fun _ => rfl)
theorem cut_hm {P : Program} (t e : TypeId) (kh : IntKind) {i : TypeInfo} (ht : P.underlying t = some (.slice e)) (hi : P.info? e = some i) (A : Option Addr) (n c : Nat) (j : Int) (h0 : 0 ≤ j) (hm : j ≤ n) (hc : n ≤ c) :
    ∀ W : World, (Instr.slice t (.slice A n c) none (some (.int kh j)) (some (.int kh j))).run P W = .ok (.slice A j.toNat j.toNat) W := by
  intro W
  have hel : P.elem t = e := by simp [Program.elem, ht]
  have hu : P.underlying t = some (.slice (P.elem t)) := by rw [hel]; exact ht
  have ha : (A.map fun x => x.add 0) = A := by cases A <;> simp [Addr.add]
  rw [run_slice_hm W t A n c hu kh kh j j h0 (Int.le_refl _) (by omega), hel]
  simp [sizeOf, typeInfo, hi, sliced, Result.andThen, ha]
theorem w64_id {n : Int} (h0 : 0 ≤ n) (h1 : n ≤ 1000000) : wrap64 n = n := by unfold wrap64; omega
theorem w64_succ {k n : Nat} (h : k < n) (hn : n ≤ 1000000) : wrap64 ((k : Int) + 1) = ((k + 1 : Nat) : Int) := by unfold wrap64; omega
theorem meas_ {n k : Nat} (h : k < n) (hk : wrap64 ((k : Int) + 1) = ((k + 1 : Nat) : Int)) : n - (intOf (Value.int .i64 (wrap64 ((k : Int) + 1)))).toNat < n - (intOf (Value.int .i64 (k : Int))).toNat := by
  rw [hk]
  show n - (k + 1) < n - k
  omega
theorem w64_add {x y z : Nat} (h : z = x + y) (hz : z ≤ 1000000) : wrap64 ((x : Int) + (y : Int)) = (z : Int) := by unfold wrap64; omega
set_option maxHeartbeats 4000000 in
set_option maxRecDepth 100000 in
theorem GrowC.nil_ (n : Int) (w : World) (h0 : 0 ≤ n) (h1 : n ≤ 1000000) :
    Calls Try.prog 31 #[.slice none 0 0, .int .i64 n] w fun e w' => ∃ v : Value, e = .returned v ∧ Kd.R kc 48 w' w.heap.size (fun _ => True) v [] ∧ Below w.heap.size w w' := by
  have hd : decide (n < 0) = false := decide_eq_false (by omega)
  have hw : wrap64 n = n := w64_id h0 h1
  by_cases hz : n = 0
  · subst hz
    clear h0 h1 hd hw
    go_enter Try.func31, Try.ntmps31
    go_wp2
    go_ret
    exact ⟨_, rfl, Kd.R_nil _ _ _ _ _, Below.refl _ _⟩
  · have hd2 : decide (0 < wrap64 n) = true := by rw [hw]; exact decide_eq_true (by omega)
    have HN : Aside0 (wrap64 n ≤ 1000000) := ⟨by rw [hw]; exact h1⟩
    have HN0 : Aside0 (0 ≤ wrap64 n) := ⟨by rw [hw]; exact h0⟩
    clear h1 h0 hz hw
    go_enter Try.func31, Try.ntmps31
    go_wp2_with ((with_reducible refine gate_builtin (b := .append) (xs := #[.tmp 20, .tmp 21]) rfl ?_); at_builtin; refine Kd.R_append_zeros kc (w0 := w) w.heap.size rfl (.tmp 20) (.tmp 21) 28 3 48 (.complex .f64 0 0) 16 rfl Try.underlying28 Try.underlying3 info48 rfl (by decide) (by omega) (.slice none 0 0) [] ((0, 0) : Nat × Nat) (wrap64 n) (fun _ => True) rfl rfl ?aZ (fun _ _ => trivial) ?aO HN0.out ?aB ?aS ?aL ?_)
    case aZ => exact rfl
    case aO => exact Kd.R_nil _ _ _ _ _
    case aB => exact Below.refl _ _
    case aS => exact Nat.le_refl _
    case aL => have := HN.out; have := HN0.out; simp only [List.length_nil]; omega
    intro v1 w1 hR hB hg hv
    obtain ⟨A, c, rfl, hc, hC⟩ := Kd.R_reads hR
    have HR := Aside0.mk (Kd.R_take (m := 0) hR (Nat.zero_le _))
    have HB := Aside0.mk hB
    obtain ⟨i0, hi0, _⟩ := Option.map_eq_some_iff.1 info48
    have hcut := cut_to (P := Try.prog) 28 48 .i64 Try.underlying28 hi0 A _ c 0 (by omega) (by omega) hc
    clear hR hB hg hv hc hC hi0
    go_wp2
    go_ret
    exact ⟨_, rfl, HR.out, HB.out⟩
def slices_Concat_cpx.f (l : List (List (Nat × Nat))) : Option (List (Nat × Nat)) := if l.flatten.length ≤ 1000000 ∧ l.length ≤ 1000000 then some l.flatten else none
theorem flat_takeC (l : List (List (Nat × Nat))) (k : Nat) (h : k < l.length) : (l.take (k + 1)).flatten = (l.take k).flatten ++ l[k] := by
  rw [List.take_succ_eq_append_getElem h, List.flatten_append]
  simp
theorem flat_leC (l : List (List (Nat × Nat))) (k : Nat) : (l.take k).flatten.length ≤ l.flatten.length := by
  conv => rhs; rw [← List.take_append_drop k l, List.flatten_append, List.length_append]
  omega
theorem rows_atC {e : Nat} {w : World} {A : Option Addr} {xs : List (List (Nat × Nat))} (h : Kd.C (Kd.slice e kc) w A xs.length xs) (k : Nat) (hk : k < xs.length) : ∃ ad A' c', A = some ad ∧ w.cell? (ad.add k) = some (.slice A' xs[k].length c') ∧ xs[k].length ≤ c' ∧ kc.C w A' xs[k].length xs[k] := by
  obtain ⟨ad, c, e, _, hK, hc0⟩ := Kd.C_get h ([] : List (Nat × Nat)) (k : Int) (by omega) (by omega)
  have hc : ∀ j u, c[j]? = some u → w.cell? (ad.add ((k : Int).toNat * 1 + j)) = some u := hc0
  rw [Int.toNat_natCast] at hK hc
  have hd : xs.getD k ([] : List (Nat × Nat)) = xs[k] := by simp [hk]
  rw [hd] at hK
  obtain ⟨A0, c0, rfl, l0, g0⟩ := hK
  exact ⟨ad, A0, c0, e, by have hq := hc 0 _ rfl; rwa [Nat.mul_one, Nat.add_zero] at hq, l0, g0⟩
set_option maxHeartbeats 4000000 in
set_option maxRecDepth 100000 in
theorem slices_Concat_cpx.calls (A0 : Option Addr) (c0 : Nat) (l0 : List (List (Nat × Nat))) (r : List (Nat × Nat)) (w : World) (hr0 : Kd.C (Kd.slice 48 kc) w A0 l0.length l0) (hc0 : l0.length ≤ c0) (h : slices_Concat_cpx.f l0 = some r) :
    Calls Try.prog 21 #[.slice A0 l0.length c0] w fun e w' => ∃ v0_ : Value, e = .returned (v0_) ∧ Kd.R kc 48 w' w.heap.size (fun _ => True) v0_ r ∧ Below w.heap.size w w' := by
  unfold slices_Concat_cpx.f at h
  have hlt : l0.flatten.length ≤ 1000000 ∧ l0.length ≤ 1000000 := by
    by_cases hlt : l0.flatten.length ≤ 1000000 ∧ l0.length ≤ 1000000
    · exact hlt
    · rw [if_neg hlt] at h
      cases h
  rw [if_pos hlt] at h
  obtain rfl := Option.some.inj h
  clear h
  obtain ⟨hF, hL⟩ := hlt
  have HF := Aside0.mk hF
  have HL := Aside0.mk hL
  have HR0 := Aside0.mk hr0
  clear hF hL hr0 hc0
  go_enter Try.func21, Try.ntmps21
  go_wp2
  go_loopw [3, 11] (fun s i wr => ∃ k : Nat, k ≤ l0.length ∧ i = .int .i64 k ∧ w = wr ∧ ∃ x : Nat, Aside0 (x = (l0.take k).flatten.length) ∧ s = .int .i64 x) (fun _ i _ => l0.length - (intOf i).toNat)
  case atStart => exact ⟨0, Nat.zero_le _, rfl, rfl, 0, ⟨rfl⟩, rfl⟩
  case round =>
    obtain ⟨k, hk, rfl, rfl, x, HXX, rfl⟩ := hrel
    by_cases hlt : k < l0.length
    · have p1 : (0 : Int) ≤ k := by omega
      have q1 : (k : Int) < l0.length := by omega
      have HK1 : Aside0 (wrap64 ((k : Int) + 1) = ((k + 1 : Nat) : Int)) := ⟨w64_succ hlt HL.out⟩
      have hx2 := flat_takeC l0 k hlt
      have hx3 := flat_leC l0 (k + 1)
      obtain ⟨ad, A', c', rfl, hx, _, _⟩ := rows_atC HR0.out k hlt
      obtain ⟨y, hy⟩ : ∃ y : Nat, y = (l0.take (k + 1)).flatten.length := ⟨_, rfl⟩
      have hs : wrap64 ((x : Int) + (l0[k].length : Int)) = (y : Int) := by
        have h2 := HXX.out
        rw [hx2, List.length_append, ← h2] at hy
        exact w64_add hy (by rw [hy, h2, ← List.length_append, ← hx2]; exact Nat.le_trans hx3 HF.out)
      have hneg : decide ((y : Int) < 0) = false := decide_eq_false (by omega)
      have HY := Aside0.mk hy
      clear hx2 hx3 hy
      go_wp2
      refine ⟨⟨k + 1, by omega, congrArg (Value.int .i64) HK1.out, trivial, y, HY, congrArg (Value.int .i64) hs⟩, ?_⟩
      exact meas_ hlt HK1.out
    · obtain rfl : k = l0.length := by omega
      have HFI : Aside0 ((x : Int) ≤ 1000000) := ⟨by have := HF.out; have := HXX.out; rw [List.take_length] at this; omega⟩
      clear hk hlt
      go_wp2_with fail
      refine (GrowC.nil_ _ _ (by omega) HFI.out).mono ?_
      rintro e wg ⟨v, rfl, hr, hb⟩
      have HRg := Aside0.mk hr
      have HBg := Aside0.mk hb
      clear hr hb
      go_wp2_with fail
      go_loopw [6, 27] (fun v6 i wr => ∃ k : Nat, k ≤ l0.length ∧ i = .int .i64 k ∧ Aside0 (Kd.R kc 48 wr w.heap.size (fun _ => True) v6 (l0.take k).flatten) ∧ Aside0 (Below w.heap.size w wr)) (fun _ i _ => l0.length - (intOf i).toNat)
      case atStart => exact ⟨0, Nat.zero_le _, rfl, HRg, HBg⟩
      case round =>
        obtain ⟨k, hk, rfl, HRk, HBk⟩ := hrel
        by_cases hlt : k < l0.length
        · have p1 : (0 : Int) ≤ k := by omega
          have q1 : (k : Int) < l0.length := by omega
          have HK1 : Aside0 (wrap64 ((k : Int) + 1) = ((k + 1 : Nat) : Int)) := ⟨w64_succ hlt HL.out⟩
          have HX2 := Aside0.mk (flat_takeC l0 k hlt)
          have HX3 := Aside0.mk (flat_leC l0 (k + 1))
          obtain ⟨ad, A', c', rfl, hx, _, hC⟩ := rows_atC (Kd.C_below HR0.out HBk.out) k hlt
          have HC := Aside0.mk hC
          clear hC
          go_wp2_with ((with_reducible refine gate_builtin (b := .append) (xs := #[.tmp 31, .tmp 32]) rfl ?_); at_builtin; refine Kd.R_append_rows kc (w0 := w) w.heap.size rfl (.tmp 31) (.tmp 32) 28 48 (.complex .f64 0 0) 16 rfl Try.underlying28 info48 rfl (by decide) (by omega) _ (l0.take k).flatten l0[k] A' l0[k].length c' (fun _ => True) (fun _ => False) rfl rfl ?aO ?aR (fun _ _ h => h) (fun _ h => h.elim) (fun _ _ => trivial) ?aB ?aS ?aL ?_)
          case aO => exact HRk.out
          case aR => exact HC.out
          case aB => exact HBk.out
          case aS => exact HBk.out.size
          case aL =>
            have h1 := HX2.out
            have h2 := HX3.out
            have h3 := HF.out
            rw [h1, List.length_append] at h2
            omega
          intro v1 w1 hR hB hg hv
          rw [← HX2.out] at hR
          have HR1 := Aside0.mk hR
          have HB1 := Aside0.mk hB
          clear hR hB hg hv HC
          go_wp2
          refine ⟨⟨k + 1, by omega, congrArg (Value.int .i64) HK1.out, HR1, HB1⟩, ?_⟩
          exact meas_ hlt HK1.out
        · obtain rfl : k = l0.length := by omega
          rw [List.take_length] at HRk
          go_wp2
          go_ret
          exact ⟨_, rfl, HRk.out, HBk.out⟩
set_option maxHeartbeats 4000000 in
set_option maxRecDepth 100000 in
theorem clip_nil (w : World) : Calls Try.prog 16 #[.slice none 0 0] w fun e w' => e = .returned (.slice none 0 0) ∧ w' = w := by
  obtain ⟨i0, hi0, _⟩ := Option.map_eq_some_iff.1 info48
  have hcut := cut_hm (P := Try.prog) 28 48 .i64 Try.underlying28 hi0 none 0 0 0 (Int.le_refl _) (by decide) (Nat.le_refl _)
  clear hi0
  go_enter Try.func16, Try.ntmps16
  go_wp2
  go_ret
  exact ⟨rfl, rfl⟩
set_option maxHeartbeats 4000000 in
set_option maxRecDepth 100000 in
theorem give_walk (p : Nat) (w : World) :
    Calls Try.prog 7 #[.slice none 0 0, .int .i64 p] w fun e w' => ∃ v : Value, e = .returned (.tuple #[v, .int .i64 0]) ∧ Kd.R kc 48 w' w.heap.size (fun _ => True) v [(fl p, fl 0)] ∧ Below w.heap.size w w' := by
  have hp1 : decide ((p : Int) < 0) = false := decide_eq_false (by omega)
  have H1 := Aside0.mk (fun w => of_walk p 0 w)
  generalize fl p = fp at H1 ⊢
  generalize fl 0 = f0 at H1 ⊢
  go_enter Try.func7, Try.ntmps7
  go_wp2_with fail
  refine (clip_nil _).mono ?_
  rintro e w1 ⟨rfl, hw⟩
  obtain rfl := hw.symm
  go_wp2_with fail
  refine (H1.out _).mono ?_
  rintro e w1 ⟨rfl, hw⟩
  obtain rfl := hw.symm
  go_wp2_with ((with_reducible refine gate_builtin (b := .append) (xs := #[.tmp 16, .tmp 19]) rfl ?_); at_builtin; refine Kd.R_append kc (w0 := w) w.heap.size rfl (.tmp 16) (.tmp 19) 28 48 (.complex .f64 0 0) 16 rfl Try.underlying28 info48 rfl (by decide) (by omega) (.slice none 0 0) [] (fp, f0) [.complex .f64 fp f0] (fun _ => True) (fun _ => False) rfl rfl ?aP (fun _ hk => hk.elim) ?aF ?aO ?aB ?aS ?aL ?_)
  case aP => exact rfl
  case aF => exact fun _ _ => trivial
  case aO => exact Kd.R_nil _ _ _ _ _
  case aB => exact Below.refl _ _
  case aS => exact Nat.le_refl _
  case aL => decide
  intro v1 w1 hR hB hg hv
  have HR := Aside0.mk hR
  have HB := Aside0.mk hB
  clear hR hB hg hv
  go_wp2
  go_ret2
  exact ⟨_, rfl, HR.out, HB.out⟩
end Go.Proofs.Ytflndiikeoflfaa.P
end
section
namespace Go.Proofs.Ytflndiikeoflfaa.P
open Go.RowKit Go.Proofs.YtflndiikeoflfaaW.PrintWords Go.Proofs.YtflndiikeoflfaaW.PrintLast Go.Proofs.YtflndiikeoflfaaW.PrintMore
set_option linter.unusedVariables false
set_option linter.unusedSimpArgs false
theorem N_empty (W : World) (base : Nat) (ok : Nat → Prop) (hok : ok W.heap.size) (hb : base ≤ W.heap.size) : Kd.N k38 38 (W.alloc (.cells #[] 38)) base ok (.slice (some ⟨W.heap.size, 0, none⟩) 0 0) [] := by
  refine Kd.R_N ⟨fun k hk => ?_, [], ?_, Reps.none _ _⟩
  · have : W.heap.size = k := by simpa [Value.ownBlock] using hk
    rw [← this]; exact hok
  · have h2 := World.ownsRow_lit (base := base) (e := 38) (size := k38.sz) W (#[] : Array Value) 0 hb (by simp [maxLen]) (by simp)
    simpa using h2
set_option maxHeartbeats 4000000 in
set_option maxRecDepth 100000 in
theorem clone_walk (P : Nat → Prop) (ad : Addr) (c : Nat) (l : List S38) (w : World) (hs : Kd.V k38 38 w w.heap.size P (.slice (some ad) l.length c) l) (hl : l.length < 2000) :
    Calls Try.prog 20 #[.slice (some ad) l.length c] w fun e w' => ∃ v : Value, e = .returned v ∧ Kd.N k38 38 w' w.heap.size (fun k => P k ∨ w.heap.size ≤ k) v l ∧ Below w.heap.size w w' := by
  obtain ⟨-, hc, hr⟩ := Kd.V_at hs
  obtain ⟨P', hP, hr'⟩ : ∃ P' : Nat → Prop, (∀ k, P' k → P k ∧ k < w.heap.size) ∧ Kd.F k38 w P' (some ad) l.length l := ⟨_, fun _ h => h, Kd.F_bound hr⟩
  have HP := Aside0.mk hP
  have HR := Aside0.mk hr'
  have HL := Aside0.mk hl
  have hu22 := Try.underlying22
  have hq := fun w => run_eql_slice_nil (P := Try.prog) w 22 38 (some ad) l.length c Try.underlying22
  clear hs hr hr' hP hl hc
  go_enter Try.func20, Try.ntmps20
  go_wp2_with ((with_reducible refine gate_builtin (b := .append) (xs := #[.tmp 5, .tmp 6]) rfl ?_); at_builtin; refine Kd.N_append_rows k38 (w0 := w) w.heap.size rfl (.tmp 5) (.tmp 6) 22 38 (.agg #[(.int .i64 0), (.bool false), (.bool false), (.slice none 0 0)]) 48 rfl Try.underlying22 info38 rfl (by decide) (by omega) (.slice (some ⟨w.heap.size, 0, none⟩) 0 0) [] l (some ad) l.length c (fun k => P k ∨ w.heap.size ≤ k) (fun k => P k ∧ k < w.heap.size) rfl rfl ?aO ?aR ?aK ?aF ?aB ?aS ?aL ?_)
  case aO => exact N_empty w _ _ (.inr (Nat.le_refl _)) (Nat.le_refl _)
  case aR => exact Kd.F_mono (Kd.F_alloc HR.out _) (fun k hk => HP.out k hk)
  case aK => exact fun k hk => ⟨.inl hk.1, fun e => by have := hk.2; simp [Value.ownBlock] at e; omega⟩
  case aF => exact fun k hk => .inr (by rw [World.size_alloc] at hk; omega)
  case aB => exact (Below.refl _ w).alloc (Nat.le_refl _) _
  case aS => rw [World.size_alloc]; omega
  case aL => have := HL.out; simp only [List.length_nil]; omega
  intro v1 w1 hN hB hg hv
  have HN := Aside0.mk hN
  have HB := Aside0.mk hB
  clear hN hB hg hv
  go_wp2
  go_ret
  exact ⟨_, rfl, HN.out, HB.out⟩
end Go.Proofs.Ytflndiikeoflfaa.P
end
section
namespace Go.Proofs.Ytflndiikeoflfaa.P
open Go.RowKit Go.Proofs.YtflndiikeoflfaaW.PrintWords Go.Proofs.YtflndiikeoflfaaW.PrintLast Go.Proofs.YtflndiikeoflfaaW.PrintMore
set_option linter.unusedVariables false
set_option linter.unusedSimpArgs false
theorem V_base {α : Type} {d : Kd α} {e base base' : Nat} {W : World} {ok : Nat → Prop} {v : Value} {xs : List α} (h : Kd.V d e W base ok v xs) : Kd.V d e W base' ok v xs := h
def fls (ts : List (Nat × Nat)) : List (Nat × Nat) := ts.map fun x => (fl x.1, fl x.2)
theorem fls_len (ts : List (Nat × Nat)) : (fls ts).length = ts.length := List.length_map _
theorem fls_tail {w : World} {A : Option Addr} {p k : Nat} {rest : List (Nat × Nat)} {c : Nat} (h : Kd.C kc w A (fls ((p, k) :: rest)).length (fls ((p, k) :: rest))) (hc : rest.length + 1 ≤ c) : Kd.C kc w (if c = 1 then A else A.map (·.add 1)) (fls rest).length (fls rest) :=
  Kd.C_drop (m := 1) h (by rw [fls_len]; simp) (by rw [fls_len]; exact hc)
theorem fls_tailF {w : World} {A : Option Addr} {Pt : Nat → Prop} {p k : Nat} {rest : List (Nat × Nat)} {c : Nat} (h : Kd.F kc w Pt A (fls ((p, k) :: rest)).length (fls ((p, k) :: rest))) (hc : rest.length + 1 ≤ c) : Kd.F kc w Pt (if c = 1 then A else A.map (·.add 1)) (fls rest).length (fls rest) :=
  Kd.F_cut (m := 1) h (by rw [fls_len]; simp) (by rw [fls_len]; exact hc)
theorem fls_head {w : World} {A : Option Addr} {p k : Nat} {rest : List (Nat × Nat)} (h : Kd.C kc w A (fls ((p, k) :: rest)).length (fls ((p, k) :: rest))) : ∃ ad, A = some ad ∧ w.cell? ad = some (.complex .f64 (fl p) (fl k)) := by
  obtain ⟨ad, c, e, hl, hK, hc⟩ := Kd.C_get h (0, 0) 0 (by omega) (by rw [fls_len]; simp)
  refine ⟨ad, e, ?_⟩
  obtain rfl : c = [.complex .f64 (fl p) (fl k)] := hK
  have := hc 0 _ rfl
  rwa [show (0 : Int).toNat * kc.sz + 0 = 0 from rfl, Addr.add_zero'] at this
theorem as54_54 (v : Value) (W : World) : (Instr.typeAssert (.iface 54 v) 20 54 true).run Try.prog W = .ok (.tuple #[v, .bool true]) W := by kernel_rfl
theorem as57_54 (v : Value) (W : World) : (Instr.typeAssert (.iface 57 v) 20 54 true).run Try.prog W = .ok (.tuple #[.agg #[.int .i64 0], .bool false]) W := by kernel_rfl
theorem as57_57 (v : Value) (W : World) : (Instr.typeAssert (.iface 57 v) 20 57 true).run Try.prog W = .ok (.tuple #[v, .bool true]) W := by kernel_rfl
theorem as59_54 (v : Value) (W : World) : (Instr.typeAssert (.iface 59 v) 20 54 true).run Try.prog W = .ok (.tuple #[.agg #[.int .i64 0], .bool false]) W := by kernel_rfl
theorem as59_57 (v : Value) (W : World) : (Instr.typeAssert (.iface 59 v) 20 57 true).run Try.prog W = .ok (.tuple #[.agg #[.int .i64 0], .bool false]) W := by kernel_rfl
theorem as59_59 (v : Value) (W : World) : (Instr.typeAssert (.iface 59 v) 20 59 true).run Try.prog W = .ok (.tuple #[v, .bool true]) W := by kernel_rfl
theorem as68_54 (v : Value) (W : World) : (Instr.typeAssert (.iface 68 v) 20 54 true).run Try.prog W = .ok (.tuple #[.agg #[.int .i64 0], .bool false]) W := by kernel_rfl
theorem as68_57 (v : Value) (W : World) : (Instr.typeAssert (.iface 68 v) 20 57 true).run Try.prog W = .ok (.tuple #[.agg #[.int .i64 0], .bool false]) W := by kernel_rfl
theorem as68_59 (v : Value) (W : World) : (Instr.typeAssert (.iface 68 v) 20 59 true).run Try.prog W = .ok (.tuple #[.agg #[.int .i64 0], .bool false]) W := by kernel_rfl
def hSt.T3 : Bool × List (List Nat × List Nat) := (true, [([], []), ([0], [0]), ([1], [1]), ([], []), ([3], [3]), ([2, 0, 1, 2], [2]), ([4, 5, 0, 1, 2, 3, 4, 5], [4])])
def hSt.B3 : List Nat := [0, 1, 3, 0, 8, 7, 63]
theorem hSt.tab3 : rtab .any (opsOf Try.f10 3) = hSt.T3 := by kernel_rfl
theorem hSt.bits3 : waitsOk hSt.T3.2 hSt.B3 = true := by kernel_rfl
set_option maxHeartbeats 8000000 in
set_option maxRecDepth 100000 in
theorem step_less (P : Nat → Prop) (A : Option Addr) (c : Nat) (l : List S38) (kp : Int) (At : Option Addr) (ct : Nat) (p k : Nat) (rest : List (Nat × Nat)) (w : World) (hs : Kd.V k38 38 w w.heap.size P (.slice A l.length c) l) (Pt : Nat → Prop) (ht : Kd.F kc w Pt At (fls ((p, k) :: rest)).length (fls ((p, k) :: rest))) (htc : rest.length + 1 ≤ ct) (hrl : rest.length < 1000) (hp : p < l.length) (hl : l.length < 2000) (hk : k < 600) (hk0 : k = 0) (hless : (rd_T38 l (p : Nat)).f0 ≠ 1 ∨ (rd_T38 l (p : Nat)).f2.f0 = true) (l2 : List S38) (r3 : Int) (hlo : heap_Loose.f l kp p = some (l2, kp, r3)) :
    Calls Try.prog 10 #[.agg #[.slice A l.length c, .int .i64 kp], .slice At (rest.length + 1) ct] w fun e w' => ∃ (A' : Option Addr) (c' : Nat) (At' : Option Addr) (ct' : Nat), e = .returned (.tuple #[.agg #[.slice A' (l2).length c', .int .i64 kp], .slice At' (rest).length ct']) ∧ Kd.V k38 38 w' w.heap.size (fun k => P k ∨ w.heap.size ≤ k) (.slice A' (l2).length c') (l2) ∧ Kd.F kc w' (fun k => Pt k ∨ w.heap.size ≤ k) At' (fls (rest)).length (fls (rest)) ∧ (rest).length ≤ ct' ∧ Below w.heap.size w w' := by
  obtain ⟨-, hc, hr⟩ := Kd.V_at hs
  obtain ⟨P', hP, hr'⟩ : ∃ P' : Nat → Prop, (∀ k, P' k → P k ∧ k < w.heap.size) ∧ Kd.F k38 w P' A l.length l := ⟨_, fun _ h => h, Kd.F_bound hr⟩
  obtain ⟨wA, hwA⟩ : ∃ wA, (w.alloc (.cells #[.slice A l.length c, .int .i64 kp] 24)).alloc (.cells #[.slice none 0 0, .int .i64 0] 24) = wA := ⟨_, rfl⟩
  have HB : Aside0 (Below w.heap.size w wA) := ⟨by rw [← hwA]; exact ((Below.refl _ w).alloc (Nat.le_refl _) _).alloc (by simp) _⟩
  have KXh : Aside0 (wA.heap[w.heap.size]? = some (.cells #[.slice A l.length c, .int .i64 kp] 24 (0, 0))) := ⟨by rw [← hwA]; exact blk_alloc (alloc_new w _) _⟩
  have KXr : Aside0 (wA.heap[w.heap.size + 1]? = some (.cells #[.slice none 0 0, .int .i64 0] 24 (0, 0))) := ⟨by
    rw [← hwA]
    have := alloc_new (w.alloc (.cells #[.slice A l.length c, .int .i64 kp] 24)) (.cells #[.slice none 0 0, .int .i64 0] 24)
    rwa [World.size_alloc] at this⟩
  obtain ⟨Q, hQ1, hQ2, hQ3, hQ4⟩ : ∃ Q : Nat → Prop, (∀ k, P' k → Q k) ∧ (∀ k, w.heap.size + 2 ≤ k → Q k) ∧ (∀ k, Q k → k ≠ w.heap.size ∧ k ≠ w.heap.size + 1) ∧ (∀ k, Q k → P k ∨ w.heap.size ≤ k) := by
    refine ⟨fun k => (P' k ∨ w.heap.size ≤ k) ∧ k ≠ w.heap.size ∧ k ≠ w.heap.size + 1, fun k hk => ?_, fun k hk => ?_, fun k hk => hk.2, fun k hk => hk.1.elim (fun h => .inl (hP k h).1) .inr⟩
    · have := (hP k hk).2; exact ⟨.inl hk, by omega, by omega⟩
    · exact ⟨.inr (by omega), by omega, by omega⟩
  have HQ2 := Aside0.mk hQ2
  have HQ3 := Aside0.mk hQ3
  have HQ4 := Aside0.mk hQ4
  have HVl : Aside0 (Kd.V k38 38 wA 0 Q (.slice A l.length c) l) := ⟨Kd.V_mk hc (Kd.F_mono (Kd.F_below hr' HB.out) hQ1)⟩
  have HTF := Aside0.mk (fls_tailF ht htc)
  replace ht := Kd.F_now ht
  obtain ⟨ad, rfl, x0⟩ := fls_head ht
  have HTR := Aside0.mk (fls_tail ht htc)
  have hx0 := pw_cell_below HB.out x0
  have HSZ := Aside0.mk (show w.heap.size + 1 < wA.heap.size from blk_lt KXr.out)
  have HP := Aside0.mk hp
  have HL := Aside0.mk hl
  have HK := Aside0.mk hk
  have HRL := Aside0.mk hrl
  have HKW := Aside0.mk (fun (w : World) (hr : Kd.C k38 w A l.length l) => kind_walk A c l kp p k w hr hp hl hk)
  have HTC := Aside0.mk htc
  obtain ⟨n, hn⟩ : ∃ n, rest.length + 1 = n := ⟨_, rfl⟩
  have hn0 : ((n : Int) == 0) = false := beq_eq_false_iff_ne.2 (by omega)
  have hn1 : (n == 0) = false := beq_eq_false_iff_ne.2 (by omega)
  have hn2 : ((0 : Int) < (n : Int)) = True := eq_true (by omega)
  have hn3 : (0 < n) = True := eq_true (by omega)
  have hn4 : (n = 0) = False := eq_false (by omega)
  obtain ⟨i0, hi0, hi1⟩ := Option.map_eq_some_iff.1 info48
  have hsz : i0.size = 1 := by simp only [Prod.mk.injEq] at hi1; exact hi1.2.1
  have hcut := cut_from (P := Try.prog) 28 48 .i64 Try.underlying28 hi0 1 hsz (some ad) n ct 1 (by decide) (by omega)
  rw [show (1 : Int).toNat = 1 from rfl, Nat.mul_one] at hcut
  obtain ⟨Ar, hAr⟩ : ∃ Ar, (if ct = 1 then some ad else (some ad).map (·.add 1)) = Ar := ⟨_, rfl⟩
  obtain ⟨cr, hcr⟩ : ∃ cr, ct - 1 = cr := ⟨_, rfl⟩
  obtain ⟨nr, hnr⟩ : ∃ nr, n - 1 = nr := ⟨_, rfl⟩
  rw [hAr] at HTR HTF hcut
  rw [hcr, hnr] at hcut
  have HNR : Aside0 (nr = rest.length ∧ rest.length ≤ cr) := ⟨by omega⟩
  have HN := Aside0.mk hn
  rw [hn]
  have HLO := Aside0.mk hlo
  clear hlo
  have HKV : Aside0 (kindV p k (rd_T38 l (p : Nat)) = .iface 54 (.agg #[.int .i64 p])) := ⟨by unfold kindV; rw [if_neg (by omega), if_neg (by omega), if_pos hless]⟩
  generalize fl p = fp at x0 hx0 HKW
  generalize fl k = fk at x0 hx0 HKW
  have hu24 := Try.underlying24
  have hu28 := Try.underlying28
  have hu38 := Try.underlying38
  clear hs hr hr' hP hQ1 hQ2 hQ3 hQ4 ht hn hnr hcr hAr hi0 hi1 hsz x0 hc hp hl hk hrl htc
  go_enter Try.func10, Try.ntmps10
  go_wp2_with fail
  clear hwA HSZ hn0 hn1 hn4
  have Z0 : Aside0 (wA.cell? ad = some (.complex .f64 fp fk)) := ⟨hx0⟩
  clear hx0
  replace Z0 : Aside0 (wA.drew.cell? ad = some (.complex .f64 fp fk)) := ⟨Z0.out⟩
  replace HB := Aside0.mk (below_drew HB.out)
  replace KXh := Aside0.mk (blk_drew KXh.out)
  replace KXr := Aside0.mk (blk_drew KXr.out)
  replace HVl := Aside0.mk (Kd.V_drew HVl.out)
  refine start_ (n := 7) (S := fun w' => w'.cell? ad = some (.complex .f64 fp fk)) (ds := []) #[false, false, false, false, false, false, false] (by kernel_rfl) rfl rfl Z0.out (fun hHeld => ?_)
  refine with_tabW hSt.tab3 hSt.bits3 (fun HT_ HW_ => ?_)
  generalize wA.drew = wdr3 at Z0 HB KXh KXr HVl hHeld ⊢
  refine pure_ (i := 0) (N := some 17) (v := ?_) (a' := ?_) #[true, false, false, false, false, false, false] rfl rfl (any_of HT_.out (by kernel_rfl)) (fun _ _ _ h => h) (Or.inl ⟨by rfl, ?_⟩) ?_ ?_
  rotate_left
  · intro w'
    go_simp
    with_reducible rfl
  rotate_left
  · simp only [Act.put, List.setIfInBounds_toArray, List.set_cons_zero, List.set_cons_succ, i64_w, i32_w]
    rfl
  refine pure_ (i := 1) (N := some 18) (v := ?_) (a' := ?_) #[true, true, false, false, false, false, false] rfl rfl (any_of HT_.out (by kernel_rfl)) (fun _ _ _ h => h) (Or.inl ⟨by rfl, ?_⟩) ?_ ?_
  rotate_left
  · intro w'
    go_simp
    with_reducible rfl
  rotate_left
  · simp only [Act.put, List.setIfInBounds_toArray, List.set_cons_zero, List.set_cons_succ, i64_w, i32_w]
    rfl
  refine take_ (i := 2) (N := some 19) (v := ?_) (a' := ?_) #[true, true, true, false, false, false, false] rfl rfl (take_ofW HT_.out HW_.out (by kernel_rfl)) (fun _ _ _ h => h) (Or.inl ⟨by rfl, ?_⟩) hHeld ?_ ?_
  rotate_left
  · rintro w' s0
    go_simp
    with_reducible rfl
  rotate_left
  · simp only [Act.put, List.setIfInBounds_toArray, List.set_cons_zero, List.set_cons_succ, i64_w, i32_w]
    rfl
  refine pure_ (i := 3) (N := some 20) (v := ?_) (a' := ?_) #[true, true, true, true, false, false, false] rfl rfl (any_of HT_.out (by kernel_rfl)) (fun _ _ _ h => h) (Or.inl ⟨by rfl, ?_⟩) ?_ ?_
  rotate_left
  · intro w'
    go_simp
    with_reducible rfl
  rotate_left
  · simp only [Act.put, List.setIfInBounds_toArray, List.set_cons_zero, List.set_cons_succ, i64_w, i32_w]
    rfl
  refine pure_ (i := 4) (N := some 21) (v := ?_) (a' := ?_) #[true, true, true, true, true, false, false] rfl rfl (any_of HT_.out (by kernel_rfl)) (fun _ _ _ h => h) (Or.inl ⟨by rfl, ?_⟩) ?_ ?_
  rotate_left
  · intro w'
    go_simp
    with_reducible rfl
  rotate_left
  · simp only [Act.put, List.setIfInBounds_toArray, List.set_cons_zero, List.set_cons_succ, i64_w, i32_w]
    rfl
  refine pure_ (i := 5) (N := some 6) (v := ?_) (a' := ?_) #[true, true, true, true, true, true, false] rfl rfl (any_of HT_.out (by kernel_rfl)) (fun _ _ _ h => h) (Or.inl ⟨by rfl, ?_⟩) ?_ ?_
  rotate_left
  · intro w'
    go_simp
    with_reducible rfl
  rotate_left
  · simp only [Act.put, List.setIfInBounds_toArray, List.set_cons_zero, List.set_cons_succ, i64_w, i32_w]
    rfl
  refine pure_ (i := 6) (N := some 7) (v := ?_) (a' := ?_) #[true, true, true, true, true, true, true] rfl rfl (any_of HT_.out (by kernel_rfl)) (fun _ _ _ h => h) (Or.inl ⟨by rfl, ?_⟩) ?_ ?_
  rotate_left
  · intro w'
    go_simp
    with_reducible rfl
  rotate_left
  · simp only [Act.put, List.setIfInBounds_toArray, List.set_cons_zero, List.set_cons_succ, i64_w, i32_w]
    rfl
  refine done_ (done_of HT_.out (by kernel_rfl)) ?_
  clear hHeld HT_ HW_
  clear Z0 hcut hn2 hn3
  have b0 : wdr3.cell? ⟨w.heap.size, 0, none⟩ = some (.slice A l.length c) := (blk_cell KXh.out 0).trans rfl
  have b1 : wdr3.cell? ⟨w.heap.size, 1, none⟩ = some (.int .i64 kp) := (blk_cell KXh.out 1).trans rfl
  go_wp2_with fail
  clear b0 b1
  refine (HKW.out _ (Kd.V_reads' HVl.out).2.2).mono ?_
  rintro e w2 ⟨rfl, hb⟩
  rw [HKV.out]
  replace HB := Aside0.mk (HB.out.trans (hb.mono HB.out.size))
  replace KXh := Aside0.mk (blk_below KXh.out hb)
  replace KXr := Aside0.mk (blk_below KXr.out hb)
  replace HVl := Aside0.mk (Kd.V_below HVl.out hb)
  clear hb
  have b0 : w2.cell? ⟨w.heap.size, 0, none⟩ = some (.slice A l.length c) := (blk_cell KXh.out 0).trans rfl
  have b1 : w2.cell? ⟨w.heap.size, 1, none⟩ = some (.int .i64 kp) := (blk_cell KXh.out 1).trans rfl
  have y0 : w2.cell? ⟨w.heap.size + 1, 0, none⟩ = some (.slice none 0 0) := (blk_cell KXr.out 0).trans rfl
  have y1 : w2.cell? ⟨w.heap.size + 1, 1, none⟩ = some (.int .i64 0) := (blk_cell KXr.out 1).trans rfl
  have l0 : w.heap.size + 1 < w2.heap.size := blk_lt KXr.out
  have l1 : w.heap.size < w2.heap.size := blk_lt KXh.out
  have a1 := as54_54
  have hu54 := Try.underlying54
  go_wp2_with fail
  clear b0 b1 y0 y1 l0 l1 a1 hu54
  have hpre : Below w2.heap.size w2 (w2.alloc (.cells #[.int .i64 p] 54)) := (Below.refl w2.heap.size w2).alloc (Nat.le_refl _) _
  replace HB := Aside0.mk (HB.out.trans (hpre.mono HB.out.size))
  replace KXh := Aside0.mk (blk_below KXh.out hpre)
  replace KXr := Aside0.mk (blk_below KXr.out hpre)
  replace HVl := Aside0.mk (Kd.V_below HVl.out hpre)
  obtain ⟨w3, hw3⟩ : ∃ w3, w2.alloc (.cells #[.int .i64 p] 54) = w3 := ⟨_, rfl⟩
  rw [hw3]
  rw [hw3] at HB KXh KXr HVl
  clear hw3 hpre
  refine (heap_Loose.calls Q A c l kp p l2 kp r3 w3 (V_base HVl.out) HLO.out).mono ?_
  rintro e w4 ⟨v_, rfl, hv, hb⟩
  obtain ⟨A2, c2, ev⟩ := Kd.V_slice hv
  subst ev
  have HS3 := Aside0.mk (show w.heap.size + 1 < w3.heap.size from blk_lt KXr.out)
  replace HB := Aside0.mk (HB.out.trans (hb.mono HB.out.size))
  replace KXh := Aside0.mk (blk_below KXh.out hb)
  replace KXr := Aside0.mk (blk_below KXr.out hb)
  replace HVl := Aside0.mk (Kd.V_below HVl.out hb)
  have HV2 : Aside0 (Kd.V k38 38 w4 0 Q (.slice A2 l2.length c2) l2) := ⟨V_base (Kd.V_mono hv (fun k hk => hk.elim id (fun h => HQ2.out k (by have := HS3.out; omega))))⟩
  clear hv hb HLO
  have b0 : w4.cell? ⟨w.heap.size, 0, none⟩ = some (.slice A l.length c) := (blk_cell KXh.out 0).trans rfl
  have b1 : w4.cell? ⟨w.heap.size, 1, none⟩ = some (.int .i64 kp) := (blk_cell KXh.out 1).trans rfl
  have y0 : w4.cell? ⟨w.heap.size + 1, 0, none⟩ = some (.slice none 0 0) := (blk_cell KXr.out 0).trans rfl
  have y1 : w4.cell? ⟨w.heap.size + 1, 1, none⟩ = some (.int .i64 0) := (blk_cell KXr.out 1).trans rfl
  have l0 : w.heap.size + 1 < w4.heap.size := blk_lt KXr.out
  have l1 : w.heap.size < w4.heap.size := blk_lt KXh.out
  have f0 := blk_frozen KXh.out 0
  have f1 := blk_frozen KXh.out 1
  have g0 := blk_frozen KXr.out 0
  have g1 := blk_frozen KXr.out 1
  go_wp2
  have KXr2 := blk_far (p := ⟨w.heap.size, 1, none⟩) (blk_far (p := ⟨w.heap.size, 0, none⟩) KXr.out (by simp) (.slice A2 l2.length c2)) (by simp) (.int .i64 kp)
  have HBf := below_set (below_set (below_set (below_set HB.out (Nat.le_refl w.heap.size) (j := 0) (v := .slice A2 l2.length c2)) (Nat.le_refl w.heap.size) (j := 1) (v := .int .i64 kp)) (show w.heap.size ≤ w.heap.size + 1 by omega) (j := 0) (v := .slice A2 l2.length c2)) (show w.heap.size ≤ w.heap.size + 1 by omega) (j := 1) (v := .int .i64 kp)
  obtain ⟨hn1, hn2⟩ := HNR.out
  rw [hn1]
  refine bodyPost_ret (results_ct rfl _ _ (w.heap.size + 1) 24 #[.slice A2 l2.length c2, .int .i64 kp] (0, 0) _ rfl (blk_put (cs := #[.slice A2 l2.length c2, .int .i64 0]) (blk_put (cs := #[.slice none 0 0, .int .i64 0]) KXr2 0 _ rfl) 1 _ rfl) Try.underlying24 rfl (by kernel_rfl)) rfl ?_
  refine ⟨A2, c2, Ar, cr, rfl, ?_, Kd.F_mono (Kd.F_below HTF.out HBf) (fun k hk => .inl hk), hn2, HBf⟩
  exact V_base (Kd.V_mono (Kd.V_far (p := ⟨w.heap.size + 1, 1, none⟩) (Kd.V_far (p := ⟨w.heap.size + 1, 0, none⟩) (Kd.V_far (p := ⟨w.heap.size, 1, none⟩) (Kd.V_far (p := ⟨w.heap.size, 0, none⟩) HV2.out (fun k hk => (HQ3.out k hk).1) _) (fun k hk => (HQ3.out k hk).1) _) (fun k hk => (HQ3.out k hk).2) _) (fun k hk => (HQ3.out k hk).2) _) (fun k hk => HQ4.out k hk))
set_option maxHeartbeats 8000000 in
set_option maxRecDepth 100000 in
theorem step_gone (P : Nat → Prop) (A : Option Addr) (c : Nat) (l : List S38) (kp : Int) (At : Option Addr) (ct : Nat) (p k : Nat) (rest : List (Nat × Nat)) (w : World) (hs : Kd.V k38 38 w w.heap.size P (.slice A l.length c) l) (Pt : Nat → Prop) (ht : Kd.F kc w Pt At (fls ((p, k) :: rest)).length (fls ((p, k) :: rest))) (htc : rest.length + 1 ≤ ct) (hrl : rest.length < 1000) (hp : p < l.length) (hl : l.length < 2000) (hk : k < 600) (hgone : (rd_T38 l (p : Nat)).f2.f1.length < k) :
    Calls Try.prog 10 #[.agg #[.slice A l.length c, .int .i64 kp], .slice At (rest.length + 1) ct] w fun e w' => ∃ (A' : Option Addr) (c' : Nat) (At' : Option Addr) (ct' : Nat), e = .returned (.tuple #[.agg #[.slice A' (l.set p ⟨0, true, ⟨false, []⟩⟩).length c', .int .i64 kp], .slice At' (rest).length ct']) ∧ Kd.V k38 38 w' w.heap.size (fun k => P k ∨ w.heap.size ≤ k) (.slice A' (l.set p ⟨0, true, ⟨false, []⟩⟩).length c') (l.set p ⟨0, true, ⟨false, []⟩⟩) ∧ Kd.F kc w' (fun k => Pt k ∨ w.heap.size ≤ k) At' (fls (rest)).length (fls (rest)) ∧ (rest).length ≤ ct' ∧ Below w.heap.size w w' := by
  obtain ⟨-, hc, hr⟩ := Kd.V_at hs
  obtain ⟨P', hP, hr'⟩ : ∃ P' : Nat → Prop, (∀ k, P' k → P k ∧ k < w.heap.size) ∧ Kd.F k38 w P' A l.length l := ⟨_, fun _ h => h, Kd.F_bound hr⟩
  obtain ⟨wA, hwA⟩ : ∃ wA, (w.alloc (.cells #[.slice A l.length c, .int .i64 kp] 24)).alloc (.cells #[.slice none 0 0, .int .i64 0] 24) = wA := ⟨_, rfl⟩
  have HB : Aside0 (Below w.heap.size w wA) := ⟨by rw [← hwA]; exact ((Below.refl _ w).alloc (Nat.le_refl _) _).alloc (by simp) _⟩
  have KXh : Aside0 (wA.heap[w.heap.size]? = some (.cells #[.slice A l.length c, .int .i64 kp] 24 (0, 0))) := ⟨by rw [← hwA]; exact blk_alloc (alloc_new w _) _⟩
  have KXr : Aside0 (wA.heap[w.heap.size + 1]? = some (.cells #[.slice none 0 0, .int .i64 0] 24 (0, 0))) := ⟨by
    rw [← hwA]
    have := alloc_new (w.alloc (.cells #[.slice A l.length c, .int .i64 kp] 24)) (.cells #[.slice none 0 0, .int .i64 0] 24)
    rwa [World.size_alloc] at this⟩
  obtain ⟨Q, hQ1, hQ2, hQ3, hQ4⟩ : ∃ Q : Nat → Prop, (∀ k, P' k → Q k) ∧ (∀ k, w.heap.size + 2 ≤ k → Q k) ∧ (∀ k, Q k → k ≠ w.heap.size ∧ k ≠ w.heap.size + 1) ∧ (∀ k, Q k → P k ∨ w.heap.size ≤ k) := by
    refine ⟨fun k => (P' k ∨ w.heap.size ≤ k) ∧ k ≠ w.heap.size ∧ k ≠ w.heap.size + 1, fun k hk => ?_, fun k hk => ?_, fun k hk => hk.2, fun k hk => hk.1.elim (fun h => .inl (hP k h).1) .inr⟩
    · have := (hP k hk).2; exact ⟨.inl hk, by omega, by omega⟩
    · exact ⟨.inr (by omega), by omega, by omega⟩
  have HQ2 := Aside0.mk hQ2
  have HQ3 := Aside0.mk hQ3
  have HQ4 := Aside0.mk hQ4
  have HVl : Aside0 (Kd.V k38 38 wA 0 Q (.slice A l.length c) l) := ⟨Kd.V_mk hc (Kd.F_mono (Kd.F_below hr' HB.out) hQ1)⟩
  have HTF := Aside0.mk (fls_tailF ht htc)
  replace ht := Kd.F_now ht
  obtain ⟨ad, rfl, x0⟩ := fls_head ht
  have HTR := Aside0.mk (fls_tail ht htc)
  have hx0 := pw_cell_below HB.out x0
  have HSZ := Aside0.mk (show w.heap.size + 1 < wA.heap.size from blk_lt KXr.out)
  have HP := Aside0.mk hp
  have HL := Aside0.mk hl
  have HK := Aside0.mk hk
  have HRL := Aside0.mk hrl
  have HKW := Aside0.mk (fun (w : World) (hr : Kd.C k38 w A l.length l) => kind_walk A c l kp p k w hr hp hl hk)
  have HTC := Aside0.mk htc
  obtain ⟨n, hn⟩ : ∃ n, rest.length + 1 = n := ⟨_, rfl⟩
  have hn0 : ((n : Int) == 0) = false := beq_eq_false_iff_ne.2 (by omega)
  have hn1 : (n == 0) = false := beq_eq_false_iff_ne.2 (by omega)
  have hn2 : ((0 : Int) < (n : Int)) = True := eq_true (by omega)
  have hn3 : (0 < n) = True := eq_true (by omega)
  have hn4 : (n = 0) = False := eq_false (by omega)
  obtain ⟨i0, hi0, hi1⟩ := Option.map_eq_some_iff.1 info48
  have hsz : i0.size = 1 := by simp only [Prod.mk.injEq] at hi1; exact hi1.2.1
  have hcut := cut_from (P := Try.prog) 28 48 .i64 Try.underlying28 hi0 1 hsz (some ad) n ct 1 (by decide) (by omega)
  rw [show (1 : Int).toNat = 1 from rfl, Nat.mul_one] at hcut
  obtain ⟨Ar, hAr⟩ : ∃ Ar, (if ct = 1 then some ad else (some ad).map (·.add 1)) = Ar := ⟨_, rfl⟩
  obtain ⟨cr, hcr⟩ : ∃ cr, ct - 1 = cr := ⟨_, rfl⟩
  obtain ⟨nr, hnr⟩ : ∃ nr, n - 1 = nr := ⟨_, rfl⟩
  rw [hAr] at HTR HTF hcut
  rw [hcr, hnr] at hcut
  have HNR : Aside0 (nr = rest.length ∧ rest.length ≤ cr) := ⟨by omega⟩
  have HN := Aside0.mk hn
  rw [hn]
  have HKV : Aside0 (kindV p k (rd_T38 l (p : Nat)) = .iface 57 (.agg #[.int .i64 p])) := ⟨by unfold kindV; rw [if_pos hgone]⟩
  generalize fl p = fp at x0 hx0 HKW
  generalize fl k = fk at x0 hx0 HKW
  have hu24 := Try.underlying24
  have hu28 := Try.underlying28
  have hu38 := Try.underlying38
  clear hs hr hr' hP hQ1 hQ2 hQ3 hQ4 ht hn hnr hcr hAr hi0 hi1 hsz x0 hc hp hl hk hrl htc
  go_enter Try.func10, Try.ntmps10
  go_wp2_with fail
  clear hwA HSZ hn0 hn1 hn4
  have Z0 : Aside0 (wA.cell? ad = some (.complex .f64 fp fk)) := ⟨hx0⟩
  clear hx0
  replace Z0 : Aside0 (wA.drew.cell? ad = some (.complex .f64 fp fk)) := ⟨Z0.out⟩
  replace HB := Aside0.mk (below_drew HB.out)
  replace KXh := Aside0.mk (blk_drew KXh.out)
  replace KXr := Aside0.mk (blk_drew KXr.out)
  replace HVl := Aside0.mk (Kd.V_drew HVl.out)
  refine start_ (n := 7) (S := fun w' => w'.cell? ad = some (.complex .f64 fp fk)) (ds := []) #[false, false, false, false, false, false, false] (by kernel_rfl) rfl rfl Z0.out (fun hHeld => ?_)
  refine with_tabW hSt.tab3 hSt.bits3 (fun HT_ HW_ => ?_)
  generalize wA.drew = wdr3 at Z0 HB KXh KXr HVl hHeld ⊢
  refine pure_ (i := 0) (N := some 17) (v := ?_) (a' := ?_) #[true, false, false, false, false, false, false] rfl rfl (any_of HT_.out (by kernel_rfl)) (fun _ _ _ h => h) (Or.inl ⟨by rfl, ?_⟩) ?_ ?_
  rotate_left
  · intro w'
    go_simp
    with_reducible rfl
  rotate_left
  · simp only [Act.put, List.setIfInBounds_toArray, List.set_cons_zero, List.set_cons_succ, i64_w, i32_w]
    rfl
  refine pure_ (i := 1) (N := some 18) (v := ?_) (a' := ?_) #[true, true, false, false, false, false, false] rfl rfl (any_of HT_.out (by kernel_rfl)) (fun _ _ _ h => h) (Or.inl ⟨by rfl, ?_⟩) ?_ ?_
  rotate_left
  · intro w'
    go_simp
    with_reducible rfl
  rotate_left
  · simp only [Act.put, List.setIfInBounds_toArray, List.set_cons_zero, List.set_cons_succ, i64_w, i32_w]
    rfl
  refine take_ (i := 2) (N := some 19) (v := ?_) (a' := ?_) #[true, true, true, false, false, false, false] rfl rfl (take_ofW HT_.out HW_.out (by kernel_rfl)) (fun _ _ _ h => h) (Or.inl ⟨by rfl, ?_⟩) hHeld ?_ ?_
  rotate_left
  · rintro w' s0
    go_simp
    with_reducible rfl
  rotate_left
  · simp only [Act.put, List.setIfInBounds_toArray, List.set_cons_zero, List.set_cons_succ, i64_w, i32_w]
    rfl
  refine pure_ (i := 3) (N := some 20) (v := ?_) (a' := ?_) #[true, true, true, true, false, false, false] rfl rfl (any_of HT_.out (by kernel_rfl)) (fun _ _ _ h => h) (Or.inl ⟨by rfl, ?_⟩) ?_ ?_
  rotate_left
  · intro w'
    go_simp
    with_reducible rfl
  rotate_left
  · simp only [Act.put, List.setIfInBounds_toArray, List.set_cons_zero, List.set_cons_succ, i64_w, i32_w]
    rfl
  refine pure_ (i := 4) (N := some 21) (v := ?_) (a' := ?_) #[true, true, true, true, true, false, false] rfl rfl (any_of HT_.out (by kernel_rfl)) (fun _ _ _ h => h) (Or.inl ⟨by rfl, ?_⟩) ?_ ?_
  rotate_left
  · intro w'
    go_simp
    with_reducible rfl
  rotate_left
  · simp only [Act.put, List.setIfInBounds_toArray, List.set_cons_zero, List.set_cons_succ, i64_w, i32_w]
    rfl
  refine pure_ (i := 5) (N := some 6) (v := ?_) (a' := ?_) #[true, true, true, true, true, true, false] rfl rfl (any_of HT_.out (by kernel_rfl)) (fun _ _ _ h => h) (Or.inl ⟨by rfl, ?_⟩) ?_ ?_
  rotate_left
  · intro w'
    go_simp
    with_reducible rfl
  rotate_left
  · simp only [Act.put, List.setIfInBounds_toArray, List.set_cons_zero, List.set_cons_succ, i64_w, i32_w]
    rfl
  refine pure_ (i := 6) (N := some 7) (v := ?_) (a' := ?_) #[true, true, true, true, true, true, true] rfl rfl (any_of HT_.out (by kernel_rfl)) (fun _ _ _ h => h) (Or.inl ⟨by rfl, ?_⟩) ?_ ?_
  rotate_left
  · intro w'
    go_simp
    with_reducible rfl
  rotate_left
  · simp only [Act.put, List.setIfInBounds_toArray, List.set_cons_zero, List.set_cons_succ, i64_w, i32_w]
    rfl
  refine done_ (done_of HT_.out (by kernel_rfl)) ?_
  clear hHeld HT_ HW_
  clear Z0 hcut hn2 hn3
  have b0 : wdr3.cell? ⟨w.heap.size, 0, none⟩ = some (.slice A l.length c) := (blk_cell KXh.out 0).trans rfl
  have b1 : wdr3.cell? ⟨w.heap.size, 1, none⟩ = some (.int .i64 kp) := (blk_cell KXh.out 1).trans rfl
  go_wp2_with fail
  clear b0 b1
  refine (HKW.out _ (Kd.V_reads' HVl.out).2.2).mono ?_
  rintro e w2 ⟨rfl, hb⟩
  rw [HKV.out]
  replace HB := Aside0.mk (HB.out.trans (hb.mono HB.out.size))
  replace KXh := Aside0.mk (blk_below KXh.out hb)
  replace KXr := Aside0.mk (blk_below KXr.out hb)
  replace HVl := Aside0.mk (Kd.V_below HVl.out hb)
  clear hb
  have b0 : w2.cell? ⟨w.heap.size, 0, none⟩ = some (.slice A l.length c) := (blk_cell KXh.out 0).trans rfl
  have b1 : w2.cell? ⟨w.heap.size, 1, none⟩ = some (.int .i64 kp) := (blk_cell KXh.out 1).trans rfl
  have y0 : w2.cell? ⟨w.heap.size + 1, 0, none⟩ = some (.slice none 0 0) := (blk_cell KXr.out 0).trans rfl
  have y1 : w2.cell? ⟨w.heap.size + 1, 1, none⟩ = some (.int .i64 0) := (blk_cell KXr.out 1).trans rfl
  have l0 : w.heap.size + 1 < w2.heap.size := blk_lt KXr.out
  have l1 : w.heap.size < w2.heap.size := blk_lt KXh.out
  obtain ⟨adl, _, _, rfl, -⟩ := at_T38 (Kd.V_reads' HVl.out).2.2 (p : Int) (by omega) (by have := HP.out; omega)
  have a1 := as57_54
  have a2 := as57_57
  have hu57 := Try.underlying57
  go_wp2_with fail
  clear b0 b1 y0 y1 l0 l1 a1 a2
  have hpre : Below w2.heap.size w2 (w2.alloc (.cells #[.int .i64 p] 57)) := (Below.refl w2.heap.size w2).alloc (Nat.le_refl _) _
  replace HB := Aside0.mk (HB.out.trans (hpre.mono HB.out.size))
  replace KXh := Aside0.mk (blk_below KXh.out hpre)
  replace KXr := Aside0.mk (blk_below KXr.out hpre)
  replace HVl := Aside0.mk (Kd.V_below HVl.out hpre)
  have KXz : Aside0 ((w2.alloc (.cells #[.int .i64 p] 57)).heap[w2.heap.size]? = some (.cells #[.int .i64 p] 57 (0, 0))) := ⟨alloc_new w2 _⟩
  obtain ⟨w3, hw3⟩ : ∃ w3, w2.alloc (.cells #[.int .i64 p] 57) = w3 := ⟨_, rfl⟩
  rw [hw3]
  rw [hw3] at HB KXh KXr HVl KXz
  clear hw3 hpre
  refine (clone_walk Q adl c l w3 (V_base HVl.out) HL.out).mono ?_
  rintro e w4 ⟨v_, rfl, hv, hb⟩
  have HS3 := Aside0.mk (show w.heap.size + 1 < w3.heap.size from blk_lt KXr.out)
  have HS4 := Aside0.mk (show w2.heap.size < w3.heap.size from blk_lt KXz.out)
  replace HB := Aside0.mk (HB.out.trans (hb.mono HB.out.size))
  replace KXh := Aside0.mk (blk_below KXh.out hb)
  replace KXr := Aside0.mk (blk_below KXr.out hb)
  replace HVl := Aside0.mk (Kd.V_below HVl.out hb)
  replace KXz := Aside0.mk (blk_below KXz.out hb)
  have hv2 := Kd.N_mono (ok' := Q) hv (fun k hk => hk.elim id (fun h => HQ2.out k (by have := HS3.out; omega)))
  clear hb hv
  obtain ⟨go, co, rfl, gb, gl, -⟩ := Kd.N_form hv2 (by have := HP.out; omega)
  have HN := Aside0.mk hv2
  obtain ⟨ce, hcl, hM, hcc, hfr⟩ := Kd.N_elem hv2 z38 (p : Int) (by omega) (by have := HP.out; omega)
  obtain ⟨A3, c3, rfl, -, -⟩ := k38_openF hM
  have HSG := Aside0.mk (Kd.N_seg hv2 (p : Int) (by omega) (by have := HP.out; omega) (seg := [.int .i64 0, .bool true, .bool false, .slice none 0 0]) (j := 0) hcl hcc (show 4 ≤ 4 from by decide) (x' := (⟨0, true, ⟨false, []⟩⟩ : S38)) (k38_mkF _ (fun _ => False) (⟨0, true, ⟨false, []⟩⟩ : S38) (A3 := none) (c3 := 0) (Nat.le_refl _) (Kd.F_nil k46 _ _)) (fun _ hk => hk.elim))
  have HGB := Aside0.mk (show w.heap.size + 1 < go ∧ w3.heap.size ≤ go from ⟨by have := HS3.out; omega, gb⟩)
  have x0 := hcc 0 _ rfl
  have f0 := hfr (0)
  have x1 := hcc 1 _ rfl
  have f1 := hfr (1)
  have x2 := hcc 2 _ rfl
  have f2 := hfr (2)
  have x3 := hcc 3 _ rfl
  have f3 := hfr (3)
  rw [Int.toNat_natCast] at x0 x1 x2 x3 f0 f1 f2 f3
  clear hcl hM hcc hfr hv2 gb
  have x0' : w4.cell? ⟨go, p * 4, none⟩ = _ := x0
  have f0' : w4.frozen? ⟨go, p * 4, none⟩ = false := f0
  have x1' : w4.cell? ⟨go, p * 4 + 1, none⟩ = _ := x1
  have f1' : w4.frozen? ⟨go, p * 4 + 1, none⟩ = false := f1
  have x2' : w4.cell? ⟨go, p * 4 + 2, none⟩ = _ := x2
  have f2' : w4.frozen? ⟨go, p * 4 + 2, none⟩ = false := f2
  have x3' : w4.cell? ⟨go, p * 4 + 3, none⟩ = _ := x3
  have f3' : w4.frozen? ⟨go, p * 4 + 3, none⟩ = false := f3
  clear x0 x1 x2 x3 f0 f1 f2 f3
  have hpl := eq_true (show (p : Int) < (l.length : Int) by have := HP.out; omega)
  have z0 : w4.cell? ⟨w2.heap.size, 0, none⟩ = some (.int .i64 p) := (blk_cell KXz.out 0).trans rfl
  have lz : w2.heap.size < w4.heap.size := blk_lt KXz.out
  have b0 : w4.cell? ⟨w.heap.size, 0, none⟩ = some (.slice (some adl) l.length c) := (blk_cell KXh.out 0).trans rfl
  have b1 : w4.cell? ⟨w.heap.size, 1, none⟩ = some (.int .i64 kp) := (blk_cell KXh.out 1).trans rfl
  have y0 : w4.cell? ⟨w.heap.size + 1, 0, none⟩ = some (.slice none 0 0) := (blk_cell KXr.out 0).trans rfl
  have y1 : w4.cell? ⟨w.heap.size + 1, 1, none⟩ = some (.int .i64 0) := (blk_cell KXr.out 1).trans rfl
  have l0 : w.heap.size + 1 < w4.heap.size := blk_lt KXr.out
  have l1 : w.heap.size < w4.heap.size := blk_lt KXh.out
  have nz : go ≠ w2.heap.size := by have := HS4.out; have := HGB.out; omega
  have nz2 : w2.heap.size ≠ go := fun h => nz h.symm
  have ny : go ≠ w.heap.size + 1 := by have := HGB.out; omega
  have ny2 : w.heap.size + 1 ≠ go := fun h => ny h.symm
  have nb : go ≠ w.heap.size := by have := HGB.out; omega
  have nb2 : w.heap.size ≠ go := fun h => nb h.symm
  have g0 := blk_frozen KXr.out 0
  have g1 := blk_frozen KXr.out 1
  go_wp2
  have HN5 : Kd.N k38 38 ((((w4.setCell ⟨go, p * 4, none⟩ (.int .i64 0)).setCell ⟨go, p * 4 + 1, none⟩ (.bool true)).setCell ⟨go, p * 4 + 2, none⟩ (.bool false)).setCell ⟨go, p * 4 + 3, none⟩ (.slice none 0 0)) w3.heap.size Q (.slice (some ⟨go, 0, none⟩) l.length co) (l.set p ⟨0, true, ⟨false, []⟩⟩) := by have := HSG.out.1; rw [Int.toNat_natCast] at this; exact this
  have KXr2 : ((((w4.setCell ⟨go, p * 4, none⟩ (.int .i64 0)).setCell ⟨go, p * 4 + 1, none⟩ (.bool true)).setCell ⟨go, p * 4 + 2, none⟩ (.bool false)).setCell ⟨go, p * 4 + 3, none⟩ (.slice none 0 0)).heap[w.heap.size + 1]? = some (.cells #[.slice none 0 0, .int .i64 0] 24 (0, 0)) := blk_far (p := ⟨go, p * 4 + 3, none⟩) (blk_far (p := ⟨go, p * 4 + 2, none⟩) (blk_far (p := ⟨go, p * 4 + 1, none⟩) (blk_far (p := ⟨go, p * 4, none⟩) KXr.out ny2 _) ny2 _) ny2 _) ny2 _
  have hgo : w.heap.size ≤ go := by have := HGB.out; omega
  have HB5 : Below w.heap.size w ((((w4.setCell ⟨go, p * 4, none⟩ (.int .i64 0)).setCell ⟨go, p * 4 + 1, none⟩ (.bool true)).setCell ⟨go, p * 4 + 2, none⟩ (.bool false)).setCell ⟨go, p * 4 + 3, none⟩ (.slice none 0 0)) := below_set (below_set (below_set (below_set HB.out hgo) hgo) hgo) hgo
  generalize ((((w4.setCell ⟨go, p * 4, none⟩ (.int .i64 0)).setCell ⟨go, p * 4 + 1, none⟩ (.bool true)).setCell ⟨go, p * 4 + 2, none⟩ (.bool false)).setCell ⟨go, p * 4 + 3, none⟩ (.slice none 0 0)) = w5 at HN5 KXr2 HB5 ⊢
  have HBf := below_set (below_set HB5 (show w.heap.size ≤ w.heap.size + 1 by omega) (j := 0) (v := .slice (some ⟨go, 0, none⟩) l.length co)) (show w.heap.size ≤ w.heap.size + 1 by omega) (j := 1) (v := .int .i64 kp)
  obtain ⟨hn1, hn2⟩ := HNR.out
  rw [hn1]
  refine bodyPost_ret (results_ct rfl _ _ (w.heap.size + 1) 24 #[.slice (some ⟨go, 0, none⟩) l.length co, .int .i64 kp] (0, 0) _ rfl (blk_put (cs := #[.slice (some ⟨go, 0, none⟩) l.length co, .int .i64 0]) (blk_put (cs := #[.slice none 0 0, .int .i64 0]) KXr2 0 _ rfl) 1 _ rfl) Try.underlying24 rfl (by kernel_rfl)) rfl ?_
  have HV5 : Kd.V k38 38 w5 0 Q (.slice (some ⟨go, 0, none⟩) l.length co) (l.set p ⟨0, true, ⟨false, []⟩⟩) := Kd.N_V HN5
  refine ⟨some ⟨go, 0, none⟩, co, Ar, cr, by rw [List.length_set]; rfl, ?_, Kd.F_mono (Kd.F_below HTF.out HBf) (fun k hk => .inl hk), hn2, HBf⟩
  rw [List.length_set]
  exact V_base (Kd.V_mono (Kd.V_far (p := ⟨w.heap.size + 1, 1, none⟩) (Kd.V_far (p := ⟨w.heap.size + 1, 0, none⟩) HV5 (fun k hk => (HQ3.out k hk).2) _) (fun k hk => (HQ3.out k hk).2) _) (fun k hk => HQ4.out k hk))
end Go.Proofs.Ytflndiikeoflfaa.P
end
section
namespace Go.Proofs.Ytflndiikeoflfaa.P
open Go.RowKit Go.Proofs.YtflndiikeoflfaaW.PrintWords Go.Proofs.YtflndiikeoflfaaW.PrintLast Go.Proofs.YtflndiikeoflfaaW.PrintMore
set_option linter.unusedVariables false
set_option linter.unusedSimpArgs false
theorem kc_heap : Kd.Heap kc := ⟨fun _ h => h⟩
theorem below_eq {w w1 : World} (h : w1 = w) : Below w.heap.size w w1 := by rw [h]; exact Below.refl _ _
def hSu.T16 : Bool × List (List Nat × List Nat) := (true, [([], []), ([], []), ([1], [1]), ([2], [2]), ([], []), ([4, 3], [4]), ([3, 5], [3, 5]), ([], []), ([6, 7], [6, 7]), ([8, 5], [8]), ([0, 9, 0], [0]), ([9, 10, 0, 1, 2, 3, 4, 5, 6, 7, 8, 9, 10], [9])])
def hSu.B16 : List Nat := [0, 0, 2, 6, 0, 30, 62, 0, 254, 510, 1023, 2047]
theorem hSu.tab16 : rtab .any (opsOf Try.f10 16) = hSu.T16 := by kernel_rfl
theorem hSu.bits16 : waitsOk hSu.T16.2 hSu.B16 = true := by kernel_rfl
def hSu.T17 : Bool × List (List Nat × List Nat) := (true, [([], []), ([], []), ([1], [1]), ([2], [2]), ([], []), ([3, 4], [3, 4]), ([5, 2], [5]), ([0, 6, 0], [0]), ([6, 7, 0, 1, 2, 3, 4, 5, 6, 7], [6])])
def hSu.B17 : List Nat := [0, 0, 2, 6, 0, 30, 62, 127, 255]
theorem hSu.tab17 : rtab .any (opsOf Try.f10 17) = hSu.T17 := by kernel_rfl
theorem hSu.bits17 : waitsOk hSu.T17.2 hSu.B17 = true := by kernel_rfl
set_option maxHeartbeats 8000000 in
set_option maxRecDepth 100000 in
theorem step_begun (P : Nat → Prop) (A : Option Addr) (c : Nat) (l : List S38) (kp : Int) (At : Option Addr) (ct : Nat) (p k : Nat) (rest : List (Nat × Nat)) (w : World) (hs : Kd.V k38 38 w w.heap.size P (.slice A l.length c) l) (Pt : Nat → Prop) (ht : Kd.F kc w Pt At (fls ((p, k) :: rest)).length (fls ((p, k) :: rest))) (htc : rest.length + 1 ≤ ct) (hrl : rest.length < 1000) (hp : p < l.length) (hl : l.length < 2000) (hk : k < 600) (hk0 : k = 0) (hbeg : ¬ ((rd_T38 l (p : Nat)).f0 ≠ 1 ∨ (rd_T38 l (p : Nat)).f2.f0 = true)) (hp2 : p < 2000) :
    Calls Try.prog 10 #[.agg #[.slice A l.length c, .int .i64 kp], .slice At (rest.length + 1) ct] w fun e w' => ∃ (A' : Option Addr) (c' : Nat) (At' : Option Addr) (ct' : Nat), e = .returned (.tuple #[.agg #[.slice A' (l).length c', .int .i64 kp], .slice At' ((p, k + 1) :: rest).length ct']) ∧ Kd.V k38 38 w' w.heap.size (fun k => P k ∨ w.heap.size ≤ k) (.slice A' (l).length c') (l) ∧ Kd.F kc w' (fun k => Pt k ∨ w.heap.size ≤ k) At' (fls ((p, k + 1) :: rest)).length (fls ((p, k + 1) :: rest)) ∧ ((p, k + 1) :: rest).length ≤ ct' ∧ Below w.heap.size w w' := by
  obtain ⟨-, hc, hr⟩ := Kd.V_at hs
  obtain ⟨P', hP, hr'⟩ : ∃ P' : Nat → Prop, (∀ k, P' k → P k ∧ k < w.heap.size) ∧ Kd.F k38 w P' A l.length l := ⟨_, fun _ h => h, Kd.F_bound hr⟩
  obtain ⟨wA, hwA⟩ : ∃ wA, (w.alloc (.cells #[.slice A l.length c, .int .i64 kp] 24)).alloc (.cells #[.slice none 0 0, .int .i64 0] 24) = wA := ⟨_, rfl⟩
  have HB : Aside0 (Below w.heap.size w wA) := ⟨by rw [← hwA]; exact ((Below.refl _ w).alloc (Nat.le_refl _) _).alloc (by simp) _⟩
  have KXh : Aside0 (wA.heap[w.heap.size]? = some (.cells #[.slice A l.length c, .int .i64 kp] 24 (0, 0))) := ⟨by rw [← hwA]; exact blk_alloc (alloc_new w _) _⟩
  have KXr : Aside0 (wA.heap[w.heap.size + 1]? = some (.cells #[.slice none 0 0, .int .i64 0] 24 (0, 0))) := ⟨by
    rw [← hwA]
    have := alloc_new (w.alloc (.cells #[.slice A l.length c, .int .i64 kp] 24)) (.cells #[.slice none 0 0, .int .i64 0] 24)
    rwa [World.size_alloc] at this⟩
  obtain ⟨Q, hQ1, hQ2, hQ3, hQ4⟩ : ∃ Q : Nat → Prop, (∀ k, P' k → Q k) ∧ (∀ k, w.heap.size + 2 ≤ k → Q k) ∧ (∀ k, Q k → k ≠ w.heap.size ∧ k ≠ w.heap.size + 1) ∧ (∀ k, Q k → P k ∨ w.heap.size ≤ k) := by
    refine ⟨fun k => (P' k ∨ w.heap.size ≤ k) ∧ k ≠ w.heap.size ∧ k ≠ w.heap.size + 1, fun k hk => ?_, fun k hk => ?_, fun k hk => hk.2, fun k hk => hk.1.elim (fun h => .inl (hP k h).1) .inr⟩
    · have := (hP k hk).2; exact ⟨.inl hk, by omega, by omega⟩
    · exact ⟨.inr (by omega), by omega, by omega⟩
  have HQ2 := Aside0.mk hQ2
  have HQ3 := Aside0.mk hQ3
  have HQ4 := Aside0.mk hQ4
  have HVl : Aside0 (Kd.V k38 38 wA 0 Q (.slice A l.length c) l) := ⟨Kd.V_mk hc (Kd.F_mono (Kd.F_below hr' HB.out) hQ1)⟩
  have HTF := Aside0.mk (fls_tailF ht htc)
  replace ht := Kd.F_now ht
  obtain ⟨ad, rfl, x0⟩ := fls_head ht
  have HTR := Aside0.mk (fls_tail ht htc)
  have hx0 := pw_cell_below HB.out x0
  have HSZ := Aside0.mk (show w.heap.size + 1 < wA.heap.size from blk_lt KXr.out)
  have HP := Aside0.mk hp
  have HL := Aside0.mk hl
  have HK := Aside0.mk hk
  have HRL := Aside0.mk hrl
  have HKW := Aside0.mk (fun (w : World) (hr : Kd.C k38 w A l.length l) => kind_walk A c l kp p k w hr hp hl hk)
  have HTC := Aside0.mk htc
  obtain ⟨n, hn⟩ : ∃ n, rest.length + 1 = n := ⟨_, rfl⟩
  have hn0 : ((n : Int) == 0) = false := beq_eq_false_iff_ne.2 (by omega)
  have hn1 : (n == 0) = false := beq_eq_false_iff_ne.2 (by omega)
  have hn2 : ((0 : Int) < (n : Int)) = True := eq_true (by omega)
  have hn3 : (0 < n) = True := eq_true (by omega)
  have hn4 : (n = 0) = False := eq_false (by omega)
  obtain ⟨i0, hi0, hi1⟩ := Option.map_eq_some_iff.1 info48
  have hsz : i0.size = 1 := by simp only [Prod.mk.injEq] at hi1; exact hi1.2.1
  have hcut := cut_from (P := Try.prog) 28 48 .i64 Try.underlying28 hi0 1 hsz (some ad) n ct 1 (by decide) (by omega)
  rw [show (1 : Int).toNat = 1 from rfl, Nat.mul_one] at hcut
  obtain ⟨Ar, hAr⟩ : ∃ Ar, (if ct = 1 then some ad else (some ad).map (·.add 1)) = Ar := ⟨_, rfl⟩
  obtain ⟨cr, hcr⟩ : ∃ cr, ct - 1 = cr := ⟨_, rfl⟩
  obtain ⟨nr, hnr⟩ : ∃ nr, n - 1 = nr := ⟨_, rfl⟩
  rw [hAr] at HTR HTF hcut
  rw [hcr, hnr] at hcut
  have HNR : Aside0 (nr = rest.length ∧ rest.length ≤ cr) := ⟨by omega⟩
  have HN := Aside0.mk hn
  rw [hn]
  have HKV : Aside0 (kindV p k (rd_T38 l (p : Nat)) = .iface 68 (.agg #[])) := ⟨by unfold kindV; rw [if_neg (by omega), if_neg (by omega), if_neg hbeg]⟩
  have HON := Aside0.mk (fun (w : World) => on_walk p k (by omega) hk w)
  obtain ⟨fp, hfp⟩ : ∃ f, fl p = f := ⟨_, rfl⟩
  obtain ⟨fk, hfk⟩ : ∃ f, fl k = f := ⟨_, rfl⟩
  obtain ⟨fk1, hfk1⟩ : ∃ f, fl (k + 1) = f := ⟨_, rfl⟩
  rw [hfp, hfk] at x0 hx0 HKW
  rw [hfp, hfk, hfk1] at HON
  have HFP := Aside0.mk hfp
  have HFK1 := Aside0.mk hfk1
  clear hfp hfk hfk1
  obtain ⟨fr, hfr⟩ : ∃ f, fls rest = f := ⟨_, rfl⟩
  have HFRL : Aside0 (fr.length = rest.length) := ⟨by rw [← hfr, fls_len]⟩
  rw [hfr] at HTR
  have HFR := Aside0.mk hfr
  have HNF : Aside0 (nr = fr.length) := ⟨by have := HFRL.out; have := HNR.out.1; omega⟩
  have HNC : Aside0 (fr.length ≤ cr) := ⟨by have := HFRL.out; have := HNR.out.2; omega⟩
  clear hfr
  have HCF : Aside0 (slices_Concat_cpx.f [[(fp, fk1)], fr] = some ([(fp, fk1)] ++ fr)) := ⟨by unfold slices_Concat_cpx.f; rw [if_pos (by have := HFRL.out; constructor <;> simp <;> omega)]; simp⟩
  have hu24 := Try.underlying24
  have hu28 := Try.underlying28
  have hu38 := Try.underlying38
  clear hs hr hr' hP hQ1 hQ2 hQ3 hQ4 ht hn hnr hcr hAr hi0 hi1 hsz x0 hc hp hl hk hrl htc
  go_enter Try.func10, Try.ntmps10
  go_wp2_with fail
  clear hwA HSZ hn0 hn1 hn4
  have Z0 : Aside0 (wA.cell? ad = some (.complex .f64 fp fk)) := ⟨hx0⟩
  clear hx0
  replace Z0 : Aside0 (wA.drew.cell? ad = some (.complex .f64 fp fk)) := ⟨Z0.out⟩
  replace HB := Aside0.mk (below_drew HB.out)
  replace KXh := Aside0.mk (blk_drew KXh.out)
  replace KXr := Aside0.mk (blk_drew KXr.out)
  replace HVl := Aside0.mk (Kd.V_drew HVl.out)
  refine start_ (n := 7) (S := fun w' => w'.cell? ad = some (.complex .f64 fp fk)) (ds := []) #[false, false, false, false, false, false, false] (by kernel_rfl) rfl rfl Z0.out (fun hHeld => ?_)
  refine with_tabW hSt.tab3 hSt.bits3 (fun HT_ HW_ => ?_)
  generalize wA.drew = wdr3 at Z0 HB KXh KXr HVl hHeld ⊢
  refine pure_ (i := 0) (N := some 17) (v := ?_) (a' := ?_) #[true, false, false, false, false, false, false] rfl rfl (any_of HT_.out (by kernel_rfl)) (fun _ _ _ h => h) (Or.inl ⟨by rfl, ?_⟩) ?_ ?_
  rotate_left
  · intro w'
    go_simp
    with_reducible rfl
  rotate_left
  · simp only [Act.put, List.setIfInBounds_toArray, List.set_cons_zero, List.set_cons_succ, i64_w, i32_w]
    rfl
  refine pure_ (i := 1) (N := some 18) (v := ?_) (a' := ?_) #[true, true, false, false, false, false, false] rfl rfl (any_of HT_.out (by kernel_rfl)) (fun _ _ _ h => h) (Or.inl ⟨by rfl, ?_⟩) ?_ ?_
  rotate_left
  · intro w'
    go_simp
    with_reducible rfl
  rotate_left
  · simp only [Act.put, List.setIfInBounds_toArray, List.set_cons_zero, List.set_cons_succ, i64_w, i32_w]
    rfl
  refine take_ (i := 2) (N := some 19) (v := ?_) (a' := ?_) #[true, true, true, false, false, false, false] rfl rfl (take_ofW HT_.out HW_.out (by kernel_rfl)) (fun _ _ _ h => h) (Or.inl ⟨by rfl, ?_⟩) hHeld ?_ ?_
  rotate_left
  · rintro w' s0
    go_simp
    with_reducible rfl
  rotate_left
  · simp only [Act.put, List.setIfInBounds_toArray, List.set_cons_zero, List.set_cons_succ, i64_w, i32_w]
    rfl
  refine pure_ (i := 3) (N := some 20) (v := ?_) (a' := ?_) #[true, true, true, true, false, false, false] rfl rfl (any_of HT_.out (by kernel_rfl)) (fun _ _ _ h => h) (Or.inl ⟨by rfl, ?_⟩) ?_ ?_
  rotate_left
  · intro w'
    go_simp
    with_reducible rfl
  rotate_left
  · simp only [Act.put, List.setIfInBounds_toArray, List.set_cons_zero, List.set_cons_succ, i64_w, i32_w]
    rfl
  refine pure_ (i := 4) (N := some 21) (v := ?_) (a' := ?_) #[true, true, true, true, true, false, false] rfl rfl (any_of HT_.out (by kernel_rfl)) (fun _ _ _ h => h) (Or.inl ⟨by rfl, ?_⟩) ?_ ?_
  rotate_left
  · intro w'
    go_simp
    with_reducible rfl
  rotate_left
  · simp only [Act.put, List.setIfInBounds_toArray, List.set_cons_zero, List.set_cons_succ, i64_w, i32_w]
    rfl
  refine pure_ (i := 5) (N := some 6) (v := ?_) (a' := ?_) #[true, true, true, true, true, true, false] rfl rfl (any_of HT_.out (by kernel_rfl)) (fun _ _ _ h => h) (Or.inl ⟨by rfl, ?_⟩) ?_ ?_
  rotate_left
  · intro w'
    go_simp
    with_reducible rfl
  rotate_left
  · simp only [Act.put, List.setIfInBounds_toArray, List.set_cons_zero, List.set_cons_succ, i64_w, i32_w]
    rfl
  refine pure_ (i := 6) (N := some 7) (v := ?_) (a' := ?_) #[true, true, true, true, true, true, true] rfl rfl (any_of HT_.out (by kernel_rfl)) (fun _ _ _ h => h) (Or.inl ⟨by rfl, ?_⟩) ?_ ?_
  rotate_left
  · intro w'
    go_simp
    with_reducible rfl
  rotate_left
  · simp only [Act.put, List.setIfInBounds_toArray, List.set_cons_zero, List.set_cons_succ, i64_w, i32_w]
    rfl
  refine done_ (done_of HT_.out (by kernel_rfl)) ?_
  clear hHeld HT_ HW_
  clear Z0 hcut hn2 hn3
  have b0 : wdr3.cell? ⟨w.heap.size, 0, none⟩ = some (.slice A l.length c) := (blk_cell KXh.out 0).trans rfl
  have b1 : wdr3.cell? ⟨w.heap.size, 1, none⟩ = some (.int .i64 kp) := (blk_cell KXh.out 1).trans rfl
  go_wp2_with fail
  clear b0 b1
  refine (HKW.out _ (Kd.V_reads' HVl.out).2.2).mono ?_
  rintro e w2 ⟨rfl, hb⟩
  rw [HKV.out]
  replace HB := Aside0.mk (HB.out.trans (hb.mono HB.out.size))
  replace KXh := Aside0.mk (blk_below KXh.out hb)
  replace KXr := Aside0.mk (blk_below KXr.out hb)
  replace HVl := Aside0.mk (Kd.V_below HVl.out hb)
  clear hb
  have b0 : w2.cell? ⟨w.heap.size, 0, none⟩ = some (.slice A l.length c) := (blk_cell KXh.out 0).trans rfl
  have b1 : w2.cell? ⟨w.heap.size, 1, none⟩ = some (.int .i64 kp) := (blk_cell KXh.out 1).trans rfl
  have y0 : w2.cell? ⟨w.heap.size + 1, 0, none⟩ = some (.slice none 0 0) := (blk_cell KXr.out 0).trans rfl
  have y1 : w2.cell? ⟨w.heap.size + 1, 1, none⟩ = some (.int .i64 0) := (blk_cell KXr.out 1).trans rfl
  have l0 : w.heap.size + 1 < w2.heap.size := blk_lt KXr.out
  have l1 : w.heap.size < w2.heap.size := blk_lt KXh.out
  have a1 := as68_54
  have a2 := as68_57
  have a3 := as68_59
  have hu59 := Try.underlying59
  go_wp2_with fail
  clear b0 b1 y0 y1 l0 l1 a1 a2 a3
  replace HTR := Aside0.mk (Kd.C_below HTR.out HB.out)
  have Z0 : Aside0 (w2.cell? ⟨w.heap.size, 0, none⟩ = some (.slice A l.length c)) := ⟨(blk_cell KXh.out 0).trans rfl⟩
  have Z1 : Aside0 (w2.cell? ⟨w.heap.size, 1, none⟩ = some (.int .i64 kp)) := ⟨(blk_cell KXh.out 1).trans rfl⟩
  replace Z0 : Aside0 (w2.drew.cell? ⟨w.heap.size, 0, none⟩ = some (.slice A l.length c)) := ⟨Z0.out⟩
  replace Z1 : Aside0 (w2.drew.cell? ⟨w.heap.size, 1, none⟩ = some (.int .i64 kp)) := ⟨Z1.out⟩
  replace HB := Aside0.mk (below_drew HB.out)
  replace KXh := Aside0.mk (blk_drew KXh.out)
  replace KXr := Aside0.mk (blk_drew KXr.out)
  replace HVl := Aside0.mk (Kd.V_drew HVl.out)
  replace HTR := Aside0.mk (Kd.C_drew HTR.out)
  refine start_ (n := 9) (S := fun w' => w'.cell? ⟨w.heap.size, 0, none⟩ = some (.slice A l.length c) ∧ w'.cell? ⟨w.heap.size, 1, none⟩ = some (.int .i64 kp)) (ds := [7]) #[false, false, false, false, false, false, false, false, false] (by kernel_rfl) rfl rfl ⟨Z0.out, Z1.out⟩ (fun hHeld => ?_)
  refine with_tabW hSu.tab17 hSu.bits17 (fun HT_ HW_ => ?_)
  generalize w2.drew = wdr17 at Z0 Z1 HB KXh KXr HVl HTR hHeld ⊢
  refine take_ (i := 0) (N := some 66) (v := ?_) (a' := ?_) #[true, false, false, false, false, false, false, false, false] rfl rfl (take_ofW HT_.out HW_.out (by kernel_rfl)) (fun _ _ _ h => h) (Or.inl ⟨by rfl, ?_⟩) hHeld ?_ ?_
  rotate_left
  · rintro w' ⟨s0, s1⟩
    go_simp
    with_reducible rfl
  rotate_left
  · simp only [Act.put, List.setIfInBounds_toArray, List.set_cons_zero, List.set_cons_succ, i64_w, i32_w]
    rfl
  refine pure_ (i := 1) (N := some 67) (v := ?_) (a' := ?_) #[true, true, false, false, false, false, false, false, false] rfl rfl (any_of HT_.out (by kernel_rfl)) (fun _ _ _ h => h) (Or.inl ⟨by rfl, ?_⟩) ?_ ?_
  rotate_left
  · intro w'
    go_simp
    with_reducible rfl
  rotate_left
  · simp only [Act.put, List.setIfInBounds_toArray, List.set_cons_zero, List.set_cons_succ, i64_w, i32_w]
    rfl
  refine pure_ (i := 4) (N := some 70) (v := ?_) (a' := ?_) #[true, true, false, false, true, false, false, false, false] rfl rfl (any_of HT_.out (by kernel_rfl)) (fun _ _ _ h => h) (Or.inl ⟨by rfl, ?_⟩) ?_ ?_
  rotate_left
  · intro w'
    go_simp
    with_reducible rfl
  rotate_left
  · simp only [Act.put, List.setIfInBounds_toArray, List.set_cons_zero, List.set_cons_succ, i64_w, i32_w]
    rfl
  refine one_ (i := 2) (N := some 68) #[true, true, true, false, true, false, false, false, false] rfl rfl (one_of HT_.out (by kernel_rfl)) (by decide) (fun K hK => ?_)
  refine goes_ Try.func22 (by kernel_rfl) rfl #[.complex .f64 fp fk] (by rfl) rfl rfl (by (try simp only [List.map_toArray, List.map_cons, List.map_nil]); first | done | rfl | (simp only [List.length_drop, List.length_take]; rfl)) ?_
  with_reducible refine (HON.out _).mono ?_
  rintro e wcr2 ⟨rfl, hw_⟩
  have hb := below_eq hw_
  refine ⟨_, rfl, ?_⟩
  replace Z0 : Aside0 (wcr2.cell? ⟨w.heap.size, 0, none⟩ = some (.slice A l.length c)) := ⟨(hb.cell (World.block_lt_of_cell? wdr17 _ Z0.out)).trans Z0.out⟩
  replace Z1 : Aside0 (wcr2.cell? ⟨w.heap.size, 1, none⟩ = some (.int .i64 kp)) := ⟨(hb.cell (World.block_lt_of_cell? wdr17 _ Z1.out)).trans Z1.out⟩
  replace HB := Aside0.mk (HB.out.trans (hb.mono HB.out.size))
  replace KXh := Aside0.mk (blk_below KXh.out hb)
  replace KXr := Aside0.mk (blk_below KXr.out hb)
  replace HVl := Aside0.mk (Kd.V_below HVl.out hb)
  replace HTR := Aside0.mk (Kd.C_below HTR.out hb)
  clear hb hHeld
  refine hK.out _ _ ⟨Z0.out, Z1.out⟩ (fun hHeld => ?_)
  clear hK K
  refine norm_ (a' := ?_) ?_ ?_
  rotate_left
  · show Act.put _ (some 68) _ = _
    simp only [Act.put, List.setIfInBounds_toArray, List.set_cons_zero, List.set_cons_succ, i64_w, i32_w]
    rfl
  refine one_ (i := 3) (N := some 69) #[true, true, true, true, true, false, false, false, false] rfl rfl (one_of HT_.out (by kernel_rfl)) (by decide) (fun K hK => ?_)
  refine Kd.R_lit_step kc (w0 := wcr2) wcr2.heap.size 48 (by rfl) (N := 69) rfl (xs := [(fp, fk1)]) (inner := [.complex .f64 fp fk1]) (ok := fun _ => True) (okp := fun _ => False) ?hr ?hp (fun _ h => h.elim) trivial (Below.refl _ _) (Nat.le_refl _) (by simp) ?_
  case hr => first | (go_simp; done) | (go_simp; rfl)
  case hp => exact (Reps.none _ _).snoc (p := (fp, fk1)) (c := [.complex .f64 fp fk1]) rfl rfl
  intro v1 wcr3 ho hb hg_ hn_
  obtain ⟨A1, c1, ev1, hc1, hC1⟩ := Kd.R_reads ho
  subst ev1
  have HC1 := Aside0.mk hC1
  have HD1 := Aside0.mk hc1
  clear ho hg_ hn_ hC1 hc1
  replace Z0 : Aside0 (wcr3.cell? ⟨w.heap.size, 0, none⟩ = some (.slice A l.length c)) := ⟨(hb.cell (World.block_lt_of_cell? wcr2 _ Z0.out)).trans Z0.out⟩
  replace Z1 : Aside0 (wcr3.cell? ⟨w.heap.size, 1, none⟩ = some (.int .i64 kp)) := ⟨(hb.cell (World.block_lt_of_cell? wcr2 _ Z1.out)).trans Z1.out⟩
  replace HB := Aside0.mk (HB.out.trans (hb.mono HB.out.size))
  replace KXh := Aside0.mk (blk_below KXh.out hb)
  replace KXr := Aside0.mk (blk_below KXr.out hb)
  replace HVl := Aside0.mk (Kd.V_below HVl.out hb)
  replace HTR := Aside0.mk (Kd.C_below HTR.out hb)
  clear hb hHeld
  refine hK.out _ _ ⟨Z0.out, Z1.out⟩ (fun hHeld => ?_)
  clear hK K
  refine norm_ (a' := ?_) ?_ ?_
  rotate_left
  · show Act.put _ (some 69) _ = _
    simp only [Act.put, List.setIfInBounds_toArray, List.set_cons_zero, List.set_cons_succ, i64_w, i32_w]
    rfl
  refine one_ (i := 5) (N := some 71) #[true, true, true, true, true, true, false, false, false] rfl rfl (one_of HT_.out (by kernel_rfl)) (by decide) (fun K hK => ?_)
  refine Kd.N_lit_step (Kd.slice 48 kc) (w0 := wcr3) wcr3.heap.size 28 (by rfl) (N' := 71) rfl (xs := [[(fp, fk1)], fr]) (inner := [.slice A1 1 c1, .slice Ar nr cr]) (ok := fun _ => True) (okp := fun k => k < wcr3.heap.size) ?hr ?hp (fun _ _ => trivial) trivial (Below.refl _ _) (Nat.le_refl _) (by simp) ?_
  case hr => first | (go_simp; done) | (go_simp; rfl)
  case hp =>
    have e1 : Kd.FK (Kd.slice 48 kc) wcr3 (fun k => k < wcr3.heap.size) [(fp, fk1)] [.slice A1 1 c1] := Kd.FK_slice_mk (e := 48) HD1.out (Kd.C_F kc_heap HC1.out)
    have e2 : Kd.FK (Kd.slice 48 kc) wcr3 (fun k => k < wcr3.heap.size) fr [.slice Ar nr cr] := by rw [HNF.out]; exact Kd.FK_slice_mk (e := 48) HNC.out (Kd.C_F kc_heap HTR.out)
    exact ((Reps.none _ _).snoc (p := [(fp, fk1)]) (c := [.slice A1 1 c1]) e1 rfl).snoc (p := fr) (c := [.slice Ar nr cr]) e2 rfl
  intro v2 wcr5 ho hb hg_ hn_
  obtain ⟨A3, c3, ev2, hc3, hC3⟩ := Kd.N_reads ho
  subst ev2
  have HC3 := Aside0.mk hC3
  have HD3 := Aside0.mk hc3
  clear ho hg_ hn_ hC3 hc3
  replace Z0 : Aside0 (wcr5.cell? ⟨w.heap.size, 0, none⟩ = some (.slice A l.length c)) := ⟨(hb.cell (World.block_lt_of_cell? wcr3 _ Z0.out)).trans Z0.out⟩
  replace Z1 : Aside0 (wcr5.cell? ⟨w.heap.size, 1, none⟩ = some (.int .i64 kp)) := ⟨(hb.cell (World.block_lt_of_cell? wcr3 _ Z1.out)).trans Z1.out⟩
  replace HB := Aside0.mk (HB.out.trans (hb.mono HB.out.size))
  replace KXh := Aside0.mk (blk_below KXh.out hb)
  replace KXr := Aside0.mk (blk_below KXr.out hb)
  replace HVl := Aside0.mk (Kd.V_below HVl.out hb)
  replace HTR := Aside0.mk (Kd.C_below HTR.out hb)
  clear hb hHeld
  refine hK.out _ _ ⟨Z0.out, Z1.out⟩ (fun hHeld => ?_)
  clear hK K
  refine norm_ (a' := ?_) ?_ ?_
  rotate_left
  · show Act.put _ (some 71) _ = _
    simp only [Act.put, List.setIfInBounds_toArray, List.set_cons_zero, List.set_cons_succ, i64_w, i32_w]
    rfl
  refine one_ (i := 6) (N := some 72) #[true, true, true, true, true, true, true, false, false] rfl rfl (one_of HT_.out (by kernel_rfl)) (by decide) (fun K hK => ?_)
  refine goes_ Try.func21 (by kernel_rfl) rfl #[.slice A3 [[(fp, fk1)], fr].length c3] (by rfl) rfl rfl (by (try simp only [List.map_toArray, List.map_cons, List.map_nil]); first | done | rfl | (simp only [List.length_drop, List.length_take]; rfl)) ?_
  with_reducible refine (slices_Concat_cpx.calls A3 c3 [[(fp, fk1)], fr] ([(fp, fk1)] ++ fr) _ HC3.out HD3.out HCF.out).mono ?_
  rintro e wcr6 ⟨v4, rfl, hv4, hb⟩
  obtain ⟨A4, c4, ev4, hc4, hC4⟩ := Kd.R_reads hv4
  subst ev4
  have HR4 := Aside0.mk (Kd.R_tight rfl hv4)
  have HR4B := Aside0.mk (Kd.R_base hv4)
  have HS4 := Aside0.mk (blk_lt KXr.out)
  have HD4 := Aside0.mk hc4
  clear hv4 hC4 hc4
  refine ⟨_, rfl, ?_⟩
  replace Z0 : Aside0 (wcr6.cell? ⟨w.heap.size, 0, none⟩ = some (.slice A l.length c)) := ⟨(hb.cell (World.block_lt_of_cell? wcr5 _ Z0.out)).trans Z0.out⟩
  replace Z1 : Aside0 (wcr6.cell? ⟨w.heap.size, 1, none⟩ = some (.int .i64 kp)) := ⟨(hb.cell (World.block_lt_of_cell? wcr5 _ Z1.out)).trans Z1.out⟩
  replace HB := Aside0.mk (HB.out.trans (hb.mono HB.out.size))
  replace KXh := Aside0.mk (blk_below KXh.out hb)
  replace KXr := Aside0.mk (blk_below KXr.out hb)
  replace HVl := Aside0.mk (Kd.V_below HVl.out hb)
  replace HTR := Aside0.mk (Kd.C_below HTR.out hb)
  clear hb hHeld
  refine hK.out _ _ ⟨Z0.out, Z1.out⟩ (fun hHeld => ?_)
  clear hK K
  refine norm_ (a' := ?_) ?_ ?_
  rotate_left
  · show Act.put _ (some 72) _ = _
    simp only [Act.put, List.setIfInBounds_toArray, List.set_cons_zero, List.set_cons_succ, i64_w, i32_w]
    rfl
  refine last_ (i := 7) (N := none) #[true, true, true, true, true, true, true, true, false] rfl rfl (one_of HT_.out (by kernel_rfl)) (by decide) (fun K hK => ?_)
  have y0 : wcr6.cell? ⟨w.heap.size + 1, 0, none⟩ = some (.slice none 0 0) := (blk_cell KXr.out 0).trans rfl
  have y1 : wcr6.cell? ⟨w.heap.size + 1, 1, none⟩ = some (.int .i64 0) := (blk_cell KXr.out 1).trans rfl
  have g0 := blk_frozen KXr.out 0
  have g1 := blk_frozen KXr.out 1
  refine skip_ (w1 := ?_) (by rfl) rfl ?_ ?_
  rotate_left
  · go_simp
    rfl
  refine hK.out _ _ ?_
  clear hK K
  refine pure_ (i := 8) (N := some 5) (v := ?_) (a' := ?_) #[true, true, true, true, true, true, true, true, true] rfl rfl (any_of HT_.out (by kernel_rfl)) (fun _ _ _ h => h) (Or.inl ⟨by rfl, ?_⟩) ?_ ?_
  rotate_left
  · intro w'
    go_simp
    with_reducible rfl
  rotate_left
  · simp only [Act.put, List.setIfInBounds_toArray, List.set_cons_zero, List.set_cons_succ, i64_w, i32_w]
    rfl
  refine done_ (done_of HT_.out (by kernel_rfl)) ?_
  clear hHeld HT_ HW_
  clear y0 y1 g0 g1 Z0 Z1
  go_wp2
  have hft : ∀ k_, some k_ = (Value.slice A4 ([(fp, fk1)] ++ fr).length c4).ownBlock → k_ ≠ w.heap.size + 1 := fun k_ hk_ => by have h1 := HR4B.out k_ hk_.symm; have h2 := HS4.out; omega
  have hR5 := Kd.R_far (p := ⟨w.heap.size + 1, 1, none⟩) (Kd.R_far (p := ⟨w.heap.size + 1, 0, none⟩) HR4.out hft (.slice A l.length c)) hft (.int .i64 kp)
  have hts : fls ((p, k + 1) :: rest) = [(fp, fk1)] ++ fr := by
    show (fl p, fl (k + 1)) :: fls rest = _
    rw [HFP.out, HFK1.out, HFR.out]
    rfl
  have HBf := below_set (below_set HB.out (show w.heap.size ≤ w.heap.size + 1 by omega) (j := 0) (v := .slice A l.length c)) (show w.heap.size ≤ w.heap.size + 1 by omega) (j := 1) (v := .int .i64 kp)
  have hfl := HFRL.out
  refine bodyPost_ret (results_ct rfl _ _ (w.heap.size + 1) 24 #[.slice A l.length c, .int .i64 kp] (0, 0) _ rfl (blk_put (cs := #[.slice A l.length c, .int .i64 0]) (blk_put (cs := #[.slice none 0 0, .int .i64 0]) KXr.out 0 _ rfl) 1 _ rfl) Try.underlying24 rfl (by kernel_rfl)) rfl ?_
  refine ⟨A, c, A4, c4, by rw [hfl]; rfl, ?_, by rw [hts]; exact Kd.F_mono (Kd.V_F (Kd.R_V (base' := 0) hR5)) (fun k hk => .inr (by have := HR4B.out k hk.symm; have := HS4.out; omega)), by have := HD4.out; simp only [List.length_append, List.length_cons, List.length_nil] at this ⊢; omega, HBf⟩
  exact V_base (Kd.V_mono (Kd.V_far (p := ⟨w.heap.size + 1, 1, none⟩) (Kd.V_far (p := ⟨w.heap.size + 1, 0, none⟩) HVl.out (fun k hk => (HQ3.out k hk).2) _) (fun k hk => (HQ3.out k hk).2) _) (fun k hk => HQ4.out k hk))
set_option maxHeartbeats 8000000 in
set_option maxRecDepth 100000 in
theorem step_ahead (P : Nat → Prop) (A : Option Addr) (c : Nat) (l : List S38) (kp : Int) (At : Option Addr) (ct : Nat) (p k : Nat) (rest : List (Nat × Nat)) (w : World) (hs : Kd.V k38 38 w w.heap.size P (.slice A l.length c) l) (Pt : Nat → Prop) (ht : Kd.F kc w Pt At (fls ((p, k) :: rest)).length (fls ((p, k) :: rest))) (htc : rest.length + 1 ≤ ct) (hrl : rest.length < 1000) (hp : p < l.length) (hl : l.length < 2000) (hk : k < 600) (hnot : ¬ (rd_T38 l (p : Nat)).f2.f1.length < k) (hk0 : 0 < k) (v : Nat) (hv : (rd_T46 (rd_T38 l (p : Nat)).f2.f1 ((k - 1 : Nat) : Int)).f1 = v) (hp2 : p < 2000) :
    Calls Try.prog 10 #[.agg #[.slice A l.length c, .int .i64 kp], .slice At (rest.length + 1) ct] w fun e w' => ∃ (A' : Option Addr) (c' : Nat) (At' : Option Addr) (ct' : Nat), e = .returned (.tuple #[.agg #[.slice A' (l).length c', .int .i64 kp], .slice At' ((v, 0) :: (p, k + 1) :: rest).length ct']) ∧ Kd.V k38 38 w' w.heap.size (fun k => P k ∨ w.heap.size ≤ k) (.slice A' (l).length c') (l) ∧ Kd.F kc w' (fun k => Pt k ∨ w.heap.size ≤ k) At' (fls ((v, 0) :: (p, k + 1) :: rest)).length (fls ((v, 0) :: (p, k + 1) :: rest)) ∧ ((v, 0) :: (p, k + 1) :: rest).length ≤ ct' ∧ Below w.heap.size w w' := by
  obtain ⟨-, hc, hr⟩ := Kd.V_at hs
  obtain ⟨P', hP, hr'⟩ : ∃ P' : Nat → Prop, (∀ k, P' k → P k ∧ k < w.heap.size) ∧ Kd.F k38 w P' A l.length l := ⟨_, fun _ h => h, Kd.F_bound hr⟩
  obtain ⟨wA, hwA⟩ : ∃ wA, (w.alloc (.cells #[.slice A l.length c, .int .i64 kp] 24)).alloc (.cells #[.slice none 0 0, .int .i64 0] 24) = wA := ⟨_, rfl⟩
  have HB : Aside0 (Below w.heap.size w wA) := ⟨by rw [← hwA]; exact ((Below.refl _ w).alloc (Nat.le_refl _) _).alloc (by simp) _⟩
  have KXh : Aside0 (wA.heap[w.heap.size]? = some (.cells #[.slice A l.length c, .int .i64 kp] 24 (0, 0))) := ⟨by rw [← hwA]; exact blk_alloc (alloc_new w _) _⟩
  have KXr : Aside0 (wA.heap[w.heap.size + 1]? = some (.cells #[.slice none 0 0, .int .i64 0] 24 (0, 0))) := ⟨by
    rw [← hwA]
    have := alloc_new (w.alloc (.cells #[.slice A l.length c, .int .i64 kp] 24)) (.cells #[.slice none 0 0, .int .i64 0] 24)
    rwa [World.size_alloc] at this⟩
  obtain ⟨Q, hQ1, hQ2, hQ3, hQ4⟩ : ∃ Q : Nat → Prop, (∀ k, P' k → Q k) ∧ (∀ k, w.heap.size + 2 ≤ k → Q k) ∧ (∀ k, Q k → k ≠ w.heap.size ∧ k ≠ w.heap.size + 1) ∧ (∀ k, Q k → P k ∨ w.heap.size ≤ k) := by
    refine ⟨fun k => (P' k ∨ w.heap.size ≤ k) ∧ k ≠ w.heap.size ∧ k ≠ w.heap.size + 1, fun k hk => ?_, fun k hk => ?_, fun k hk => hk.2, fun k hk => hk.1.elim (fun h => .inl (hP k h).1) .inr⟩
    · have := (hP k hk).2; exact ⟨.inl hk, by omega, by omega⟩
    · exact ⟨.inr (by omega), by omega, by omega⟩
  have HQ2 := Aside0.mk hQ2
  have HQ3 := Aside0.mk hQ3
  have HQ4 := Aside0.mk hQ4
  have HVl : Aside0 (Kd.V k38 38 wA 0 Q (.slice A l.length c) l) := ⟨Kd.V_mk hc (Kd.F_mono (Kd.F_below hr' HB.out) hQ1)⟩
  have HTF := Aside0.mk (fls_tailF ht htc)
  replace ht := Kd.F_now ht
  obtain ⟨ad, rfl, x0⟩ := fls_head ht
  have HTR := Aside0.mk (fls_tail ht htc)
  have hx0 := pw_cell_below HB.out x0
  have HSZ := Aside0.mk (show w.heap.size + 1 < wA.heap.size from blk_lt KXr.out)
  have HP := Aside0.mk hp
  have HL := Aside0.mk hl
  have HK := Aside0.mk hk
  have HRL := Aside0.mk hrl
  have HKW := Aside0.mk (fun (w : World) (hr : Kd.C k38 w A l.length l) => kind_walk A c l kp p k w hr hp hl hk)
  have HTC := Aside0.mk htc
  obtain ⟨n, hn⟩ : ∃ n, rest.length + 1 = n := ⟨_, rfl⟩
  have hn0 : ((n : Int) == 0) = false := beq_eq_false_iff_ne.2 (by omega)
  have hn1 : (n == 0) = false := beq_eq_false_iff_ne.2 (by omega)
  have hn2 : ((0 : Int) < (n : Int)) = True := eq_true (by omega)
  have hn3 : (0 < n) = True := eq_true (by omega)
  have hn4 : (n = 0) = False := eq_false (by omega)
  obtain ⟨i0, hi0, hi1⟩ := Option.map_eq_some_iff.1 info48
  have hsz : i0.size = 1 := by simp only [Prod.mk.injEq] at hi1; exact hi1.2.1
  have hcut := cut_from (P := Try.prog) 28 48 .i64 Try.underlying28 hi0 1 hsz (some ad) n ct 1 (by decide) (by omega)
  rw [show (1 : Int).toNat = 1 from rfl, Nat.mul_one] at hcut
  obtain ⟨Ar, hAr⟩ : ∃ Ar, (if ct = 1 then some ad else (some ad).map (·.add 1)) = Ar := ⟨_, rfl⟩
  obtain ⟨cr, hcr⟩ : ∃ cr, ct - 1 = cr := ⟨_, rfl⟩
  obtain ⟨nr, hnr⟩ : ∃ nr, n - 1 = nr := ⟨_, rfl⟩
  rw [hAr] at HTR HTF hcut
  rw [hcr, hnr] at hcut
  have HNR : Aside0 (nr = rest.length ∧ rest.length ≤ cr) := ⟨by omega⟩
  have HN := Aside0.mk hn
  rw [hn]
  have HKV : Aside0 (kindV p k (rd_T38 l (p : Nat)) = .iface 59 (.agg #[.int .i64 v])) := ⟨by unfold kindV; rw [if_neg hnot, if_pos hk0, hv]⟩
  have HON := Aside0.mk (fun (w : World) => on_walk p k (by omega) hk w)
  have HOF : Aside0 (∀ w : World, Calls Try.prog 17 #[.int .i64 v, .int .i64 0] w fun e w' => e = .returned (.complex .f64 (fl v) (fl 0)) ∧ w' = w) := ⟨fun w => of_walk v 0 w⟩
  obtain ⟨fv, hfv⟩ : ∃ f, fl v = f := ⟨_, rfl⟩
  obtain ⟨f0, hf0⟩ : ∃ f, fl 0 = f := ⟨_, rfl⟩
  rw [hfv, hf0] at HOF
  have HFV := Aside0.mk hfv
  have HF0 := Aside0.mk hf0
  clear hfv hf0
  obtain ⟨fp, hfp⟩ : ∃ f, fl p = f := ⟨_, rfl⟩
  obtain ⟨fk, hfk⟩ : ∃ f, fl k = f := ⟨_, rfl⟩
  obtain ⟨fk1, hfk1⟩ : ∃ f, fl (k + 1) = f := ⟨_, rfl⟩
  rw [hfp, hfk] at x0 hx0 HKW
  rw [hfp, hfk, hfk1] at HON
  have HFP := Aside0.mk hfp
  have HFK1 := Aside0.mk hfk1
  clear hfp hfk hfk1
  obtain ⟨fr, hfr⟩ : ∃ f, fls rest = f := ⟨_, rfl⟩
  have HFRL : Aside0 (fr.length = rest.length) := ⟨by rw [← hfr, fls_len]⟩
  rw [hfr] at HTR
  have HFR := Aside0.mk hfr
  have HNF : Aside0 (nr = fr.length) := ⟨by have := HFRL.out; have := HNR.out.1; omega⟩
  have HNC : Aside0 (fr.length ≤ cr) := ⟨by have := HFRL.out; have := HNR.out.2; omega⟩
  clear hfr
  have HCF : Aside0 (slices_Concat_cpx.f [[(fv, f0), (fp, fk1)], fr] = some ([(fv, f0), (fp, fk1)] ++ fr)) := ⟨by unfold slices_Concat_cpx.f; rw [if_pos (by have := HFRL.out; constructor <;> simp <;> omega)]; simp⟩
  have hu24 := Try.underlying24
  have hu28 := Try.underlying28
  have hu38 := Try.underlying38
  clear hs hr hr' hP hQ1 hQ2 hQ3 hQ4 ht hn hnr hcr hAr hi0 hi1 hsz x0 hc hp hl hk hrl htc
  go_enter Try.func10, Try.ntmps10
  go_wp2_with fail
  clear hwA HSZ hn0 hn1 hn4
  have Z0 : Aside0 (wA.cell? ad = some (.complex .f64 fp fk)) := ⟨hx0⟩
  clear hx0
  replace Z0 : Aside0 (wA.drew.cell? ad = some (.complex .f64 fp fk)) := ⟨Z0.out⟩
  replace HB := Aside0.mk (below_drew HB.out)
  replace KXh := Aside0.mk (blk_drew KXh.out)
  replace KXr := Aside0.mk (blk_drew KXr.out)
  replace HVl := Aside0.mk (Kd.V_drew HVl.out)
  refine start_ (n := 7) (S := fun w' => w'.cell? ad = some (.complex .f64 fp fk)) (ds := []) #[false, false, false, false, false, false, false] (by kernel_rfl) rfl rfl Z0.out (fun hHeld => ?_)
  refine with_tabW hSt.tab3 hSt.bits3 (fun HT_ HW_ => ?_)
  generalize wA.drew = wdr3 at Z0 HB KXh KXr HVl hHeld ⊢
  refine pure_ (i := 0) (N := some 17) (v := ?_) (a' := ?_) #[true, false, false, false, false, false, false] rfl rfl (any_of HT_.out (by kernel_rfl)) (fun _ _ _ h => h) (Or.inl ⟨by rfl, ?_⟩) ?_ ?_
  rotate_left
  · intro w'
    go_simp
    with_reducible rfl
  rotate_left
  · simp only [Act.put, List.setIfInBounds_toArray, List.set_cons_zero, List.set_cons_succ, i64_w, i32_w]
    rfl
  refine pure_ (i := 1) (N := some 18) (v := ?_) (a' := ?_) #[true, true, false, false, false, false, false] rfl rfl (any_of HT_.out (by kernel_rfl)) (fun _ _ _ h => h) (Or.inl ⟨by rfl, ?_⟩) ?_ ?_
  rotate_left
  · intro w'
    go_simp
    with_reducible rfl
  rotate_left
  · simp only [Act.put, List.setIfInBounds_toArray, List.set_cons_zero, List.set_cons_succ, i64_w, i32_w]
    rfl
  refine take_ (i := 2) (N := some 19) (v := ?_) (a' := ?_) #[true, true, true, false, false, false, false] rfl rfl (take_ofW HT_.out HW_.out (by kernel_rfl)) (fun _ _ _ h => h) (Or.inl ⟨by rfl, ?_⟩) hHeld ?_ ?_
  rotate_left
  · rintro w' s0
    go_simp
    with_reducible rfl
  rotate_left
  · simp only [Act.put, List.setIfInBounds_toArray, List.set_cons_zero, List.set_cons_succ, i64_w, i32_w]
    rfl
  refine pure_ (i := 3) (N := some 20) (v := ?_) (a' := ?_) #[true, true, true, true, false, false, false] rfl rfl (any_of HT_.out (by kernel_rfl)) (fun _ _ _ h => h) (Or.inl ⟨by rfl, ?_⟩) ?_ ?_
  rotate_left
  · intro w'
    go_simp
    with_reducible rfl
  rotate_left
  · simp only [Act.put, List.setIfInBounds_toArray, List.set_cons_zero, List.set_cons_succ, i64_w, i32_w]
    rfl
  refine pure_ (i := 4) (N := some 21) (v := ?_) (a' := ?_) #[true, true, true, true, true, false, false] rfl rfl (any_of HT_.out (by kernel_rfl)) (fun _ _ _ h => h) (Or.inl ⟨by rfl, ?_⟩) ?_ ?_
  rotate_left
  · intro w'
    go_simp
    with_reducible rfl
  rotate_left
  · simp only [Act.put, List.setIfInBounds_toArray, List.set_cons_zero, List.set_cons_succ, i64_w, i32_w]
    rfl
  refine pure_ (i := 5) (N := some 6) (v := ?_) (a' := ?_) #[true, true, true, true, true, true, false] rfl rfl (any_of HT_.out (by kernel_rfl)) (fun _ _ _ h => h) (Or.inl ⟨by rfl, ?_⟩) ?_ ?_
  rotate_left
  · intro w'
    go_simp
    with_reducible rfl
  rotate_left
  · simp only [Act.put, List.setIfInBounds_toArray, List.set_cons_zero, List.set_cons_succ, i64_w, i32_w]
    rfl
  refine pure_ (i := 6) (N := some 7) (v := ?_) (a' := ?_) #[true, true, true, true, true, true, true] rfl rfl (any_of HT_.out (by kernel_rfl)) (fun _ _ _ h => h) (Or.inl ⟨by rfl, ?_⟩) ?_ ?_
  rotate_left
  · intro w'
    go_simp
    with_reducible rfl
  rotate_left
  · simp only [Act.put, List.setIfInBounds_toArray, List.set_cons_zero, List.set_cons_succ, i64_w, i32_w]
    rfl
  refine done_ (done_of HT_.out (by kernel_rfl)) ?_
  clear hHeld HT_ HW_
  clear Z0 hcut hn2 hn3
  have b0 : wdr3.cell? ⟨w.heap.size, 0, none⟩ = some (.slice A l.length c) := (blk_cell KXh.out 0).trans rfl
  have b1 : wdr3.cell? ⟨w.heap.size, 1, none⟩ = some (.int .i64 kp) := (blk_cell KXh.out 1).trans rfl
  go_wp2_with fail
  clear b0 b1
  refine (HKW.out _ (Kd.V_reads' HVl.out).2.2).mono ?_
  rintro e w2 ⟨rfl, hb⟩
  rw [HKV.out]
  replace HB := Aside0.mk (HB.out.trans (hb.mono HB.out.size))
  replace KXh := Aside0.mk (blk_below KXh.out hb)
  replace KXr := Aside0.mk (blk_below KXr.out hb)
  replace HVl := Aside0.mk (Kd.V_below HVl.out hb)
  clear hb
  have b0 : w2.cell? ⟨w.heap.size, 0, none⟩ = some (.slice A l.length c) := (blk_cell KXh.out 0).trans rfl
  have b1 : w2.cell? ⟨w.heap.size, 1, none⟩ = some (.int .i64 kp) := (blk_cell KXh.out 1).trans rfl
  have y0 : w2.cell? ⟨w.heap.size + 1, 0, none⟩ = some (.slice none 0 0) := (blk_cell KXr.out 0).trans rfl
  have y1 : w2.cell? ⟨w.heap.size + 1, 1, none⟩ = some (.int .i64 0) := (blk_cell KXr.out 1).trans rfl
  have l0 : w.heap.size + 1 < w2.heap.size := blk_lt KXr.out
  have l1 : w.heap.size < w2.heap.size := blk_lt KXh.out
  have a1 := as59_54
  have a2 := as59_57
  have a3 := as59_59
  have hu59 := Try.underlying59
  go_wp2_with fail
  clear b0 b1 y0 y1 l0 l1 a1 a2 a3
  replace HTR := Aside0.mk (Kd.C_below HTR.out HB.out)
  have hpre : Below w2.heap.size w2 (w2.alloc (.cells #[.int .i64 v] 59)) := (Below.refl w2.heap.size w2).alloc (Nat.le_refl _) _
  replace HB := Aside0.mk (HB.out.trans (hpre.mono HB.out.size))
  replace KXh := Aside0.mk (blk_below KXh.out hpre)
  replace KXr := Aside0.mk (blk_below KXr.out hpre)
  replace HVl := Aside0.mk (Kd.V_below HVl.out hpre)
  replace HTR := Aside0.mk (Kd.C_below HTR.out hpre)
  have KXz : Aside0 ((w2.alloc (.cells #[.int .i64 v] 59)).heap[w2.heap.size]? = some (.cells #[.int .i64 v] 59 (0, 0))) := ⟨alloc_new w2 _⟩
  obtain ⟨w3, hw3⟩ : ∃ w3, w2.alloc (.cells #[.int .i64 v] 59) = w3 := ⟨_, rfl⟩
  rw [hw3]
  rw [hw3] at HB KXh KXr HVl HTR KXz
  clear hw3 hpre
  have Z0 : Aside0 (w3.cell? ⟨w.heap.size, 0, none⟩ = some (.slice A l.length c)) := ⟨(blk_cell KXh.out 0).trans rfl⟩
  have Z1 : Aside0 (w3.cell? ⟨w.heap.size, 1, none⟩ = some (.int .i64 kp)) := ⟨(blk_cell KXh.out 1).trans rfl⟩
  have Z2 : Aside0 (w3.cell? ⟨w2.heap.size, 0, none⟩ = some (.int .i64 v)) := ⟨(blk_cell KXz.out 0).trans rfl⟩
  replace Z0 : Aside0 (w3.drew.cell? ⟨w.heap.size, 0, none⟩ = some (.slice A l.length c)) := ⟨Z0.out⟩
  replace Z1 : Aside0 (w3.drew.cell? ⟨w.heap.size, 1, none⟩ = some (.int .i64 kp)) := ⟨Z1.out⟩
  replace Z2 : Aside0 (w3.drew.cell? ⟨w2.heap.size, 0, none⟩ = some (.int .i64 v)) := ⟨Z2.out⟩
  replace HB := Aside0.mk (below_drew HB.out)
  replace KXh := Aside0.mk (blk_drew KXh.out)
  replace KXr := Aside0.mk (blk_drew KXr.out)
  replace HVl := Aside0.mk (Kd.V_drew HVl.out)
  replace HTR := Aside0.mk (Kd.C_drew HTR.out)
  refine start_ (n := 12) (S := fun w' => w'.cell? ⟨w.heap.size, 0, none⟩ = some (.slice A l.length c) ∧ w'.cell? ⟨w.heap.size, 1, none⟩ = some (.int .i64 kp) ∧ w'.cell? ⟨w2.heap.size, 0, none⟩ = some (.int .i64 v)) (ds := [10]) #[false, false, false, false, false, false, false, false, false, false, false, false] (by kernel_rfl) rfl rfl ⟨Z0.out, Z1.out, Z2.out⟩ (fun hHeld => ?_)
  refine with_tabW hSu.tab16 hSu.bits16 (fun HT_ HW_ => ?_)
  generalize w3.drew = wdr16 at Z0 Z1 Z2 HB KXh KXr HVl HTR hHeld ⊢
  refine take_ (i := 0) (N := some 56) (v := ?_) (a' := ?_) #[true, false, false, false, false, false, false, false, false, false, false, false] rfl rfl (take_ofW HT_.out HW_.out (by kernel_rfl)) (fun _ _ _ h => h) (Or.inl ⟨by rfl, ?_⟩) hHeld ?_ ?_
  rotate_left
  · rintro w' ⟨s0, s1, s2⟩
    go_simp
    with_reducible rfl
  rotate_left
  · simp only [Act.put, List.setIfInBounds_toArray, List.set_cons_zero, List.set_cons_succ, i64_w, i32_w]
    rfl
  refine pure_ (i := 1) (N := some 57) (v := ?_) (a' := ?_) #[true, true, false, false, false, false, false, false, false, false, false, false] rfl rfl (any_of HT_.out (by kernel_rfl)) (fun _ _ _ h => h) (Or.inl ⟨by rfl, ?_⟩) ?_ ?_
  rotate_left
  · intro w'
    go_simp
    with_reducible rfl
  rotate_left
  · simp only [Act.put, List.setIfInBounds_toArray, List.set_cons_zero, List.set_cons_succ, i64_w, i32_w]
    rfl
  refine take_ (i := 2) (N := some 58) (v := ?_) (a' := ?_) #[true, true, true, false, false, false, false, false, false, false, false, false] rfl rfl (take_ofW HT_.out HW_.out (by kernel_rfl)) (fun _ _ _ h => h) (Or.inl ⟨by rfl, ?_⟩) hHeld ?_ ?_
  rotate_left
  · rintro w' ⟨s0, s1, s2⟩
    go_simp
    with_reducible rfl
  rotate_left
  · simp only [Act.put, List.setIfInBounds_toArray, List.set_cons_zero, List.set_cons_succ, i64_w, i32_w]
    rfl
  refine pure_ (i := 4) (N := some 60) (v := ?_) (a' := ?_) #[true, true, true, false, true, false, false, false, false, false, false, false] rfl rfl (any_of HT_.out (by kernel_rfl)) (fun _ _ _ h => h) (Or.inl ⟨by rfl, ?_⟩) ?_ ?_
  rotate_left
  · intro w'
    go_simp
    with_reducible rfl
  rotate_left
  · simp only [Act.put, List.setIfInBounds_toArray, List.set_cons_zero, List.set_cons_succ, i64_w, i32_w]
    rfl
  refine pure_ (i := 7) (N := some 63) (v := ?_) (a' := ?_) #[true, true, true, false, true, false, false, true, false, false, false, false] rfl rfl (any_of HT_.out (by kernel_rfl)) (fun _ _ _ h => h) (Or.inl ⟨by rfl, ?_⟩) ?_ ?_
  rotate_left
  · intro w'
    go_simp
    with_reducible rfl
  rotate_left
  · simp only [Act.put, List.setIfInBounds_toArray, List.set_cons_zero, List.set_cons_succ, i64_w, i32_w]
    rfl
  refine one_ (i := 3) (N := some 59) #[true, true, true, true, true, false, false, true, false, false, false, false] rfl rfl (one_of HT_.out (by kernel_rfl)) (by decide) (fun K hK => ?_)
  refine goes_ Try.func17 (by kernel_rfl) rfl #[.int .i64 v, .int .i64 0] (by rfl) rfl rfl (by (try simp only [List.map_toArray, List.map_cons, List.map_nil]); first | done | rfl | (simp only [List.length_drop, List.length_take]; rfl)) ?_
  with_reducible refine (HOF.out _).mono ?_
  rintro e wcr3 ⟨rfl, hw_⟩
  have hb := below_eq hw_
  refine ⟨_, rfl, ?_⟩
  replace Z0 : Aside0 (wcr3.cell? ⟨w.heap.size, 0, none⟩ = some (.slice A l.length c)) := ⟨(hb.cell (World.block_lt_of_cell? wdr16 _ Z0.out)).trans Z0.out⟩
  replace Z1 : Aside0 (wcr3.cell? ⟨w.heap.size, 1, none⟩ = some (.int .i64 kp)) := ⟨(hb.cell (World.block_lt_of_cell? wdr16 _ Z1.out)).trans Z1.out⟩
  replace Z2 : Aside0 (wcr3.cell? ⟨w2.heap.size, 0, none⟩ = some (.int .i64 v)) := ⟨(hb.cell (World.block_lt_of_cell? wdr16 _ Z2.out)).trans Z2.out⟩
  replace HB := Aside0.mk (HB.out.trans (hb.mono HB.out.size))
  replace KXh := Aside0.mk (blk_below KXh.out hb)
  replace KXr := Aside0.mk (blk_below KXr.out hb)
  replace HVl := Aside0.mk (Kd.V_below HVl.out hb)
  replace HTR := Aside0.mk (Kd.C_below HTR.out hb)
  clear hb hHeld
  refine hK.out _ _ ⟨Z0.out, Z1.out, Z2.out⟩ (fun hHeld => ?_)
  clear hK K
  refine norm_ (a' := ?_) ?_ ?_
  rotate_left
  · show Act.put _ (some 59) _ = _
    simp only [Act.put, List.setIfInBounds_toArray, List.set_cons_zero, List.set_cons_succ, i64_w, i32_w]
    rfl
  refine one_ (i := 5) (N := some 61) #[true, true, true, true, true, true, false, true, false, false, false, false] rfl rfl (one_of HT_.out (by kernel_rfl)) (by decide) (fun K hK => ?_)
  refine goes_ Try.func22 (by kernel_rfl) rfl #[.complex .f64 fp fk] (by rfl) rfl rfl (by (try simp only [List.map_toArray, List.map_cons, List.map_nil]); first | done | rfl | (simp only [List.length_drop, List.length_take]; rfl)) ?_
  with_reducible refine (HON.out _).mono ?_
  rintro e wcr5 ⟨rfl, hw_⟩
  have hb := below_eq hw_
  refine ⟨_, rfl, ?_⟩
  replace Z0 : Aside0 (wcr5.cell? ⟨w.heap.size, 0, none⟩ = some (.slice A l.length c)) := ⟨(hb.cell (World.block_lt_of_cell? wcr3 _ Z0.out)).trans Z0.out⟩
  replace Z1 : Aside0 (wcr5.cell? ⟨w.heap.size, 1, none⟩ = some (.int .i64 kp)) := ⟨(hb.cell (World.block_lt_of_cell? wcr3 _ Z1.out)).trans Z1.out⟩
  replace Z2 : Aside0 (wcr5.cell? ⟨w2.heap.size, 0, none⟩ = some (.int .i64 v)) := ⟨(hb.cell (World.block_lt_of_cell? wcr3 _ Z2.out)).trans Z2.out⟩
  replace HB := Aside0.mk (HB.out.trans (hb.mono HB.out.size))
  replace KXh := Aside0.mk (blk_below KXh.out hb)
  replace KXr := Aside0.mk (blk_below KXr.out hb)
  replace HVl := Aside0.mk (Kd.V_below HVl.out hb)
  replace HTR := Aside0.mk (Kd.C_below HTR.out hb)
  clear hb hHeld
  refine hK.out _ _ ⟨Z0.out, Z1.out, Z2.out⟩ (fun hHeld => ?_)
  clear hK K
  refine norm_ (a' := ?_) ?_ ?_
  rotate_left
  · show Act.put _ (some 61) _ = _
    simp only [Act.put, List.setIfInBounds_toArray, List.set_cons_zero, List.set_cons_succ, i64_w, i32_w]
    rfl
  refine one_ (i := 6) (N := some 62) #[true, true, true, true, true, true, true, true, false, false, false, false] rfl rfl (one_of HT_.out (by kernel_rfl)) (by decide) (fun K hK => ?_)
  refine Kd.R_lit_step kc (w0 := wcr5) wcr5.heap.size 48 (by rfl) (N := 62) rfl (xs := [(fv, f0), (fp, fk1)]) (inner := [.complex .f64 fv f0, .complex .f64 fp fk1]) (ok := fun _ => True) (okp := fun _ => False) ?hr ?hp (fun _ h => h.elim) trivial (Below.refl _ _) (Nat.le_refl _) (by simp) ?_
  case hr => first | (go_simp; done) | (go_simp; rfl)
  case hp => exact ((Reps.none _ _).snoc (p := (fv, f0)) (c := [.complex .f64 fv f0]) rfl rfl).snoc (p := (fp, fk1)) (c := [.complex .f64 fp fk1]) rfl rfl
  intro v1 wcr6 ho hb hg_ hn_
  obtain ⟨A1, c1, ev1, hc1, hC1⟩ := Kd.R_reads ho
  subst ev1
  have HC1 := Aside0.mk hC1
  have HD1 := Aside0.mk hc1
  clear ho hg_ hn_ hC1 hc1
  replace Z0 : Aside0 (wcr6.cell? ⟨w.heap.size, 0, none⟩ = some (.slice A l.length c)) := ⟨(hb.cell (World.block_lt_of_cell? wcr5 _ Z0.out)).trans Z0.out⟩
  replace Z1 : Aside0 (wcr6.cell? ⟨w.heap.size, 1, none⟩ = some (.int .i64 kp)) := ⟨(hb.cell (World.block_lt_of_cell? wcr5 _ Z1.out)).trans Z1.out⟩
  replace Z2 : Aside0 (wcr6.cell? ⟨w2.heap.size, 0, none⟩ = some (.int .i64 v)) := ⟨(hb.cell (World.block_lt_of_cell? wcr5 _ Z2.out)).trans Z2.out⟩
  replace HB := Aside0.mk (HB.out.trans (hb.mono HB.out.size))
  replace KXh := Aside0.mk (blk_below KXh.out hb)
  replace KXr := Aside0.mk (blk_below KXr.out hb)
  replace HVl := Aside0.mk (Kd.V_below HVl.out hb)
  replace HTR := Aside0.mk (Kd.C_below HTR.out hb)
  clear hb hHeld
  refine hK.out _ _ ⟨Z0.out, Z1.out, Z2.out⟩ (fun hHeld => ?_)
  clear hK K
  refine norm_ (a' := ?_) ?_ ?_
  rotate_left
  · show Act.put _ (some 62) _ = _
    simp only [Act.put, List.setIfInBounds_toArray, List.set_cons_zero, List.set_cons_succ, i64_w, i32_w]
    rfl
  refine one_ (i := 8) (N := some 64) #[true, true, true, true, true, true, true, true, true, false, false, false] rfl rfl (one_of HT_.out (by kernel_rfl)) (by decide) (fun K hK => ?_)
  refine Kd.N_lit_step (Kd.slice 48 kc) (w0 := wcr6) wcr6.heap.size 28 (by rfl) (N' := 64) rfl (xs := [[(fv, f0), (fp, fk1)], fr]) (inner := [.slice A1 2 c1, .slice Ar nr cr]) (ok := fun _ => True) (okp := fun k => k < wcr6.heap.size) ?hr ?hp (fun _ _ => trivial) trivial (Below.refl _ _) (Nat.le_refl _) (by simp) ?_
  case hr => first | (go_simp; done) | (go_simp; rfl)
  case hp =>
    have e1 : Kd.FK (Kd.slice 48 kc) wcr6 (fun k => k < wcr6.heap.size) [(fv, f0), (fp, fk1)] [.slice A1 2 c1] := Kd.FK_slice_mk (e := 48) HD1.out (Kd.C_F kc_heap HC1.out)
    have e2 : Kd.FK (Kd.slice 48 kc) wcr6 (fun k => k < wcr6.heap.size) fr [.slice Ar nr cr] := by rw [HNF.out]; exact Kd.FK_slice_mk (e := 48) HNC.out (Kd.C_F kc_heap HTR.out)
    exact ((Reps.none _ _).snoc (p := [(fv, f0), (fp, fk1)]) (c := [.slice A1 2 c1]) e1 rfl).snoc (p := fr) (c := [.slice Ar nr cr]) e2 rfl
  intro v2 wcr8 ho hb hg_ hn_
  obtain ⟨A3, c3, ev2, hc3, hC3⟩ := Kd.N_reads ho
  subst ev2
  have HC3 := Aside0.mk hC3
  have HD3 := Aside0.mk hc3
  clear ho hg_ hn_ hC3 hc3
  replace Z0 : Aside0 (wcr8.cell? ⟨w.heap.size, 0, none⟩ = some (.slice A l.length c)) := ⟨(hb.cell (World.block_lt_of_cell? wcr6 _ Z0.out)).trans Z0.out⟩
  replace Z1 : Aside0 (wcr8.cell? ⟨w.heap.size, 1, none⟩ = some (.int .i64 kp)) := ⟨(hb.cell (World.block_lt_of_cell? wcr6 _ Z1.out)).trans Z1.out⟩
  replace Z2 : Aside0 (wcr8.cell? ⟨w2.heap.size, 0, none⟩ = some (.int .i64 v)) := ⟨(hb.cell (World.block_lt_of_cell? wcr6 _ Z2.out)).trans Z2.out⟩
  replace HB := Aside0.mk (HB.out.trans (hb.mono HB.out.size))
  replace KXh := Aside0.mk (blk_below KXh.out hb)
  replace KXr := Aside0.mk (blk_below KXr.out hb)
  replace HVl := Aside0.mk (Kd.V_below HVl.out hb)
  replace HTR := Aside0.mk (Kd.C_below HTR.out hb)
  clear hb hHeld
  refine hK.out _ _ ⟨Z0.out, Z1.out, Z2.out⟩ (fun hHeld => ?_)
  clear hK K
  refine norm_ (a' := ?_) ?_ ?_
  rotate_left
  · show Act.put _ (some 64) _ = _
    simp only [Act.put, List.setIfInBounds_toArray, List.set_cons_zero, List.set_cons_succ, i64_w, i32_w]
    rfl
  refine one_ (i := 9) (N := some 65) #[true, true, true, true, true, true, true, true, true, true, false, false] rfl rfl (one_of HT_.out (by kernel_rfl)) (by decide) (fun K hK => ?_)
  refine goes_ Try.func21 (by kernel_rfl) rfl #[.slice A3 [[(fv, f0), (fp, fk1)], fr].length c3] (by rfl) rfl rfl (by (try simp only [List.map_toArray, List.map_cons, List.map_nil]); first | done | rfl | (simp only [List.length_drop, List.length_take]; rfl)) ?_
  with_reducible refine (slices_Concat_cpx.calls A3 c3 [[(fv, f0), (fp, fk1)], fr] ([(fv, f0), (fp, fk1)] ++ fr) _ HC3.out HD3.out HCF.out).mono ?_
  rintro e wcr9 ⟨v4, rfl, hv4, hb⟩
  obtain ⟨A4, c4, ev4, hc4, hC4⟩ := Kd.R_reads hv4
  subst ev4
  have HR4 := Aside0.mk (Kd.R_tight rfl hv4)
  have HR4B := Aside0.mk (Kd.R_base hv4)
  have HS4 := Aside0.mk (blk_lt KXr.out)
  have HD4 := Aside0.mk hc4
  clear hv4 hC4 hc4
  refine ⟨_, rfl, ?_⟩
  replace Z0 : Aside0 (wcr9.cell? ⟨w.heap.size, 0, none⟩ = some (.slice A l.length c)) := ⟨(hb.cell (World.block_lt_of_cell? wcr8 _ Z0.out)).trans Z0.out⟩
  replace Z1 : Aside0 (wcr9.cell? ⟨w.heap.size, 1, none⟩ = some (.int .i64 kp)) := ⟨(hb.cell (World.block_lt_of_cell? wcr8 _ Z1.out)).trans Z1.out⟩
  replace Z2 : Aside0 (wcr9.cell? ⟨w2.heap.size, 0, none⟩ = some (.int .i64 v)) := ⟨(hb.cell (World.block_lt_of_cell? wcr8 _ Z2.out)).trans Z2.out⟩
  replace HB := Aside0.mk (HB.out.trans (hb.mono HB.out.size))
  replace KXh := Aside0.mk (blk_below KXh.out hb)
  replace KXr := Aside0.mk (blk_below KXr.out hb)
  replace HVl := Aside0.mk (Kd.V_below HVl.out hb)
  replace HTR := Aside0.mk (Kd.C_below HTR.out hb)
  clear hb hHeld
  refine hK.out _ _ ⟨Z0.out, Z1.out, Z2.out⟩ (fun hHeld => ?_)
  clear hK K
  refine norm_ (a' := ?_) ?_ ?_
  rotate_left
  · show Act.put _ (some 65) _ = _
    simp only [Act.put, List.setIfInBounds_toArray, List.set_cons_zero, List.set_cons_succ, i64_w, i32_w]
    rfl
  refine last_ (i := 10) (N := none) #[true, true, true, true, true, true, true, true, true, true, true, false] rfl rfl (one_of HT_.out (by kernel_rfl)) (by decide) (fun K hK => ?_)
  have y0 : wcr9.cell? ⟨w.heap.size + 1, 0, none⟩ = some (.slice none 0 0) := (blk_cell KXr.out 0).trans rfl
  have y1 : wcr9.cell? ⟨w.heap.size + 1, 1, none⟩ = some (.int .i64 0) := (blk_cell KXr.out 1).trans rfl
  have g0 := blk_frozen KXr.out 0
  have g1 := blk_frozen KXr.out 1
  refine skip_ (w1 := ?_) (by rfl) rfl ?_ ?_
  rotate_left
  · go_simp
    rfl
  refine hK.out _ _ ?_
  clear hK K
  refine pure_ (i := 11) (N := some 5) (v := ?_) (a' := ?_) #[true, true, true, true, true, true, true, true, true, true, true, true] rfl rfl (any_of HT_.out (by kernel_rfl)) (fun _ _ _ h => h) (Or.inl ⟨by rfl, ?_⟩) ?_ ?_
  rotate_left
  · intro w'
    go_simp
    with_reducible rfl
  rotate_left
  · simp only [Act.put, List.setIfInBounds_toArray, List.set_cons_zero, List.set_cons_succ, i64_w, i32_w]
    rfl
  refine done_ (done_of HT_.out (by kernel_rfl)) ?_
  clear hHeld HT_ HW_
  clear y0 y1 g0 g1 Z0 Z1 Z2
  go_wp2
  have hft : ∀ k_, some k_ = (Value.slice A4 ([(fv, f0), (fp, fk1)] ++ fr).length c4).ownBlock → k_ ≠ w.heap.size + 1 := fun k_ hk_ => by have h1 := HR4B.out k_ hk_.symm; have h2 := HS4.out; omega
  have hR5 := Kd.R_far (p := ⟨w.heap.size + 1, 1, none⟩) (Kd.R_far (p := ⟨w.heap.size + 1, 0, none⟩) HR4.out hft (.slice A l.length c)) hft (.int .i64 kp)
  have hts : fls ((v, 0) :: (p, k + 1) :: rest) = [(fv, f0), (fp, fk1)] ++ fr := by
    show (fl v, fl 0) :: (fl p, fl (k + 1)) :: fls rest = _
    rw [HFV.out, HF0.out, HFP.out, HFK1.out, HFR.out]
    rfl
  have HBf := below_set (below_set HB.out (show w.heap.size ≤ w.heap.size + 1 by omega) (j := 0) (v := .slice A l.length c)) (show w.heap.size ≤ w.heap.size + 1 by omega) (j := 1) (v := .int .i64 kp)
  have hfl := HFRL.out
  refine bodyPost_ret (results_ct rfl _ _ (w.heap.size + 1) 24 #[.slice A l.length c, .int .i64 kp] (0, 0) _ rfl (blk_put (cs := #[.slice A l.length c, .int .i64 0]) (blk_put (cs := #[.slice none 0 0, .int .i64 0]) KXr.out 0 _ rfl) 1 _ rfl) Try.underlying24 rfl (by kernel_rfl)) rfl ?_
  refine ⟨A, c, A4, c4, by rw [hfl]; rfl, ?_, by rw [hts]; exact Kd.F_mono (Kd.V_F (Kd.R_V (base' := 0) hR5)) (fun k hk => .inr (by have := HR4B.out k hk.symm; have := HS4.out; omega)), by have := HD4.out; simp only [List.length_append, List.length_cons, List.length_nil] at this ⊢; omega, HBf⟩
  exact V_base (Kd.V_mono (Kd.V_far (p := ⟨w.heap.size + 1, 1, none⟩) (Kd.V_far (p := ⟨w.heap.size + 1, 0, none⟩) HVl.out (fun k hk => (HQ3.out k hk).2) _) (fun k hk => (HQ3.out k hk).2) _) (fun k hk => HQ4.out k hk))
end Go.Proofs.Ytflndiikeoflfaa.P
end
section
namespace Go.Proofs.Ytflndiikeoflfaa.P
open Go.RowKit Go.Proofs.YtflndiikeoflfaaW.PrintWords Go.Proofs.YtflndiikeoflfaaW.PrintLast Go.Proofs.YtflndiikeoflfaaW.PrintMore
set_option linter.unusedVariables false
set_option linter.unusedSimpArgs false
def StepR (kp : Int) (s s' : List S38 × List (Nat × Nat)) : Prop :=
  ∀ (P : Nat → Prop) (A : Option Addr) (c : Nat) (At : Option Addr) (ct : Nat) (Pt : Nat → Prop) (w : World), Kd.V k38 38 w w.heap.size P (.slice A s.1.length c) s.1 → Kd.F kc w Pt At (fls s.2).length (fls s.2) → s.2.length ≤ ct →
    Calls Try.prog 10 #[.agg #[.slice A s.1.length c, .int .i64 kp], .slice At s.2.length ct] w fun e w' => ∃ (A' : Option Addr) (c' : Nat) (At' : Option Addr) (ct' : Nat), e = .returned (.tuple #[.agg #[.slice A' s'.1.length c', .int .i64 kp], .slice At' s'.2.length ct']) ∧ Kd.V k38 38 w' w.heap.size (fun k => P k ∨ w.heap.size ≤ k) (.slice A' s'.1.length c') s'.1 ∧ Kd.F kc w' (fun k => Pt k ∨ w.heap.size ≤ k) At' (fls s'.2).length (fls s'.2) ∧ s'.2.length ≤ ct' ∧ Below w.heap.size w w'
set_option maxHeartbeats 8000000 in
set_option maxRecDepth 100000 in
theorem left_walk (P : Nat → Prop) (A : Option Addr) (c : Nat) (kp : Int) (At : Option Addr) (ct : Nat) (Pt : Nat → Prop) (ch : Nat → List S38 × List (Nat × Nat)) (n : Nat) (s0 : List S38 × List (Nat × Nat)) (h0 : ch 0 = s0) (hn : n < 20000) (hch : ∀ i, i < n → 0 < (ch i).2.length ∧ (ch i).2.length < 1000000 ∧ StepR kp (ch i) (ch (i + 1))) (hend : (ch n).2.length = 0) (w : World) (hs : Kd.V k38 38 w w.heap.size P (.slice A s0.1.length c) s0.1) (ht : Kd.F kc w Pt At (fls s0.2).length (fls s0.2)) (htc : s0.2.length ≤ ct) :
    Calls Try.prog 8 #[.agg #[.slice A s0.1.length c, .int .i64 kp], .slice At s0.2.length ct] w fun e w' => e = .returned (.int .i64 n) ∧ Below w.heap.size w w' := by
  obtain ⟨-, hc, hr⟩ := Kd.V_at hs
  obtain ⟨P', hP, hr'⟩ : ∃ P' : Nat → Prop, (∀ k, P' k → P k ∧ k < w.heap.size) ∧ Kd.F k38 w P' A s0.1.length s0.1 := ⟨_, fun _ h => h, Kd.F_bound hr⟩
  obtain ⟨Pt', hPt, ht'⟩ : ∃ P' : Nat → Prop, (∀ k, P' k → k < w.heap.size) ∧ Kd.F kc w P' At (fls s0.2).length (fls s0.2) := ⟨_, fun _ h => h.2, Kd.F_bound ht⟩
  obtain ⟨wA, hwA⟩ : ∃ wA, w.alloc (.cells #[.slice A s0.1.length c, .int .i64 kp] 24) = wA := ⟨_, rfl⟩
  have HB : Aside0 (Below w.heap.size w wA) := ⟨by rw [← hwA]; exact (Below.refl _ w).alloc (Nat.le_refl _) _⟩
  have KXh : Aside0 (wA.heap[w.heap.size]? = some (.cells #[.slice A s0.1.length c, .int .i64 kp] 24 (0, 0))) := ⟨by rw [← hwA]; exact alloc_new w _⟩
  obtain ⟨Q, hQ1, hQ2, hQ3, hQ4⟩ : ∃ Q : Nat → Prop, (∀ k, P' k → Q k) ∧ (∀ k, w.heap.size + 1 ≤ k → Q k) ∧ (∀ k, Q k → k ≠ w.heap.size) ∧ (∀ k, Q k → P k ∨ w.heap.size ≤ k) := by
    refine ⟨fun k => (P' k ∨ w.heap.size ≤ k) ∧ (k ≠ w.heap.size), fun k hk => ?_, fun k hk => ?_, fun k hk => hk.2, fun k hk => hk.1.elim (fun h => .inl (hP k h).1) .inr⟩
    · have := (hP k hk).2; exact ⟨.inl hk, by omega⟩
    · exact ⟨.inr (by omega), by omega⟩
  obtain ⟨Qt, hT1, hT2, hT3⟩ : ∃ Q : Nat → Prop, (∀ k, Pt' k → Q k) ∧ (∀ k, w.heap.size + 1 ≤ k → Q k) ∧ (∀ k, Q k → k ≠ w.heap.size) := by
    refine ⟨fun k => (Pt' k ∨ w.heap.size ≤ k) ∧ (k ≠ w.heap.size), fun k hk => ?_, fun k hk => ?_, fun k hk => hk.2⟩
    · have := hPt k hk; exact ⟨.inl hk, by omega⟩
    · exact ⟨.inr (by omega), by omega⟩
  have HQ2 := Aside0.mk hQ2
  have HQ3 := Aside0.mk hQ3
  have HQ4 := Aside0.mk hQ4
  have HT2 := Aside0.mk hT2
  have HT3 := Aside0.mk hT3
  have HCH := Aside0.mk hch
  have HH0 := Aside0.mk h0
  have HEN := Aside0.mk hend
  have HVl : Aside0 (Kd.V k38 38 wA 0 Q (.slice A s0.1.length c) s0.1) := ⟨Kd.V_mk hc (Kd.F_mono (Kd.F_below hr' HB.out) hQ1)⟩
  have HFt : Aside0 (Kd.F kc wA Qt At (fls s0.2).length (fls s0.2)) := ⟨Kd.F_mono (Kd.F_below ht' HB.out) hT1⟩
  have HTC := Aside0.mk htc
  have hu24 := Try.underlying24
  have hu28 := Try.underlying28
  clear hs hr hr' hP hc ht ht' hPt hQ1 hQ2 hQ3 hQ4 hT1 hT2 hT3 hch h0 htc
  go_enter Try.func8, Try.ntmps8
  go_wp2_with fail
  clear hwA
  go_loopg [1, 5] n (fun kx s1 si wr => ∃ (i : Nat) (A' : Option Addr) (c' : Nat) (At' : Option Addr) (ct' : Nat), s1 = .slice At' (ch i).2.length ct' ∧ si = .int .i64 i ∧ i ≤ n ∧ n - i ≤ kx ∧ Aside0 (Below w.heap.size w wr) ∧ Aside0 (wr.heap[w.heap.size]? = some (.cells #[.slice A' (ch i).1.length c', .int .i64 kp] 24 (0, 0))) ∧ Aside0 (Kd.V k38 38 wr 0 Q (.slice A' (ch i).1.length c') (ch i).1) ∧ Aside0 (Kd.F kc wr Qt At' (fls (ch i).2).length (fls (ch i).2)) ∧ Aside0 ((ch i).2.length ≤ ct'))
  case atStart => exact ⟨0, A, c, At, ct, by rw [HH0.out], rfl, Nat.zero_le _, by omega, HB, by rw [HH0.out]; exact KXh, by rw [HH0.out]; exact HVl, by rw [HH0.out]; exact HFt, by rw [HH0.out]; exact HTC⟩
  case round =>
    clear HB KXh HVl HFt HTC HH0
    obtain ⟨i, A', c', At', ct', rfl, rfl, hi, hgi, HB, KXh, HVl, HFt, HTC⟩ := hrel
    have b0 : wr.cell? ⟨w.heap.size, 0, none⟩ = some (.slice A' (ch i).1.length c') := (blk_cell KXh.out 0).trans rfl
    have b1 : wr.cell? ⟨w.heap.size, 1, none⟩ = some (.int .i64 kp) := (blk_cell KXh.out 1).trans rfl
    have lh : w.heap.size < wr.heap.size := blk_lt KXh.out
    by_cases hlt : i < n
    · obtain ⟨h1, h2, h3⟩ := HCH.out i hlt
      have HST := Aside0.mk h3
      obtain ⟨si, hsi⟩ : ∃ s, ch i = s := ⟨_, rfl⟩
      rw [hsi] at h1 h2 HST KXh HVl HFt HTC b0 ⊢
      clear h3 hsi
      obtain ⟨m, hm⟩ : ∃ m, si.2.length = m := ⟨_, rfl⟩
      rw [hm] at h1 h2 ⊢
      have p1 : decide ((m : Int) > 0) = true := decide_eq_true (by omega)
      have p2 : ((0 : Int) < (m : Int)) = True := eq_true (by omega)
      have p3 : (0 < m) = True := eq_true h1
      have p4 : decide ((i : Int) < 20000) = true := decide_eq_true (by omega)
      have p5 : ((i : Int) < 20000) = True := eq_true (by omega)
      have HM := Aside0.mk hm
      clear hm h1 h2
      go_wp2_with fail
      clear b0 b1 p1 p2 p3 lh p4 p5
      rw [← HM.out]
      refine (HST.out Q A' c' At' ct' Qt wr (V_base HVl.out) HFt.out HTC.out).mono ?_
      rintro e w2 ⟨A2, c2, At2, ct2, rfl, hv, hf, hct, hb⟩
      have HSZ := Aside0.mk (show w.heap.size + 1 ≤ wr.heap.size from blk_lt KXh.out)
      replace KXh := Aside0.mk (blk_below KXh.out hb)
      replace HB := Aside0.mk (HB.out.trans (hb.mono HB.out.size))
      skip
      have HV2 : Aside0 (Kd.V k38 38 w2 0 Q (.slice A2 (ch (i + 1)).1.length c2) (ch (i + 1)).1) := ⟨V_base (Kd.V_mono hv (fun k hk => hk.elim id (fun h => HQ2.out k (by have := HSZ.out; omega))))⟩
      have HF2 : Aside0 (Kd.F kc w2 Qt At2 (fls (ch (i + 1)).2).length (fls (ch (i + 1)).2)) := ⟨Kd.F_mono hf (fun k hk => hk.elim id (fun h => HT2.out k (by have := HSZ.out; omega)))⟩
      have HC2 := Aside0.mk hct
      clear hb hv hf hct
      have b0 : w2.cell? ⟨w.heap.size, 0, none⟩ = some (.slice A' si.1.length c') := (blk_cell KXh.out 0).trans rfl
      have b1 : w2.cell? ⟨w.heap.size, 1, none⟩ = some (.int .i64 kp) := (blk_cell KXh.out 1).trans rfl
      have f0 := blk_frozen KXh.out 0
      have f1 := blk_frozen KXh.out 1
      go_wp2
      go_roundg (n - (i + 1))
      case measure => omega
      case rel => exact ⟨i + 1, A2, c2, At2, ct2, rfl, by simp, by omega, Nat.le_refl _, ⟨below_set (below_set HB.out (Nat.le_refl _)) (Nat.le_refl _)⟩, ⟨blk_put (blk_put KXh.out 0 _ rfl) 1 _ rfl⟩, ⟨Kd.V_far (p := ⟨w.heap.size, 1, none⟩) (Kd.V_far (p := ⟨w.heap.size, 0, none⟩) HV2.out (fun k hk => HQ3.out k hk) _) (fun k hk => HQ3.out k hk) _⟩, ⟨Kd.F_far (p := ⟨w.heap.size, 1, none⟩) (Kd.F_far (p := ⟨w.heap.size, 0, none⟩) HF2.out (fun k hk => HT3.out k hk) _) (fun k hk => HT3.out k hk) _⟩, HC2⟩
    · obtain rfl : i = n := by omega
      have hz := HEN.out
      rw [hz]
      go_wp2
      go_ret
      exact ⟨rfl, HB.out⟩
set_option maxHeartbeats 8000000 in
set_option maxRecDepth 100000 in
theorem steps_walk (P : Nat → Prop) (A : Option Addr) (c : Nat) (kp : Int) (At : Option Addr) (ct : Nat) (Pt : Nat → Prop) (ch : Nat → List S38 × List (Nat × Nat)) (n : Nat) (s0 : List S38 × List (Nat × Nat)) (h0 : ch 0 = s0) (hn : n < 20000) (hch : ∀ i, i < n → 0 < (ch i).2.length ∧ (ch i).2.length < 1000000 ∧ StepR kp (ch i) (ch (i + 1))) (w : World) (hs : Kd.V k38 38 w w.heap.size P (.slice A s0.1.length c) s0.1) (ht : Kd.F kc w Pt At (fls s0.2).length (fls s0.2)) (htc : s0.2.length ≤ ct) :
    Calls Try.prog 13 #[.agg #[.slice A s0.1.length c, .int .i64 kp], .slice At s0.2.length ct, .int .i64 n] w fun e w' => ∃ (A' : Option Addr) (c' : Nat) (At' : Option Addr) (ct' : Nat), e = .returned (.tuple #[.agg #[.slice A' (ch n).1.length c', .int .i64 kp], .slice At' (ch n).2.length ct']) ∧ Kd.V k38 38 w' w.heap.size (fun k => P k ∨ w.heap.size ≤ k) (.slice A' (ch n).1.length c') (ch n).1 ∧ (ch n).2.length ≤ ct' ∧ Below w.heap.size w w' := by
  obtain ⟨-, hc, hr⟩ := Kd.V_at hs
  obtain ⟨P', hP, hr'⟩ : ∃ P' : Nat → Prop, (∀ k, P' k → P k ∧ k < w.heap.size) ∧ Kd.F k38 w P' A s0.1.length s0.1 := ⟨_, fun _ h => h, Kd.F_bound hr⟩
  obtain ⟨Pt', hPt, ht'⟩ : ∃ P' : Nat → Prop, (∀ k, P' k → k < w.heap.size) ∧ Kd.F kc w P' At (fls s0.2).length (fls s0.2) := ⟨_, fun _ h => h.2, Kd.F_bound ht⟩
  obtain ⟨wA, hwA⟩ : ∃ wA, (w.alloc (.cells #[.slice A s0.1.length c, .int .i64 kp] 24)).alloc (.cells #[.slice none 0 0, .int .i64 0] 24) = wA := ⟨_, rfl⟩
  have HB : Aside0 (Below w.heap.size w wA) := ⟨by rw [← hwA]; exact ((Below.refl _ w).alloc (Nat.le_refl _) _).alloc (by simp) _⟩
  have KXh : Aside0 (wA.heap[w.heap.size]? = some (.cells #[.slice A s0.1.length c, .int .i64 kp] 24 (0, 0))) := ⟨by rw [← hwA]; exact blk_alloc (alloc_new w _) _⟩
  have KXr : Aside0 (wA.heap[w.heap.size + 1]? = some (.cells #[.slice none 0 0, .int .i64 0] 24 (0, 0))) := ⟨by
    rw [← hwA]
    have := alloc_new (w.alloc (.cells #[.slice A s0.1.length c, .int .i64 kp] 24)) (.cells #[.slice none 0 0, .int .i64 0] 24)
    rwa [World.size_alloc] at this⟩
  obtain ⟨Q, hQ1, hQ2, hQ3, hQ4⟩ : ∃ Q : Nat → Prop, (∀ k, P' k → Q k) ∧ (∀ k, w.heap.size + 2 ≤ k → Q k) ∧ (∀ k, Q k → k ≠ w.heap.size ∧ k ≠ w.heap.size + 1) ∧ (∀ k, Q k → P k ∨ w.heap.size ≤ k) := by
    refine ⟨fun k => (P' k ∨ w.heap.size ≤ k) ∧ (k ≠ w.heap.size ∧ k ≠ w.heap.size + 1), fun k hk => ?_, fun k hk => ?_, fun k hk => hk.2, fun k hk => hk.1.elim (fun h => .inl (hP k h).1) .inr⟩
    · have := (hP k hk).2; exact ⟨.inl hk, by omega⟩
    · exact ⟨.inr (by omega), by omega⟩
  obtain ⟨Qt, hT1, hT2, hT3⟩ : ∃ Q : Nat → Prop, (∀ k, Pt' k → Q k) ∧ (∀ k, w.heap.size + 2 ≤ k → Q k) ∧ (∀ k, Q k → k ≠ w.heap.size ∧ k ≠ w.heap.size + 1) := by
    refine ⟨fun k => (Pt' k ∨ w.heap.size ≤ k) ∧ (k ≠ w.heap.size ∧ k ≠ w.heap.size + 1), fun k hk => ?_, fun k hk => ?_, fun k hk => hk.2⟩
    · have := hPt k hk; exact ⟨.inl hk, by omega⟩
    · exact ⟨.inr (by omega), by omega⟩
  have HQ2 := Aside0.mk hQ2
  have HQ3 := Aside0.mk hQ3
  have HQ4 := Aside0.mk hQ4
  have HT2 := Aside0.mk hT2
  have HT3 := Aside0.mk hT3
  have HCH := Aside0.mk hch
  have HH0 := Aside0.mk h0
  have HVl : Aside0 (Kd.V k38 38 wA 0 Q (.slice A s0.1.length c) s0.1) := ⟨Kd.V_mk hc (Kd.F_mono (Kd.F_below hr' HB.out) hQ1)⟩
  have HFt : Aside0 (Kd.F kc wA Qt At (fls s0.2).length (fls s0.2)) := ⟨Kd.F_mono (Kd.F_below ht' HB.out) hT1⟩
  have HTC := Aside0.mk htc
  have hu24 := Try.underlying24
  have hu28 := Try.underlying28
  clear hs hr hr' hP hc ht ht' hPt hQ1 hQ2 hQ3 hQ4 hT1 hT2 hT3 hch h0 htc
  go_enter Try.func13, Try.ntmps13
  go_wp2_with fail
  clear hwA
  go_loopg [1, 8] n (fun kx s1 si wr => ∃ (i : Nat) (A' : Option Addr) (c' : Nat) (At' : Option Addr) (ct' : Nat), s1 = .slice At' (ch i).2.length ct' ∧ si = .int .i64 i ∧ i ≤ n ∧ n - i ≤ kx ∧ Aside0 (Below w.heap.size w wr) ∧ Aside0 (wr.heap[w.heap.size]? = some (.cells #[.slice A' (ch i).1.length c', .int .i64 kp] 24 (0, 0))) ∧ Aside0 (Kd.V k38 38 wr 0 Q (.slice A' (ch i).1.length c') (ch i).1) ∧ Aside0 (Kd.F kc wr Qt At' (fls (ch i).2).length (fls (ch i).2)) ∧ Aside0 ((ch i).2.length ≤ ct') ∧ Aside0 (wr.heap[w.heap.size + 1]? = some (.cells #[.slice none 0 0, .int .i64 0] 24 (0, 0))))
  case atStart => exact ⟨0, A, c, At, ct, by rw [HH0.out], rfl, Nat.zero_le _, by omega, HB, by rw [HH0.out]; exact KXh, by rw [HH0.out]; exact HVl, by rw [HH0.out]; exact HFt, by rw [HH0.out]; exact HTC, KXr⟩
  case round =>
    clear HB KXh HVl HFt HTC HH0 KXr
    obtain ⟨i, A', c', At', ct', rfl, rfl, hi, hgi, HB, KXh, HVl, HFt, HTC, KXr⟩ := hrel
    have b0 : wr.cell? ⟨w.heap.size, 0, none⟩ = some (.slice A' (ch i).1.length c') := (blk_cell KXh.out 0).trans rfl
    have b1 : wr.cell? ⟨w.heap.size, 1, none⟩ = some (.int .i64 kp) := (blk_cell KXh.out 1).trans rfl
    have lh : w.heap.size < wr.heap.size := blk_lt KXh.out
    by_cases hlt : i < n
    · obtain ⟨h1, h2, h3⟩ := HCH.out i hlt
      have HST := Aside0.mk h3
      obtain ⟨si, hsi⟩ : ∃ s, ch i = s := ⟨_, rfl⟩
      rw [hsi] at h1 h2 HST KXh HVl HFt HTC b0 ⊢
      clear h3 hsi
      obtain ⟨m, hm⟩ : ∃ m, si.2.length = m := ⟨_, rfl⟩
      rw [hm] at h1 h2 ⊢
      have p1 : decide ((m : Int) > 0) = true := decide_eq_true (by omega)
      have p2 : ((0 : Int) < (m : Int)) = True := eq_true (by omega)
      have p3 : (0 < m) = True := eq_true h1
      have p4 : decide ((i : Int) < (n : Int)) = true := decide_eq_true (by omega)
      have p5 : ((i : Int) < (n : Int)) = True := eq_true (by omega)
      have p6 : (i < n) = True := eq_true hlt
      have HM := Aside0.mk hm
      clear hm h1 h2
      go_wp2_with fail
      clear b0 b1 p1 p2 p3 lh p4 p5 p6
      rw [← HM.out]
      refine (HST.out Q A' c' At' ct' Qt wr (V_base HVl.out) HFt.out HTC.out).mono ?_
      rintro e w2 ⟨A2, c2, At2, ct2, rfl, hv, hf, hct, hb⟩
      have HSZ := Aside0.mk (show w.heap.size + 2 ≤ wr.heap.size from blk_lt KXr.out)
      replace KXh := Aside0.mk (blk_below KXh.out hb)
      replace HB := Aside0.mk (HB.out.trans (hb.mono HB.out.size))
      replace KXr := Aside0.mk (blk_below KXr.out hb)
      have HV2 : Aside0 (Kd.V k38 38 w2 0 Q (.slice A2 (ch (i + 1)).1.length c2) (ch (i + 1)).1) := ⟨V_base (Kd.V_mono hv (fun k hk => hk.elim id (fun h => HQ2.out k (by have := HSZ.out; omega))))⟩
      have HF2 : Aside0 (Kd.F kc w2 Qt At2 (fls (ch (i + 1)).2).length (fls (ch (i + 1)).2)) := ⟨Kd.F_mono hf (fun k hk => hk.elim id (fun h => HT2.out k (by have := HSZ.out; omega)))⟩
      have HC2 := Aside0.mk hct
      clear hb hv hf hct
      have b0 : w2.cell? ⟨w.heap.size, 0, none⟩ = some (.slice A' si.1.length c') := (blk_cell KXh.out 0).trans rfl
      have b1 : w2.cell? ⟨w.heap.size, 1, none⟩ = some (.int .i64 kp) := (blk_cell KXh.out 1).trans rfl
      have f0 := blk_frozen KXh.out 0
      have f1 := blk_frozen KXh.out 1
      go_wp2
      go_roundg (n - (i + 1))
      case measure => omega
      case rel => exact ⟨i + 1, A2, c2, At2, ct2, rfl, by simp, by omega, Nat.le_refl _, ⟨below_set (below_set HB.out (Nat.le_refl _)) (Nat.le_refl _)⟩, ⟨blk_put (blk_put KXh.out 0 _ rfl) 1 _ rfl⟩, ⟨Kd.V_far (p := ⟨w.heap.size, 1, none⟩) (Kd.V_far (p := ⟨w.heap.size, 0, none⟩) HV2.out (fun k hk => (HQ3.out k hk).1) _) (fun k hk => (HQ3.out k hk).1) _⟩, ⟨Kd.F_far (p := ⟨w.heap.size, 1, none⟩) (Kd.F_far (p := ⟨w.heap.size, 0, none⟩) HF2.out (fun k hk => (HT3.out k hk).1) _) (fun k hk => (HT3.out k hk).1) _⟩, HC2, ⟨blk_far (blk_far KXr.out (p := ⟨w.heap.size, 0, none⟩) (by simp) _) (p := ⟨w.heap.size, 1, none⟩) (by simp) _⟩⟩
    · obtain rfl : i = n := by omega
      have p4 : decide ((i : Int) < (i : Int)) = false := decide_eq_false (by omega)
      have p5 : ((i : Int) < (i : Int)) = False := eq_false (by omega)
      have y0 : wr.cell? ⟨w.heap.size + 1, 0, none⟩ = some (.slice none 0 0) := (blk_cell KXr.out 0).trans rfl
      have y1 : wr.cell? ⟨w.heap.size + 1, 1, none⟩ = some (.int .i64 0) := (blk_cell KXr.out 1).trans rfl
      have g0 := blk_frozen KXr.out 0
      have g1 := blk_frozen KXr.out 1
      go_wp2
      refine bodyPost_ret (results_ct rfl _ _ (w.heap.size + 1) 24 #[.slice A' (ch i).1.length c', .int .i64 kp] (0, 0) _ rfl (blk_put (cs := #[.slice A' (ch i).1.length c', .int .i64 0]) (blk_put (cs := #[.slice none 0 0, .int .i64 0]) KXr.out 0 _ rfl) 1 _ rfl) Try.underlying24 rfl (by kernel_rfl)) rfl ?_
      refine ⟨A', c', At', ct', rfl, ?_, HTC.out, below_set (below_set HB.out (by omega)) (by omega)⟩
      exact V_base (Kd.V_mono (Kd.V_far (p := ⟨w.heap.size + 1, 1, none⟩) (Kd.V_far (p := ⟨w.heap.size + 1, 0, none⟩) HVl.out (fun k hk => (HQ3.out k hk).2) _) (fun k hk => (HQ3.out k hk).2) _) (fun k hk => HQ4.out k hk))
end Go.Proofs.Ytflndiikeoflfaa.P
end
section
namespace Go.Proofs.Ytflndiikeoflfaa.P
open Go.RowKit Go.Proofs.YtflndiikeoflfaaW.PrintWords Go.Proofs.YtflndiikeoflfaaW.PrintLast Go.Proofs.YtflndiikeoflfaaW.PrintMore
set_option linter.unusedVariables false
set_option linter.unusedSimpArgs false
theorem refNodes_loop {l : List S38} {kp : Int} (it : List S46) (hl : it.length ≤ 1000) (F : Int → List Int) (m : Nat)
    (hF : ∀ i, i < it.length → ∀ k, m ≤ k → assartref07_Nodes.f k l kp (vAt it i) = some (F (vAt it i)) ∧ (F (vAt it i)).length ≤ 100000) :
    ∀ (d k j : Nat) (acc : List Int), j + d = it.length → m + d + 1 ≤ k → acc.length ≤ 100000 * (j + 1) → assartref07_Nodes.l0 k acc (j : Int) l kp false it = some (acc ++ (it.drop j).flatMap fun x => F x.f1) := by
  intro d
  induction d with
  | zero =>
    intro k j acc hj hk ha
    obtain ⟨k, rfl⟩ : ∃ m, k = m + 1 := ⟨k - 1, by omega⟩
    simp only [assartref07_Nodes.l0]
    rw [if_neg (by omega), List.drop_eq_nil_of_le (by omega)]
    simp
  | succ d ih =>
    intro k j acc hj hk ha
    obtain ⟨k, rfl⟩ : ∃ m, k = m + 1 := ⟨k - 1, by omega⟩
    have hf := hF j (by omega) k (by omega)
    simp only [assartref07_Nodes.l0]
    rw [if_pos (by omega), if_neg (by simp), if_pos (by omega), hf.1, Option.bind_some, if_pos (by omega), wsucc j (by omega),
      ih k (j + 1) (acc ++ F (vAt it j)) (by omega) (by omega) (by rw [List.length_append]; omega), drop_at it j (by omega), List.flatMap_cons, List.append_assoc]
theorem refNodes_val {l : List S38} {kp : Int} (H : HR l) : ∀ (h k : Nat) (p : Int), Tr l h p → 6 * h ≤ k → assartref07_Nodes.f k l kp p = some (Ns l h p) := by
  intro h
  induction h with
  | zero => intro k p t; exact t.elim
  | succ h ih =>
    intro k p t hk
    have hn := t.rn H
    obtain ⟨k, rfl⟩ : ∃ m, k = m + 1 := ⟨k - 1, by omega⟩
    have tb := t.base
    simp only [assartref07_Nodes.f]
    rw [if_neg (by omega), if_pos tb.1, if_pos tb.2.1]
    match h, t, ih with
    | 0, t, ih =>
      have hlf : (rd_T38 l p).f2.f0 = true := t.2.2.2
      obtain ⟨k, rfl⟩ : ∃ m, k = m + 1 := ⟨k - 1, by omega⟩
      have := hn.1
      simp only [assartref07_Nodes.l0]
      rw [hlf, if_pos (show (0 : Int) < ((It l p).length : Int) by omega), if_pos rfl]
      rfl
    | h + 1, t, ih =>
      have hlf : (rd_T38 l p).f2.f0 = false := t.2.2.2.1
      rw [hlf]
      have := hn.2.1
      have := refNodes_loop (kp := kp) (It l p) (by omega) (Ns l (h + 1)) (6 * (h + 1)) (fun i hi k hk => ⟨ih k _ (t.2.2.2.2 i hi).1 hk, by
        have := ns_len H (t.2.2.2.2 i hi).1
        have := H.1
        omega⟩) _ k 0 [p] (Nat.zero_add _) (by omega) (by simp)
      exact this
abbrev St : Type := List S38 × List (Nat × Nat)
inductive Run (kp : Int) : Nat → St → St → Prop
  | nil (s : St) : Run kp 0 s s
  | step {n : Nat} {s s' t : St} (h0 : 0 < s.2.length) (h1 : s.2.length < 1000000) (hs : StepR kp s s') (hr : Run kp n s' t) : Run kp (n + 1) s t
theorem Run.trans {kp : Int} {n m : Nat} {s t u : St} (a : Run kp n s t) (b : Run kp m t u) : Run kp (n + m) s u := by
  induction a with
  | nil s => rw [Nat.zero_add]; exact b
  | step h0 h1 hs _ ih => rw [Nat.add_right_comm]; exact .step h0 h1 hs (ih b)
theorem Run.one {kp : Int} {s t : St} (h0 : 0 < s.2.length) (h1 : s.2.length < 1000000) (hs : StepR kp s t) : Run kp 1 s t := .step h0 h1 hs (.nil t)
theorem Run.chain {kp : Int} {n : Nat} {s t : St} (a : Run kp n s t) : ∃ ch : Nat → St, ch 0 = s ∧ ch n = t ∧ ∀ i, i < n → 0 < (ch i).2.length ∧ (ch i).2.length < 1000000 ∧ StepR kp (ch i) (ch (i + 1)) := by
  induction a with
  | nil s => exact ⟨fun _ => s, rfl, rfl, fun i hi => by omega⟩
  | @step n s s' t h0 h1 hs _ ih =>
    obtain ⟨ch, c0, cn, hc⟩ := ih
    refine ⟨fun i => match i with | 0 => s | i + 1 => ch i, rfl, cn, fun i hi => ?_⟩
    match i with
    | 0 => exact ⟨h0, h1, by show StepR kp s (ch 0); rw [c0]; exact hs⟩
    | i + 1 => exact hc i (by omega)
theorem rd_toNat (l : List S38) (q : Int) : rd_T38 l ((q.toNat : Nat) : Int) = rd_T38 l q := by simp only [rd_T38, Int.toNat_natCast]
theorem rd_setq {l : List S38} {p : Nat} {x : S38} (hp : p < l.length) {q : Int} (h0 : 0 ≤ q) (h : q ≠ (p : Int)) : rd_T38 (l.set p x) q = rd_T38 l q := by
  rw [← rd_toNat (l.set p x) q, ← rd_toNat l q, rd_set hp, if_neg (by omega)]
theorem loose_set (l : List S38) (kp : Int) (p : Nat) (hp : p < l.length) (hl : l.length ≤ 40) (h1 : 1 ≤ (rd_T38 l (p : Nat)).f0) (h3 : (rd_T38 l (p : Nat)).f0 ≤ 1000000) (h : (rd_T38 l (p : Nat)).f0 ≠ 1 ∨ (rd_T38 l (p : Nat)).f2.f0 = true) : ∃ x, heap_Loose.f l kp (p : Nat) = some (l.set p x, kp, 0) := by
  have hu : usedB l (p : Nat) = true := by
    unfold usedB
    simp only [decide_eq_true_eq, Bool.and_eq_true]
    omega
  unfold heap_Loose.f
  rw [if_pos (by omega), if_pos hu, looseP, if_pos (by omega), if_neg (by omega)]
  by_cases c : 0 < (rd_T38 l (p : Nat)).f0 - 1
  · refine ⟨⟨(rd_T38 l (p : Nat)).f0 - 1, (rd_T38 l (p : Nat)).f1, (rd_T38 l (p : Nat)).f2⟩, ?_⟩
    rw [if_pos c, Option.bind_some, Int.toNat_natCast, if_pos (by rw [List.length_set]; omega)]
  · have hlf : (rd_T38 l (p : Nat)).f2.f0 = true := h.resolve_left (fun h => h (by omega))
    refine ⟨⟨(rd_T38 l (p : Nat)).f0 - 1, true, ⟨false, []⟩⟩, ?_⟩
    rw [if_neg c]
    unfold eachP
    rw [hlf, if_pos rfl, Option.bind_some, Int.toNat_natCast, if_pos (by rw [List.length_set]; omega)]
section
variable {l0 : List S38} {kp : Int} (H : HR l0) (hl : l0.length ≤ 40) (hs : smallF l0 0)
def Gives (l0 : List S38) (kp : Int) (h : Nat) (p : Int) (l : List S38) (rest : List (Nat × Nat)) : Prop :=
  ∃ n l', Run kp n (l, (p.toNat, 0) :: rest) (l', rest) ∧ l'.length = l0.length ∧ (∀ q : Int, 0 ≤ q → q ∉ Ns l0 h p → rd_T38 l' q = rd_T38 l q) ∧
    1 ≤ n ∧ n + 1 ≤ 3 * (Ns l0 h p).length ∧ ((1 < (rd_T38 l0 p).f0 ∨ (rd_T38 l0 p).f2.f0 = true) → n = 1) ∧ (¬ (1 < (rd_T38 l0 p).f0 ∨ (rd_T38 l0 p).f2.f0 = true) → 3 ≤ n)
include hl hs in
theorem gives_less {h : Nat} {p : Int} (t : Tr l0 h p) {l : List S38} {rest : List (Nat × Nat)} (hlen : l.length = l0.length) (hp : rd_T38 l p = rd_T38 l0 p) (hr : rest.length < 900) (hmem : p ∈ Ns l0 h p)
    (hc : 1 < (rd_T38 l0 p).f0 ∨ (rd_T38 l0 p).f2.f0 = true) : Gives l0 kp h p l rest := by
  have tb := t.base
  have hpl : p.toNat < l.length := by omega
  have e : rd_T38 l ((p.toNat : Nat) : Int) = rd_T38 l0 p := by rw [rd_toNat, hp]
  have hbig := (hs p.toNat (by omega) (Nat.zero_le _)).2
  have e0 : Rf l0 ((p.toNat : Nat) : Int) = (rd_T38 l0 p).f0 := by simp only [Rf, rd_toNat]
  rw [e0] at hbig
  have h1 : 1 ≤ (rd_T38 l0 p).f0 := tb.2.2
  have hne : (rd_T38 l0 p).f0 ≠ 1 ∨ (rd_T38 l0 p).f2.f0 = true := hc.imp (fun h => by omega) id
  obtain ⟨x, hx⟩ := loose_set l kp p.toNat hpl (by omega) (by rw [e]; exact h1) (by rw [e]; exact hbig) (by rw [e]; exact hne)
  refine ⟨1, l.set p.toNat x, Run.one (by simp) (by simp; omega) ?_, by rw [List.length_set]; exact hlen, fun q h0 hq => ?_, Nat.le_refl _, ?_, fun _ => rfl, fun h => absurd hc h⟩
  · exact fun P A c At ct Pt w hs ht htc => step_less P A c l kp At ct p.toNat 0 rest w hs Pt ht htc (by omega) hpl (by omega) (by decide) rfl (by rw [e]; exact hne) _ 0 hx
  · exact rd_setq hpl h0 (fun e2 => hq (by rw [e2, Int.toNat_of_nonneg tb.1]; exact hmem))
  · have : 0 < (Ns l0 h p).length := List.length_pos_of_mem hmem
    omega
include hl in
theorem gives_loop {h : Nat} {p : Int} (tb : 0 ≤ p ∧ p < (l0.length : Int)) (hit : (It l0 p).length ≤ 10)
    (ih : ∀ i, i < (It l0 p).length → ∀ (l : List S38) (rest : List (Nat × Nat)), l.length = l0.length → (∀ q ∈ Ns l0 (h + 1) (vAt (It l0 p) i), rd_T38 l q = rd_T38 l0 q) → rest.length + h < 100 → Gives l0 kp (h + 1) (vAt (It l0 p) i) l rest)
    (hv : ∀ i, i < (It l0 p).length → 0 ≤ vAt (It l0 p) i) (hnn : ∀ i, i < (It l0 p).length → ∀ q ∈ Ns l0 (h + 1) (vAt (It l0 p) i), 0 ≤ q) (rest : List (Nat × Nat)) (hr : rest.length + h < 99) :
    ∀ (d j : Nat) (l : List S38), j + d = (It l0 p).length → l.length = l0.length → rd_T38 l p = rd_T38 l0 p → (p :: ((It l0 p).drop j).flatMap fun x => Ns l0 (h + 1) x.f1).Nodup →
      (∀ q ∈ ((It l0 p).drop j).flatMap fun x => Ns l0 (h + 1) x.f1, rd_T38 l q = rd_T38 l0 q) →
      ∃ n l', Run kp n (l, (p.toNat, j + 1) :: rest) (l', rest) ∧ l'.length = l0.length ∧ (∀ q : Int, 0 ≤ q → q ≠ p → q ∉ (((It l0 p).drop j).flatMap fun x => Ns l0 (h + 1) x.f1) → rd_T38 l' q = rd_T38 l q) ∧
        d * 2 + 1 ≤ n ∧ n ≤ 1 + 3 * (((It l0 p).drop j).flatMap fun x => Ns l0 (h + 1) x.f1).length := by
  intro d
  induction d with
  | zero =>
    intro j l hj hlen hp hnd hq
    have hpl : p.toNat < l.length := by omega
    have e : rd_T38 l ((p.toNat : Nat) : Int) = rd_T38 l0 p := by rw [rd_toNat, hp]
    refine ⟨1, l.set p.toNat ⟨0, true, ⟨false, []⟩⟩, Run.one (by simp) (by simp; omega) ?_, by rw [List.length_set]; exact hlen, fun q h0 hne _ => ?_, by omega, by omega⟩
    · exact fun P A c At ct Pt w hs ht htc => step_gone P A c l kp At ct p.toNat (j + 1) rest w hs Pt ht htc (by omega) hpl (by omega) (by omega) (by rw [e]; show (It l0 p).length < j + 1; omega)
    · exact rd_setq hpl h0 (by omega)
  | succ d ih2 =>
    intro j l hj hlen hp hnd hq
    have hjl : j < (It l0 p).length := by omega
    have hpl : p.toNat < l.length := by omega
    have e : rd_T38 l ((p.toNat : Nat) : Int) = rd_T38 l0 p := by rw [rd_toNat, hp]
    have hdr := drop_at (It l0 p) j hjl
    have hfl : (((It l0 p).drop j).flatMap fun x => Ns l0 (h + 1) x.f1) = Ns l0 (h + 1) (vAt (It l0 p) j) ++ (((It l0 p).drop (j + 1)).flatMap fun x => Ns l0 (h + 1) x.f1) := by rw [hdr, List.flatMap_cons]
    rw [hfl] at hnd hq ⊢
    obtain ⟨hpn, hnd2⟩ := List.nodup_cons.1 hnd
    obtain ⟨hn1, hn2, hdis⟩ := List.nodup_append.1 hnd2
    obtain ⟨n1, l1, r1, len1, k1, g1, g2, _, _⟩ := ih j hjl l ((p.toNat, j + 2) :: rest) hlen (fun q hm => hq q (List.mem_append_left _ hm)) (by simp; omega)
    have hp1 : rd_T38 l1 p = rd_T38 l0 p := by rw [k1 p tb.1 (fun hm => hpn (List.mem_append_left _ hm)), hp]
    obtain ⟨n2, l2, r2, len2, k2, f1, f2⟩ := ih2 (j + 1) l1 (by omega) len1 hp1 (List.nodup_cons.2 ⟨fun hm => hpn (List.mem_append_right _ hm), hn2⟩) (fun q hm => by
      obtain ⟨x, hx, hxq⟩ := List.mem_flatMap.1 hm
      obtain ⟨i, hi, rfl⟩ := List.mem_iff_getElem.1 (List.mem_of_mem_drop hx)
      have h0 : 0 ≤ q := hnn i hi q (by simp only [vAt, rd_eq _ i hi]; exact hxq)
      rw [k1 q h0 (fun hm1 => hdis q hm1 q hm rfl)]
      exact hq q (List.mem_append_right _ hm))
    refine ⟨1 + (n1 + n2), l2, Run.trans (Run.one (t := (l, ((vAt (It l0 p) j).toNat, 0) :: (p.toNat, j + 2) :: rest)) (by simp) (by simp; omega) ?_) (r1.trans r2), len2, fun q h0 hne hm => ?_, by omega, ?_⟩
    · exact fun P A c At ct Pt w hs ht htc => step_ahead P A c l kp At ct p.toNat (j + 1) rest w hs Pt ht htc (by omega) hpl (by omega) (by omega) (by rw [e]; show ¬ (It l0 p).length < j + 1; omega) (by omega) (vAt (It l0 p) j).toNat (by
        rw [e, Nat.add_sub_cancel]
        show vAt (It l0 p) j = _
        rw [Int.toNat_of_nonneg (hv j hjl)]) (by omega)
    · rw [k2 q h0 hne (fun h => hm (List.mem_append_right _ h)), k1 q h0 (fun h => hm (List.mem_append_left _ h))]
    · rw [List.length_append]; omega
include H hl hs in
theorem tree_gives : ∀ (h : Nat) (p : Int), Tr l0 h p → ∀ (l : List S38) (rest : List (Nat × Nat)), l.length = l0.length → (∀ q ∈ Ns l0 h p, rd_T38 l q = rd_T38 l0 q) → rest.length + h < 101 → Gives l0 kp h p l rest := by
  intro h
  induction h with
  | zero => intro p t; exact t.elim
  | succ h ih =>
    intro p t l rest hlen hq hr
    match h, t, ih, hq with
    | 0, t, ih, hq =>
      exact gives_less hl hs t hlen (hq p (List.mem_singleton.2 rfl)) (by omega) (List.mem_singleton.2 rfl) (.inr t.2.2.2)
    | h + 1, t, ih, hq =>
      have hmem : p ∈ Ns l0 (h + 2) p := List.mem_cons_self
      by_cases hc : 1 < (rd_T38 l0 p).f0 ∨ (rd_T38 l0 p).f2.f0 = true
      · exact gives_less hl hs t hlen (hq p hmem) (by omega) hmem hc
      · have tb := t.base
        have hn := t.rn H
        have hp := hq p hmem
        have hpl : p.toNat < l.length := by omega
        have e : rd_T38 l ((p.toNat : Nat) : Int) = rd_T38 l0 p := by rw [rd_toNat, hp]
        have hnd := ns_nodup H (h + 2) p t
        have hr0 : 0 < (rd_T38 l0 p).f0 := tb.2.2
        have hlf : (rd_T38 l0 p).f2.f0 = false := t.2.2.2.1
        obtain ⟨n, l', r, len, k, f1, f2⟩ := gives_loop (kp := kp) hl ⟨tb.1, tb.2.1⟩ (by have := hn.2.1; omega) (fun i hi l rest a b c => ih _ (t.2.2.2.2 i hi).1 l rest a b (by omega)) (fun i hi => (t.2.2.2.2 i hi).1.base.1)
          (fun i hi q hm => by
            obtain ⟨h', _, t', _⟩ := ns_mem H (h + 1) _ (t.2.2.2.2 i hi).1 q hm
            exact t'.base.1) rest (by omega) (It l0 p).length 0 l (Nat.zero_add _) hlen hp (by rw [List.drop_zero]; exact hnd) (fun q hm => hq q (List.mem_cons_of_mem _ (by rw [List.drop_zero] at hm; exact hm)))
        rw [List.drop_zero] at k f2
        have hN : (Ns l0 (h + 1 + 1) p).length = ((It l0 p).flatMap fun x => Ns l0 (h + 1) x.f1).length + 1 := rfl
        have := hn.1
        refine ⟨1 + n, l', Run.trans (Run.one (t := (l, (p.toNat, 0 + 1) :: rest)) (by simp) (by simp; omega) ?_) r, len, fun q h0 hm => k q h0 (fun e => hm (by rw [e]; exact hmem)) (fun h => hm (List.mem_cons_of_mem _ h)), by omega, by omega, fun h => absurd h hc, fun _ => by omega⟩
        exact fun P A c At ct Pt w hs ht htc => step_begun P A c l kp At ct p.toNat 0 rest w hs Pt ht htc (by omega) hpl (by omega) (by decide) rfl (by
          rw [e]
          rintro (h | h)
          · exact h (by omega)
          · rw [hlf] at h; cases h) (by omega)
end
theorem fine_any (l : List S38) (kp : Int) (rs : List Int) : ∃ b, assartref08_Fine.f 400000 l kp rs [] 40 = some b ∧ (b = true → l.length ≤ 40 ∧ smallF l 0 ∧ heapR l kp ∧ ∀ i : Nat, i < rs.length → RightP l (rd rs (i : Nat))) := by
  by_cases hr : rs.length ≤ 20
  · obtain ⟨b, hb, hbr⟩ := fine_val l kp rs hr
    exact ⟨b, hb, fun h => by have := hbr.1 h; exact ⟨this.1, this.2.1, this.2.2.1, this.2.2.2.1⟩⟩
  · refine ⟨false, ?_, fun h => by cases h⟩
    unfold assartref08_Fine.f assartref08_May.f
    rw [small40_val l kp (by omega), Option.bind_some]
    by_cases h : l.length ≤ 40 ∧ smallF l 0
    · rw [if_pos (decide_eq_true h), if_pos (by omega), Option.bind_some, if_neg (by simp)]
    · rw [if_neg (by simpa using h), Option.bind_some, if_neg (by simp)]
theorem rd_last (rs : List Int) (r : Int) : rd (rs ++ [r]) (rs.length : Nat) = r := by
  rw [rdI_append, if_neg (by omega), if_pos rfl]
theorem bound_says (l : List S38) (kp r : Int) (hl : l.length ≤ 40) (hs : smallF l 0) (hR : heapR l kp) (hr : RightP l r) (h0 : 0 ≤ r) :
    r < (l.length : Int) ∧ ∃ (n : Nat) (N : List Int) (ch : Nat → St), assartref07_Nodes.f 400000 l kp r = some N ∧ N.length ≤ 40 ∧ ch 0 = (l, [(r.toNat, 0)]) ∧ n < 20000 ∧ (∀ i, i < n → 0 < (ch i).2.length ∧ (ch i).2.length < 1000000 ∧ StepR kp (ch i) (ch (i + 1))) ∧ (ch n).2.length = 0 ∧
      ((1 < (rd_T38 l r).f0 ∨ (rd_T38 l r).f2.f0 = true) → n = 1) ∧ (¬ (1 < (rd_T38 l r).f0 ∨ (rd_T38 l r).f2.f0 = true) → 3 ≤ n ∧ n ≤ 4 * N.length + 1) := by
  rcases hr with e | ⟨h, hh, t⟩
  · omega
  have H := HR.of hR
  obtain ⟨n, l', run, hlen, _, h1, h2, h3, h4⟩ := tree_gives (kp := kp) H hl hs h r t l [] rfl (fun _ _ => rfl) (by simp; omega)
  obtain ⟨ch, c0, cn, hc⟩ := run.chain
  have hn := ns_len H t
  refine ⟨t.base.2.1, n, Ns l h r, ch, refNodes_val H h 400000 r t (by omega), by omega, c0, by omega, hc, by rw [cn]; rfl, h3, fun hnn => ⟨h4 hnn, by omega⟩⟩
end Go.Proofs.Ytflndiikeoflfaa.P
end
section
namespace Go.Proofs.Ytflndiikeoflfaa.P
open Go.RowKit Go.Proofs.YtflndiikeoflfaaW.PrintWords Go.Proofs.YtflndiikeoflfaaW.PrintLast Go.Proofs.YtflndiikeoflfaaW.PrintMore
set_option linter.unusedVariables false
set_option linter.unusedSimpArgs false
theorem k46_heap : Kd.Heap k46 := Kd.heap_iso _ (Kd.heap_pair (Kd.heap_int .i64) (Kd.heap_int .i64))
theorem k36_heap : Kd.Heap k36 := Kd.heap_iso _ (Kd.heap_pair Kd.heap_bool (Kd.heap_slice 46 k46_heap))
theorem k38_heap : Kd.Heap k38 := Kd.heap_iso _ (Kd.heap_pair (Kd.heap_int .i64) (Kd.heap_pair Kd.heap_bool k36_heap))
def x0 : S38 := ⟨1, false, ⟨true, [⟨1, 0⟩]⟩⟩
def x1 : S38 := ⟨1, false, ⟨false, [⟨1, 0⟩]⟩⟩
def xg : S38 := ⟨0, true, ⟨false, []⟩⟩
def ch11 : Nat → List S38 × List (Nat × Nat)
  | 0 => ([x0, x1], [(1, 0)])
  | 1 => ([x0, x1], [(1, 1)])
  | 2 => ([x0, x1], [(0, 0), (1, 2)])
  | 3 => ([xg, x1], [(1, 2)])
  | _ => ([xg, xg], [])
theorem loose11 (kp : Int) : heap_Loose.f [x0, x1] kp 0 = some ([xg, x1], kp, 0) := by kernel_rfl
theorem st11_0 (kp : Int) : StepR kp ([x0, x1], [(1, 0)]) ([x0, x1], [(1, 1)]) := fun P A c At ct Pt w hs ht htc =>
  step_begun P A c [x0, x1] kp At ct 1 0 [] w hs Pt ht htc (by decide) (by decide) (by decide) (by decide) rfl (by decide) (by decide)
theorem st11_1 (kp : Int) : StepR kp ([x0, x1], [(1, 1)]) ([x0, x1], [(0, 0), (1, 2)]) := fun P A c At ct Pt w hs ht htc =>
  step_ahead P A c [x0, x1] kp At ct 1 1 [] w hs Pt ht htc (by decide) (by decide) (by decide) (by decide) (by decide) (by decide) 0 rfl (by decide)
theorem st11_2 (kp : Int) (rest : List (Nat × Nat)) (hr : rest.length < 1000) : StepR kp ([x0, x1], (0, 0) :: rest) ([xg, x1], rest) := fun P A c At ct Pt w hs ht htc =>
  step_less P A c [x0, x1] kp At ct 0 0 rest w hs Pt ht htc hr (by decide) (by decide) (by decide) rfl (.inr rfl) [xg, x1] 0 (loose11 kp)
theorem st11_3 (kp : Int) : StepR kp ([xg, x1], [(1, 2)]) ([xg, xg], []) := fun P A c At ct Pt w hs ht htc =>
  step_gone P A c [xg, x1] kp At ct 1 2 [] w hs Pt ht htc (by decide) (by decide) (by decide) (by decide) (by decide)
theorem ch11_ok (kp : Int) : ∀ i, i < 4 → 0 < (ch11 i).2.length ∧ (ch11 i).2.length < 1000000 ∧ StepR kp (ch11 i) (ch11 (i + 1))
  | 0, _ => ⟨by decide, by decide, st11_0 kp⟩
  | 1, _ => ⟨by decide, by decide, st11_1 kp⟩
  | 2, _ => ⟨by decide, by decide, st11_2 kp [(1, 2)] (by decide)⟩
  | 3, _ => ⟨by decide, by decide, st11_3 kp⟩
  | n + 4, h => by omega
theorem fl_0 : fl 0 = 0 := by decide +kernel
theorem fl_1 : fl 1 = 4607182418800017408 := by decide +kernel
theorem lit46 (W : World) (k v : Int) : Kd.C k46 (W.alloc (.cells #[.int .i64 k, .int .i64 v] 46)) (some ⟨W.heap.size, 0, none⟩) 1 [⟨k, v⟩] := by
  refine ⟨rfl, by omega, fun _ => ⟨_, rfl, fun j p hj => ?_⟩⟩
  match j, hj with
  | 0, hj =>
    simp at hj
    subst hj
    refine ⟨_, rfl, k46_mk _ _, fun i u hu => ?_⟩
    rw [add_g, blk_cell (alloc_new W _)]
    match i, hu with
    | 0, hu => simpa using hu
    | 1, hu => simpa using hu
    | i + 2, hu => simp at hu
  | j + 1, hj => simp at hj
theorem lit38 (W : World) (x y : S38) {A3 B3 : Option Addr} {c3 d3 : Nat} (hx : x.f2.f1.length ≤ c3) (gx : Kd.C k46 W A3 x.f2.f1.length x.f2.f1) (hy : y.f2.f1.length ≤ d3) (gy : Kd.C k46 W B3 y.f2.f1.length y.f2.f1) :
    Kd.C k38 (W.alloc (.cells #[.int .i64 x.f0, .bool x.f1, .bool x.f2.f0, .slice A3 x.f2.f1.length c3, .int .i64 y.f0, .bool y.f1, .bool y.f2.f0, .slice B3 y.f2.f1.length d3] 38)) (some ⟨W.heap.size, 0, none⟩) 2 [x, y] := by
  have hb : ∀ o, Below W.heap.size W (W.alloc o) := fun o => (Below.refl _ W).alloc (Nat.le_refl _) _
  refine ⟨rfl, by omega, fun _ => ⟨_, rfl, fun j p hj => ?_⟩⟩
  match j, hj with
  | 0, hj =>
    simp at hj
    subst hj
    refine ⟨_, rfl, k38_mk _ _ hx (Kd.C_below gx (hb _)), fun i u hu => ?_⟩
    rw [add_g, blk_cell (alloc_new W _)]
    match i, hu with
    | 0, hu => simpa using hu
    | 1, hu => simpa using hu
    | 2, hu => simpa using hu
    | 3, hu => simpa using hu
    | i + 4, hu => simp at hu
  | 1, hj =>
    simp at hj
    subst hj
    refine ⟨_, rfl, k38_mk _ _ hy (Kd.C_below gy (hb _)), fun i u hu => ?_⟩
    rw [add_g, blk_cell (alloc_new W _), show 1 * k38.sz + i = i + 4 from by rw [show k38.sz = 4 from rfl]; omega]
    match i, hu with
    | 0, hu => simpa using hu
    | 1, hu => simpa using hu
    | 2, hu => simpa using hu
    | 3, hu => simpa using hu
    | i + 4, hu => simp at hu
  | j + 2, hj => simp at hj
theorem litc (W : World) : Kd.C kc (W.alloc (.cells #[.complex .f64 0 0] 48)) (some ⟨W.heap.size, 0, none⟩) 1 [(0, 0)] := by
  refine ⟨rfl, by omega, fun _ => ⟨_, rfl, fun j p hj => ?_⟩⟩
  match j, hj with
  | 0, hj =>
    simp at hj
    subst hj
    refine ⟨_, rfl, rfl, fun i u hu => ?_⟩
    rw [add_g, blk_cell (alloc_new W _)]
    match i, hu with
    | 0, hu => simpa using hu
    | i + 1, hu => simp at hu
  | j + 1, hj => simp at hj
set_option maxHeartbeats 8000000 in
set_option maxRecDepth 100000 in
theorem assartlaw11_shown.calls (w : World) : Calls Try.prog 5 #[] w fun e w' => e = .returned (.bool true) ∧ Below w.heap.size w w' := by
  have hu22 := Try.underlying22
  have hu24 := Try.underlying24
  have hu28 := Try.underlying28
  have hu34 := Try.underlying34
  have hu36 := Try.underlying36
  have hu38 := Try.underlying38
  have hu46 := Try.underlying46
  obtain ⟨wC, hwC⟩ : ∃ wC, ((w.alloc (.cells #[.int .i64 1, .int .i64 0] 46)).alloc (.cells #[.int .i64 1, .int .i64 0] 46)).alloc (.cells #[.int .i64 1, .bool false, .bool true, .slice (some ⟨w.heap.size, 0, none⟩) 1 1, .int .i64 1, .bool false, .bool false, .slice (some ⟨w.heap.size + 1, 0, none⟩) 1 1] 38) = wC := ⟨_, rfl⟩
  have hsC : wC.heap.size = w.heap.size + 1 + 1 + 1 := by rw [← hwC]; simp only [World.size_alloc]
  have hbC : Below w.heap.size w wC := by rw [← hwC]; exact (((Below.refl _ w).alloc (Nat.le_refl _) _).alloc (by simp) _).alloc (by simp; omega) _
  have hcC : Kd.C k38 wC (some ⟨w.heap.size + 1 + 1, 0, none⟩) 2 [x0, x1] := by
    have a1 := lit46 w 1 0
    have a2 := lit46 (w.alloc (.cells #[.int .i64 1, .int .i64 0] 46)) 1 0
    rw [World.size_alloc] at a2
    have b1 : Below (w.alloc (.cells #[.int .i64 1, .int .i64 0] 46)).heap.size (w.alloc (.cells #[.int .i64 1, .int .i64 0] 46)) ((w.alloc (.cells #[.int .i64 1, .int .i64 0] 46)).alloc (.cells #[.int .i64 1, .int .i64 0] 46)) := (Below.refl _ _).alloc (Nat.le_refl _) _
    have := lit38 ((w.alloc (.cells #[.int .i64 1, .int .i64 0] 46)).alloc (.cells #[.int .i64 1, .int .i64 0] 46)) x0 x1 (A3 := some ⟨w.heap.size, 0, none⟩) (B3 := some ⟨w.heap.size + 1, 0, none⟩) (c3 := 1) (d3 := 1) (by decide) (Kd.C_below a1 b1) (by decide) a2
    rw [World.size_alloc, World.size_alloc] at this
    rw [← hwC]
    exact this
  obtain ⟨w1, hw1⟩ : ∃ w1, wC.alloc (.cells #[.slice (some ⟨w.heap.size + 1 + 1, 0, none⟩) 2 2, .int .i64 0] 24) = w1 := ⟨_, rfl⟩
  have hb1 : Below wC.heap.size wC w1 := by rw [← hw1]; exact (Below.refl _ wC).alloc (Nat.le_refl _) _
  have KXh : Aside0 (w1.heap[wC.heap.size]? = some (.cells #[.slice (some ⟨w.heap.size + 1 + 1, 0, none⟩) 2 2, .int .i64 0] 24 (0, 0))) := ⟨by rw [← hw1]; exact alloc_new wC _⟩
  have HVh : Aside0 (Kd.V k38 38 w1 0 (fun k => k < wC.heap.size) (.slice (some ⟨w.heap.size + 1 + 1, 0, none⟩) 2 2) [x0, x1]) := ⟨Kd.V_below (Kd.V_mk (xs := [x0, x1]) (by decide) (Kd.C_F k38_heap hcC)) hb1⟩
  have HB : Aside0 (Below w.heap.size w w1) := ⟨hbC.trans (hb1.mono hbC.size)⟩
  have HW1 := Aside0.mk hw1
  clear hcC hbC hb1 hsC hw1
  go_enter Try.func5, Try.ntmps5
  go_wp2_with fail
  rw [HW1.out]
  clear hwC HW1
  refine (give_walk 1 w1).mono ?_
  rintro e w2 ⟨v_, rfl, hv, hb⟩
  replace HB := Aside0.mk (HB.out.trans (hb.mono HB.out.size))
  replace KXh := Aside0.mk (blk_below KXh.out hb)
  replace HVh := Aside0.mk (Kd.V_below HVh.out hb)
  obtain ⟨At, ct, ev, hct, hCt⟩ := Kd.R_reads hv
  subst ev
  have HFt : Aside0 (Kd.F kc w2 (fun k => k < w2.heap.size) At (fls [(1, 0)]).length (fls [(1, 0)])) := ⟨Kd.C_F kc_heap hCt⟩
  have HCt : Aside0 (1 ≤ ct) := ⟨hct⟩
  have e1 : ([(fl 1, fl 0)] : List (Nat × Nat)).length = 1 := rfl
  rw [e1]
  clear hv hb hct hCt e1
  have xh_0 : w2.cell? ⟨wC.heap.size, 0, none⟩ = some (.slice (some ⟨w.heap.size + 1 + 1, 0, none⟩) 2 2) := (blk_cell KXh.out 0).trans rfl
  have xh_1 : w2.cell? ⟨wC.heap.size, 1, none⟩ = some (.int .i64 0) := (blk_cell KXh.out 1).trans rfl
  have lh : wC.heap.size < w2.heap.size := blk_lt KXh.out
  go_wp2_with fail
  clear xh_0 xh_1 lh
  refine (steps_walk (fun _ => True) (some ⟨w.heap.size + 1 + 1, 0, none⟩) 2 0 At ct _ ch11 4 ([x0, x1], [(1, 0)]) rfl (by decide) (ch11_ok 0) w2 (V_base (Kd.V_mono HVh.out (fun _ _ => trivial))) HFt.out HCt.out).mono ?_
  rintro e w3 ⟨A3, c3, At3, ct3, rfl, hv, hct3, hb⟩
  replace HB := Aside0.mk (HB.out.trans (hb.mono HB.out.size))
  replace KXh := Aside0.mk (blk_below KXh.out hb)
  replace HVh := Aside0.mk (Kd.V_below HVh.out hb)
  replace HFt := Aside0.mk (Kd.F_below HFt.out hb)
  rw [show (ch11 4).1.length = 2 from rfl, show (ch11 4).2.length = 0 from rfl]
  have HVs : Aside0 (Kd.V k38 38 w3 0 (fun _ => True) (.slice A3 2 c3) [xg, xg]) := ⟨V_base (Kd.V_mono hv (fun _ _ => trivial))⟩
  clear hv hb
  have xh_0 : w3.cell? ⟨wC.heap.size, 0, none⟩ = some (.slice (some ⟨w.heap.size + 1 + 1, 0, none⟩) 2 2) := (blk_cell KXh.out 0).trans rfl
  have xh_1 : w3.cell? ⟨wC.heap.size, 1, none⟩ = some (.int .i64 0) := (blk_cell KXh.out 1).trans rfl
  have lh : wC.heap.size < w3.heap.size := blk_lt KXh.out
  go_wp2_with fail
  clear xh_0 xh_1 lh
  have hpre : Below w3.heap.size w3 (w3.alloc (.cells #[.slice A3 2 c3, .int .i64 0] 24)) := (Below.refl w3.heap.size w3).alloc (Nat.le_refl _) _
  replace HB := Aside0.mk (HB.out.trans (hpre.mono HB.out.size))
  replace KXh := Aside0.mk (blk_below KXh.out hpre)
  replace HVh := Aside0.mk (Kd.V_below HVh.out hpre)
  replace HFt := Aside0.mk (Kd.F_below HFt.out hpre)
  replace HVs := Aside0.mk (Kd.V_below HVs.out hpre)
  have KXs : Aside0 ((w3.alloc (.cells #[.slice A3 2 c3, .int .i64 0] 24)).heap[w3.heap.size]? = some (.cells #[.slice A3 2 c3, .int .i64 0] 24 (0, 0))) := ⟨alloc_new w3 _⟩
  clear hpre
  obtain ⟨w4, hw4⟩ : ∃ w_, (w3.alloc (.cells #[.slice A3 2 c3, .int .i64 0] 24)) = w_ := ⟨_, rfl⟩
  have hs4 : w4.heap.size = w3.heap.size + 1 := by rw [← hw4]; exact World.size_alloc _ _
  rw [hw4]
  rw [hw4] at HB KXh HVh HFt HVs KXs
  clear hw4
  have hlc := litc w4
  rw [hs4] at hlc
  have hpre : Below w4.heap.size w4 (w4.alloc (.cells #[.complex .f64 0 0] 48)) := (Below.refl w4.heap.size w4).alloc (Nat.le_refl _) _
  replace HB := Aside0.mk (HB.out.trans (hpre.mono HB.out.size))
  replace KXh := Aside0.mk (blk_below KXh.out hpre)
  replace HVh := Aside0.mk (Kd.V_below HVh.out hpre)
  replace HFt := Aside0.mk (Kd.F_below HFt.out hpre)
  replace HVs := Aside0.mk (Kd.V_below HVs.out hpre)
  replace KXs := Aside0.mk (blk_below KXs.out hpre)
  have KXc : Aside0 ((w4.alloc (.cells #[.complex .f64 0 0] 48)).heap[w4.heap.size]? = some (.cells #[.complex .f64 0 0] 48 (0, 0))) := ⟨alloc_new w4 _⟩
  clear hpre
  obtain ⟨w5, hw5⟩ : ∃ w_, (w4.alloc (.cells #[.complex .f64 0 0] 48)) = w_ := ⟨_, rfl⟩
  rw [hw5]
  rw [hw5] at hlc HB KXh HVh HFt HVs KXs KXc
  clear hw5 hs4
  have HLC : Aside0 (Kd.F kc w5 (fun k => k < w5.heap.size) (some ⟨w3.heap.size + 1, 0, none⟩) (fls [(0, 0)]).length (fls [(0, 0)])) := ⟨by
    have e1 : fls [(0, 0)] = [(0, 0)] := by show [(fl 0, fl 0)] = _; rw [fl_0]
    rw [e1]
    exact Kd.C_F kc_heap hlc⟩
  clear hlc
  refine (st11_2 0 [] (by decide) (fun _ => True) (some ⟨w.heap.size + 1 + 1, 0, none⟩) 2 (some ⟨w3.heap.size + 1, 0, none⟩) 1 _ w5 (V_base (Kd.V_mono HVh.out (fun _ _ => trivial))) HLC.out (by decide)).mono ?_
  rintro e w6 ⟨A6, c6, At6, ct6, rfl, hv, -, hct6, hb⟩
  rw [show ([xg, x1] : List S38).length = 2 from rfl, show ([] : List (Nat × Nat)).length = 0 from rfl]
  replace HB := Aside0.mk (HB.out.trans (hb.mono HB.out.size))
  replace KXh := Aside0.mk (blk_below KXh.out hb)
  replace HVh := Aside0.mk (Kd.V_below HVh.out hb)
  replace HFt := Aside0.mk (Kd.F_below HFt.out hb)
  replace HVs := Aside0.mk (Kd.V_below HVs.out hb)
  replace KXs := Aside0.mk (blk_below KXs.out hb)
  replace KXc := Aside0.mk (blk_below KXc.out hb)
  have HVt : Aside0 (Kd.V k38 38 w6 0 (fun _ => True) (.slice A6 2 c6) [xg, x1]) := ⟨V_base (Kd.V_mono hv (fun _ _ => trivial))⟩
  clear hv hb hct6 HLC
  have xh_0 : w6.cell? ⟨wC.heap.size, 0, none⟩ = some (.slice (some ⟨w.heap.size + 1 + 1, 0, none⟩) 2 2) := (blk_cell KXh.out 0).trans rfl
  have xh_1 : w6.cell? ⟨wC.heap.size, 1, none⟩ = some (.int .i64 0) := (blk_cell KXh.out 1).trans rfl
  have lh : wC.heap.size < w6.heap.size := blk_lt KXh.out
  have xs_0 : w6.cell? ⟨w3.heap.size, 0, none⟩ = some (.slice A3 2 c3) := (blk_cell KXs.out 0).trans rfl
  have xs_1 : w6.cell? ⟨w3.heap.size, 1, none⟩ = some (.int .i64 0) := (blk_cell KXs.out 1).trans rfl
  have ls : w3.heap.size < w6.heap.size := blk_lt KXs.out
  obtain ⟨at_, rfl, hx⟩ := fls_head (Kd.F_now HFt.out)
  rw [fl_1, fl_0] at hx
  have lx := World.block_lt_of_cell? w6 _ hx
  have o1 : (FloatKind.f64.format.order 4607182418800017408 4607182418800017408 == some .eq) = true := by decide +kernel
  have o0 : (FloatKind.f64.format.order 0 0 == some .eq) = true := by decide +kernel
  go_wp2_with fail
  clear hx lx o1 o0 xh_0 xh_1 lh xs_0 xs_1 ls
  have hpre : Below w6.heap.size w6 (w6.alloc (.cells #[.slice A6 2 c6, .int .i64 0] 24)) := (Below.refl w6.heap.size w6).alloc (Nat.le_refl _) _
  replace HB := Aside0.mk (HB.out.trans (hpre.mono HB.out.size))
  replace KXh := Aside0.mk (blk_below KXh.out hpre)
  replace HVh := Aside0.mk (Kd.V_below HVh.out hpre)
  replace HFt := Aside0.mk (Kd.F_below HFt.out hpre)
  replace HVs := Aside0.mk (Kd.V_below HVs.out hpre)
  replace KXs := Aside0.mk (blk_below KXs.out hpre)
  replace KXc := Aside0.mk (blk_below KXc.out hpre)
  replace HVt := Aside0.mk (Kd.V_below HVt.out hpre)
  have KXx : Aside0 ((w6.alloc (.cells #[.slice A6 2 c6, .int .i64 0] 24)).heap[w6.heap.size]? = some (.cells #[.slice A6 2 c6, .int .i64 0] 24 (0, 0))) := ⟨alloc_new w6 _⟩
  clear hpre
  obtain ⟨w7, hw_⟩ : ∃ w_, (w6.alloc (.cells #[.slice A6 2 c6, .int .i64 0] 24)) = w_ := ⟨_, rfl⟩
  rw [hw_]
  rw [hw_] at HB KXh HVh HFt HVs KXs KXc HVt KXx
  clear hw_
  refine (left_walk (fun _ => True) (some ⟨w.heap.size + 1 + 1, 0, none⟩) 2 0 (some at_) ct _ ch11 4 ([x0, x1], [(1, 0)]) rfl (by decide) (ch11_ok 0) rfl w7 (V_base (Kd.V_mono HVh.out (fun _ _ => trivial))) HFt.out HCt.out).mono ?_
  rintro e w8 ⟨rfl, hb⟩
  rw [show ((4 : Nat) : Int) = 4 from rfl]
  replace HB := Aside0.mk (HB.out.trans (hb.mono HB.out.size))
  replace KXh := Aside0.mk (blk_below KXh.out hb)
  replace HVh := Aside0.mk (Kd.V_below HVh.out hb)
  replace HFt := Aside0.mk (Kd.F_below HFt.out hb)
  replace HVs := Aside0.mk (Kd.V_below HVs.out hb)
  replace KXs := Aside0.mk (blk_below KXs.out hb)
  replace KXc := Aside0.mk (blk_below KXc.out hb)
  replace HVt := Aside0.mk (Kd.V_below HVt.out hb)
  replace KXx := Aside0.mk (blk_below KXx.out hb)
  clear hb
  skip
  obtain ⟨qs, _, _, rfl, s00, s01, -⟩ := at_T38 (Kd.V_reads' HVs.out).2.2 0 (by decide) (by decide)
  obtain ⟨qs2, _, _, e2, s10, s11, -⟩ := at_T38 (Kd.V_reads' HVs.out).2.2 1 (by decide) (by decide)
  obtain rfl := Option.some.inj e2
  replace s00 : w8.cell? qs = some (.int .i64 0) := by rw [show (0 : Int).toNat * 4 = 0 from rfl, Addr.add_zero'] at s00; exact s00
  replace s01 : w8.cell? ⟨qs.block, qs.off + 1, none⟩ = some (.bool true) := by rw [show (0 : Int).toNat * 4 = 0 from rfl, Addr.add_zero'] at s01; exact s01
  replace s10 : w8.cell? ⟨qs.block, qs.off + 4, none⟩ = some (.int .i64 0) := s10
  replace s11 : w8.cell? ⟨qs.block, qs.off + 4 + 1, none⟩ = some (.bool true) := s11
  skip
  obtain ⟨qt, _, _, rfl, t00, t01, -⟩ := at_T38 (Kd.V_reads' HVt.out).2.2 0 (by decide) (by decide)
  obtain ⟨qt2, _, _, e2, t10, t11, -⟩ := at_T38 (Kd.V_reads' HVt.out).2.2 1 (by decide) (by decide)
  obtain rfl := Option.some.inj e2
  replace t00 : w8.cell? qt = some (.int .i64 0) := by rw [show (0 : Int).toNat * 4 = 0 from rfl, Addr.add_zero'] at t00; exact t00
  replace t01 : w8.cell? ⟨qt.block, qt.off + 1, none⟩ = some (.bool true) := by rw [show (0 : Int).toNat * 4 = 0 from rfl, Addr.add_zero'] at t01; exact t01
  replace t10 : w8.cell? ⟨qt.block, qt.off + 4, none⟩ = some (.int .i64 1) := t10
  replace t11 : w8.cell? ⟨qt.block, qt.off + 4 + 1, none⟩ = some (.bool false) := t11
  have xs_0 : w8.cell? ⟨w3.heap.size, 0, none⟩ = some (.slice (some qs) 2 c3) := (blk_cell KXs.out 0).trans rfl
  have xs_1 : w8.cell? ⟨w3.heap.size, 1, none⟩ = some (.int .i64 0) := (blk_cell KXs.out 1).trans rfl
  have ls : w3.heap.size < w8.heap.size := blk_lt KXs.out
  have xx_0 : w8.cell? ⟨w6.heap.size, 0, none⟩ = some (.slice (some qt) 2 c6) := (blk_cell KXx.out 0).trans rfl
  have xx_1 : w8.cell? ⟨w6.heap.size, 1, none⟩ = some (.int .i64 0) := (blk_cell KXx.out 1).trans rfl
  have lx : w6.heap.size < w8.heap.size := blk_lt KXx.out
  go_wp2
  go_ret
  exact ⟨rfl, HB.out⟩
end Go.Proofs.Ytflndiikeoflfaa.P
end
section
namespace Go.Proofs.Ytflndiikeoflfaa.P
open Go.RowKit Go.Proofs.YtflndiikeoflfaaW.PrintWords Go.Proofs.YtflndiikeoflfaaW.PrintLast Go.Proofs.YtflndiikeoflfaaW.PrintMore
set_option linter.unusedVariables false
set_option linter.unusedSimpArgs false
theorem fine_at (A : Option Addr) (c : Nat) (l : List S38) (kp : Int) (A1 : Option Addr) (c1 : Nat) (rs : List Int) (b : Bool) (w : World) (hr : Kd.C k38 w A l.length l) (hc : l.length ≤ c) (hr1 : Kd.C (Kd.int .i64) w A1 rs.length rs) (hc1 : rs.length ≤ c1) (h : assartref08_Fine.f 400000 l kp rs [] 40 = some b) :
    Calls Try.prog 6 #[.agg #[.slice A l.length c, .int .i64 kp], .slice A1 rs.length c1, .slice none 0 0, .int .i64 40] w fun e w' => e = .returned (.bool b) ∧ Below w.heap.size w w' :=
  assartref08_Fine.calls 400000 A c l kp A1 c1 rs none 0 [] 40 b w hr hc hr1 hc1 (Kd.C_nil _ _) (Nat.le_refl _) h
def hShd.T6 : Bool × List (List Nat × List Nat) := (true, [([], []), ([0], [0]), ([1], [1]), ([2, 1], [1, 2]), ([1, 3], [1, 3]), ([4, 1], [4]), ([5], [5]), ([6, 5], [5, 6]), ([7, 5], [5, 7]), ([5, 8], [5, 8]), ([9, 5], [9]), ([10], [10]), ([10], [10]), ([12, 10], [10, 12]), ([11, 13, 10, 10], [10, 11, 13]), ([10, 14], [10, 14]), ([15, 14], [15]), ([16], [16]), ([16], [16]), ([17, 18, 16, 16], [16, 17, 18]), ([16], [16]), ([16], [16]), ([20, 21, 19, 16], [16, 20, 21]), ([19, 22, 22, 16], [16, 19, 22]), ([16, 23], [16, 23]), ([24, 23], [24]), ([25], [25]), ([26, 25], [25, 26]), ([25], [25]), ([27, 28, 25], [25, 27, 28]), ([29, 25], [25, 29]), ([30, 25], [25, 30]), ([25], [25]), ([32, 25], [25, 32]), ([25], [25]), ([33, 34, 25], [25, 33, 34]), ([35, 25], [25, 35]), ([36, 25], [25, 36]), ([37, 25], [25, 37]), ([31, 38, 25], [25, 31, 38]), ([25, 39], [25, 39]), ([40, 25, 0, 1, 2, 3, 4, 5, 6, 7, 8, 9, 10, 11, 12, 13, 14, 15, 16, 17, 18, 19, 20, 21, 22, 23, 24, 25, 26, 27, 28, 29, 30, 31, 32, 33, 34, 35, 36, 37, 38, 39, 40], [40])])
def hShd.B6 : List Nat := [0, 1, 3, 7, 15, 31, 63, 127, 255, 511, 1023, 2047, 2047, 6143, 16383, 32767, 65535, 131071, 131071, 524287, 131071, 131071, 4194303, 8388607, 16777215, 33554431, 67108863, 134217727, 67108863, 536870911, 1073741823, 2147483647, 67108863, 4362076159, 67108863, 30131879935, 64491618303, 133211095039, 270650048511, 549755813887, 1099511627775, 2199023255551]
theorem hShd.tab6 : rtab .any (opsOf Try.f4 6) = hShd.T6 := by kernel_rfl
theorem hShd.bits6 : waitsOk hShd.T6.2 hShd.B6 = true := by kernel_rfl
end Go.Proofs.Ytflndiikeoflfaa.P
end
section
namespace Go.Proofs.Ytflndiikeoflfaa.P
open Go.RowKit Go.Proofs.YtflndiikeoflfaaW.PrintWords Go.Proofs.YtflndiikeoflfaaW.PrintLast Go.Proofs.YtflndiikeoflfaaW.PrintMore
set_option linter.unusedVariables false
set_option linter.unusedSimpArgs false
def hBnd.T2 : Bool × List (List Nat × List Nat) := (true, [([], []), ([0], [0]), ([1], [1]), ([2], [2]), ([2], [2]), ([2], [2]), ([4, 5, 2, 2], [2, 4, 5]), ([2], [2]), ([7, 2], [2, 7]), ([6, 8, 6, 2], [2, 6, 8]), ([3, 9, 9, 2], [2, 3, 9]), ([10, 2], [2, 10]), ([2, 11], [2, 11])])
def hBnd.B2 : List Nat := [0, 1, 3, 7, 7, 7, 55, 7, 135, 503, 1023, 2047, 4095]
theorem hBnd.tab2 : rtab .any (opsOf Try.f3 2) = hBnd.T2 := by kernel_rfl
theorem hBnd.bits2 : waitsOk hBnd.T2.2 hBnd.B2 = true := by kernel_rfl
set_option maxHeartbeats 8000000 in
set_option maxRecDepth 100000 in
theorem assartlaw11_CleanBound.walk (A : Option Addr) (c : Nat) (l : List S38) (kp : Int) (A1 : Option Addr) (c1 : Nat) (rs : List Int) (r : Int) (w : World) (hr : Kd.C k38 w A l.length l) (hc : l.length ≤ c) (hr1 : Kd.C (Kd.int .i64) w A1 rs.length rs) (hb1 : rs.length * 8 ≤ 140737488351232) :
    Calls Try.prog 3 #[.agg #[.slice A l.length c, .int .i64 kp], .slice A1 rs.length c1, .int .i64 r] w fun e w' => e = .returned (.bool true) ∧ Below w.heap.size w w' := by
  obtain ⟨wA, hwA⟩ : ∃ wA, w.alloc (.cells #[.slice A l.length c, .int .i64 kp] 24) = wA := ⟨_, rfl⟩
  have HB : Aside0 (Below w.heap.size w wA) := ⟨by rw [← hwA]; exact (Below.refl _ w).alloc (Nat.le_refl _) _⟩
  have KXh : Aside0 (wA.heap[w.heap.size]? = some (.cells #[.slice A l.length c, .int .i64 kp] 24 (0, 0))) := ⟨by rw [← hwA]; exact alloc_new w _⟩
  have HVl : Aside0 (Kd.V k38 38 wA 0 (fun k => k < w.heap.size) (.slice A l.length c) l) := ⟨Kd.V_below (Kd.V_mk hc (Kd.C_F k38_heap hr)) HB.out⟩
  have HRI : Aside0 (Kd.C (Kd.int .i64) wA A1 rs.length rs) := ⟨Kd.C_below hr1 HB.out⟩
  have HLN := Aside0.mk hb1
  clear hr hc hr1 hb1
  have hu24 := Try.underlying24
  have hu22 := Try.underlying22
  have hu25 := Try.underlying25
  have hu28 := Try.underlying28
  have hu34 := Try.underlying34
  have hu36 := Try.underlying36
  have hu38 := Try.underlying38
  go_enter Try.func3, Try.ntmps3
  go_wp2_with fail
  refine (assartlaw11_shown.calls wA).mono ?_
  rintro e w1 ⟨rfl, hb⟩
  replace HB := Aside0.mk (HB.out.trans (hb.mono HB.out.size))
  replace KXh := Aside0.mk (blk_below KXh.out hb)
  replace HVl := Aside0.mk (Kd.V_below HVl.out hb)
  replace HRI := Aside0.mk (Kd.C_below HRI.out hb)
  clear hb hwA
  go_wp2_with fail
  by_cases h0 : r < 0
  · have hn : decide (r < 0) = true := decide_eq_true h0
    have Z0 : Aside0 (w1.cell? ⟨w.heap.size, 0, none⟩ = some (.slice A l.length c)) := ⟨(blk_cell KXh.out 0).trans rfl⟩
    have Z1 : Aside0 (w1.cell? ⟨w.heap.size, 1, none⟩ = some (.int .i64 kp)) := ⟨(blk_cell KXh.out 1).trans rfl⟩
    skip
    replace Z0 : Aside0 (w1.drew.cell? ⟨w.heap.size, 0, none⟩ = some (.slice A l.length c)) := ⟨Z0.out⟩
    replace Z1 : Aside0 (w1.drew.cell? ⟨w.heap.size, 1, none⟩ = some (.int .i64 kp)) := ⟨Z1.out⟩
    replace HB := Aside0.mk (below_drew HB.out)
    replace KXh := Aside0.mk (blk_drew KXh.out)
    replace HVl := Aside0.mk (Kd.V_drew HVl.out)
    replace HRI := Aside0.mk (Kd.C_drew HRI.out)
    refine start_ (n := 13) (S := fun w' => w'.cell? ⟨w.heap.size, 0, none⟩ = some (.slice A l.length c) ∧ w'.cell? ⟨w.heap.size, 1, none⟩ = some (.int .i64 kp)) (ds := []) #[false, false, false, false, false, false, false, false, false, false, false, false, false] (by kernel_rfl) rfl rfl ⟨Z0.out, Z1.out⟩ (fun hHeld => ?_)
    refine with_tabW hBnd.tab2 hBnd.bits2 (fun HT_ HW_ => ?_)
    generalize w1.drew = wdn2 at Z0 Z1 HB KXh HVl HRI hHeld ⊢
    refine pure_ (i := 0) (N := some 13) (v := ?_) (a' := ?_) #[true, false, false, false, false, false, false, false, false, false, false, false, false] rfl rfl (any_of HT_.out (by kernel_rfl)) (fun _ _ _ h => h) (Or.inl ⟨by rfl, ?_⟩) ?_ ?_
    rotate_left
    · intro w'
      go_simp
      with_reducible rfl
    rotate_left
    · simp only [Act.put, List.setIfInBounds_toArray, List.set_cons_zero, List.set_cons_succ, i64_w, i32_w]
      rfl
    refine pure_ (i := 1) (N := some 14) (v := ?_) (a' := ?_) #[true, true, false, false, false, false, false, false, false, false, false, false, false] rfl rfl (any_of HT_.out (by kernel_rfl)) (fun _ _ _ h => h) (Or.inl ⟨by rfl, ?_⟩) ?_ ?_
    rotate_left
    · intro w'
      go_simp
      with_reducible rfl
    rotate_left
    · simp only [Act.put, List.setIfInBounds_toArray, List.set_cons_zero, List.set_cons_succ, i64_w, i32_w]
      rfl
    refine pure_ (i := 2) (N := some 15) (v := ?_) (a' := ?_) #[true, true, true, false, false, false, false, false, false, false, false, false, false] rfl rfl (any_of HT_.out (by kernel_rfl)) (fun _ _ _ h => h) (Or.inl ⟨by rfl, ?_⟩) ?_ ?_
    rotate_left
    · intro w'
      go_simp
      with_reducible rfl
    rotate_left
    · simp only [Act.put, List.setIfInBounds_toArray, List.set_cons_zero, List.set_cons_succ, i64_w, i32_w]
      rfl
    refine pure_ (i := 3) (N := some 16) (v := undef) (a' := ?_) #[true, true, true, true, false, false, false, false, false, false, false, false, false] rfl rfl (any_of HT_.out (by kernel_rfl)) (fun _ _ _ h => h) (Or.inr ⟨by rfl, rfl⟩) ?_ ?_
    rotate_left
    · simp only [Act.put, List.setIfInBounds_toArray, List.set_cons_zero, List.set_cons_succ, i64_w, i32_w]
      rfl
    refine pure_ (i := 4) (N := some 17) (v := undef) (a' := ?_) #[true, true, true, true, true, false, false, false, false, false, false, false, false] rfl rfl (any_of HT_.out (by kernel_rfl)) (fun _ _ _ h => h) (Or.inr ⟨by rfl, rfl⟩) ?_ ?_
    rotate_left
    · simp only [Act.put, List.setIfInBounds_toArray, List.set_cons_zero, List.set_cons_succ, i64_w, i32_w]
      rfl
    refine pure_ (i := 5) (N := some 18) (v := undef) (a' := ?_) #[true, true, true, true, true, true, false, false, false, false, false, false, false] rfl rfl (any_of HT_.out (by kernel_rfl)) (fun _ _ _ h => h) (Or.inr ⟨by rfl, rfl⟩) ?_ ?_
    rotate_left
    · simp only [Act.put, List.setIfInBounds_toArray, List.set_cons_zero, List.set_cons_succ, i64_w, i32_w]
      rfl
    refine pure_ (i := 6) (N := some 19) (v := undef) (a' := ?_) #[true, true, true, true, true, true, true, false, false, false, false, false, false] rfl rfl (any_of HT_.out (by kernel_rfl)) (fun _ _ _ h => h) (Or.inr ⟨by rfl, rfl⟩) ?_ ?_
    rotate_left
    · simp only [Act.put, List.setIfInBounds_toArray, List.set_cons_zero, List.set_cons_succ, i64_w, i32_w]
      rfl
    refine pure_ (i := 7) (N := some 20) (v := undef) (a' := ?_) #[true, true, true, true, true, true, true, true, false, false, false, false, false] rfl rfl (any_of HT_.out (by kernel_rfl)) (fun _ _ _ h => h) (Or.inr ⟨by rfl, rfl⟩) ?_ ?_
    rotate_left
    · simp only [Act.put, List.setIfInBounds_toArray, List.set_cons_zero, List.set_cons_succ, i64_w, i32_w]
      rfl
    refine pure_ (i := 8) (N := some 21) (v := undef) (a' := ?_) #[true, true, true, true, true, true, true, true, true, false, false, false, false] rfl rfl (any_of HT_.out (by kernel_rfl)) (fun _ _ _ h => h) (Or.inr ⟨by rfl, rfl⟩) ?_ ?_
    rotate_left
    · simp only [Act.put, List.setIfInBounds_toArray, List.set_cons_zero, List.set_cons_succ, i64_w, i32_w]
      rfl
    refine pure_ (i := 9) (N := some 22) (v := undef) (a' := ?_) #[true, true, true, true, true, true, true, true, true, true, false, false, false] rfl rfl (any_of HT_.out (by kernel_rfl)) (fun _ _ _ h => h) (Or.inr ⟨by rfl, rfl⟩) ?_ ?_
    rotate_left
    · simp only [Act.put, List.setIfInBounds_toArray, List.set_cons_zero, List.set_cons_succ, i64_w, i32_w]
      rfl
    refine pure_ (i := 10) (N := some 23) (v := undef) (a' := ?_) #[true, true, true, true, true, true, true, true, true, true, true, false, false] rfl rfl (any_of HT_.out (by kernel_rfl)) (fun _ _ _ h => h) (Or.inr ⟨by rfl, rfl⟩) ?_ ?_
    rotate_left
    · simp only [Act.put, List.setIfInBounds_toArray, List.set_cons_zero, List.set_cons_succ, i64_w, i32_w]
      rfl
    refine pure_ (i := 11) (N := some 24) (v := undef) (a' := ?_) #[true, true, true, true, true, true, true, true, true, true, true, true, false] rfl rfl (any_of HT_.out (by kernel_rfl)) (fun _ _ _ h => h) (Or.inr ⟨by rfl, rfl⟩) ?_ ?_
    rotate_left
    · simp only [Act.put, List.setIfInBounds_toArray, List.set_cons_zero, List.set_cons_succ, i64_w, i32_w]
      rfl
    refine pure_ (i := 12) (N := some 25) (v := ?_) (a' := ?_) #[true, true, true, true, true, true, true, true, true, true, true, true, true] rfl rfl (any_of HT_.out (by kernel_rfl)) (fun _ _ _ h => h) (Or.inl ⟨by rfl, ?_⟩) ?_ ?_
    rotate_left
    · intro w'
      go_simp
      with_reducible rfl
    rotate_left
    · simp only [Act.put, List.setIfInBounds_toArray, List.set_cons_zero, List.set_cons_succ, i64_w, i32_w]
      rfl
    refine done_ (done_of HT_.out (by kernel_rfl)) ?_
    clear hHeld HT_ HW_
    clear Z0 Z1
    go_wp2
    go_ret
    exact ⟨rfl, HB.out⟩
  · obtain ⟨p, rfl⟩ : ∃ p : Nat, r = (p : Nat) := ⟨r.toNat, by omega⟩
    have hn : decide ((p : Int) < 0) = false := decide_eq_false h0
    obtain ⟨bf, hf, hF⟩ := fine_any l kp (rs ++ [(p : Int)])
    have HFN := Aside0.mk hf
    have HFI := Aside0.mk hF
    clear hf hF
    have Z0 : Aside0 (w1.cell? ⟨w.heap.size, 0, none⟩ = some (.slice A l.length c)) := ⟨(blk_cell KXh.out 0).trans rfl⟩
    have Z1 : Aside0 (w1.cell? ⟨w.heap.size, 1, none⟩ = some (.int .i64 kp)) := ⟨(blk_cell KXh.out 1).trans rfl⟩
    replace Z0 : Aside0 (w1.drew.cell? ⟨w.heap.size, 0, none⟩ = some (.slice A l.length c)) := ⟨Z0.out⟩
    replace Z1 : Aside0 (w1.drew.cell? ⟨w.heap.size, 1, none⟩ = some (.int .i64 kp)) := ⟨Z1.out⟩
    replace HB := Aside0.mk (below_drew HB.out)
    replace KXh := Aside0.mk (blk_drew KXh.out)
    replace HVl := Aside0.mk (Kd.V_drew HVl.out)
    replace HRI := Aside0.mk (Kd.C_drew HRI.out)
    refine start_ (n := 13) (S := fun w' => w'.cell? ⟨w.heap.size, 0, none⟩ = some (.slice A l.length c) ∧ w'.cell? ⟨w.heap.size, 1, none⟩ = some (.int .i64 kp)) (ds := []) #[false, false, false, false, false, false, false, false, false, false, false, false, false] (by kernel_rfl) rfl rfl ⟨Z0.out, Z1.out⟩ (fun hHeld => ?_)
    refine with_tabW hBnd.tab2 hBnd.bits2 (fun HT_ HW_ => ?_)
    generalize w1.drew = wdr2 at Z0 Z1 HB KXh HVl HRI hHeld ⊢
    refine pure_ (i := 0) (N := some 13) (v := ?_) (a' := ?_) #[true, false, false, false, false, false, false, false, false, false, false, false, false] rfl rfl (any_of HT_.out (by kernel_rfl)) (fun _ _ _ h => h) (Or.inl ⟨by rfl, ?_⟩) ?_ ?_
    rotate_left
    · intro w'
      go_simp
      with_reducible rfl
    rotate_left
    · simp only [Act.put, List.setIfInBounds_toArray, List.set_cons_zero, List.set_cons_succ, i64_w, i32_w]
      rfl
    refine pure_ (i := 1) (N := some 14) (v := ?_) (a' := ?_) #[true, true, false, false, false, false, false, false, false, false, false, false, false] rfl rfl (any_of HT_.out (by kernel_rfl)) (fun _ _ _ h => h) (Or.inl ⟨by rfl, ?_⟩) ?_ ?_
    rotate_left
    · intro w'
      go_simp
      with_reducible rfl
    rotate_left
    · simp only [Act.put, List.setIfInBounds_toArray, List.set_cons_zero, List.set_cons_succ, i64_w, i32_w]
      rfl
    refine pure_ (i := 2) (N := some 15) (v := ?_) (a' := ?_) #[true, true, true, false, false, false, false, false, false, false, false, false, false] rfl rfl (any_of HT_.out (by kernel_rfl)) (fun _ _ _ h => h) (Or.inl ⟨by rfl, ?_⟩) ?_ ?_
    rotate_left
    · intro w'
      go_simp
      with_reducible rfl
    rotate_left
    · simp only [Act.put, List.setIfInBounds_toArray, List.set_cons_zero, List.set_cons_succ, i64_w, i32_w]
      rfl
    refine take_ (i := 3) (N := some 16) (v := ?_) (a' := ?_) #[true, true, true, true, false, false, false, false, false, false, false, false, false] rfl rfl (take_ofW HT_.out HW_.out (by kernel_rfl)) (fun _ _ _ h => h) (Or.inl ⟨by rfl, ?_⟩) hHeld ?_ ?_
    rotate_left
    · rintro w' ⟨s0, s1⟩
      go_simp
      with_reducible rfl
    rotate_left
    · simp only [Act.put, List.setIfInBounds_toArray, List.set_cons_zero, List.set_cons_succ, i64_w, i32_w]
      rfl
    refine pure_ (i := 5) (N := some 18) (v := ?_) (a' := ?_) #[true, true, true, true, false, true, false, false, false, false, false, false, false] rfl rfl (any_of HT_.out (by kernel_rfl)) (fun _ _ _ h => h) (Or.inl ⟨by rfl, ?_⟩) ?_ ?_
    rotate_left
    · intro w'
      go_simp
      with_reducible rfl
    rotate_left
    · simp only [Act.put, List.setIfInBounds_toArray, List.set_cons_zero, List.set_cons_succ, i64_w, i32_w]
      rfl
    refine pure_ (i := 7) (N := some 20) (v := ?_) (a' := ?_) #[true, true, true, true, false, true, false, true, false, false, false, false, false] rfl rfl (any_of HT_.out (by kernel_rfl)) (fun _ _ _ h => h) (Or.inl ⟨by rfl, ?_⟩) ?_ ?_
    rotate_left
    · intro w'
      go_simp
      with_reducible rfl
    rotate_left
    · simp only [Act.put, List.setIfInBounds_toArray, List.set_cons_zero, List.set_cons_succ, i64_w, i32_w]
      rfl
    have HBC := Aside0.mk (Below.refl wdr2.heap.size wdr2)
    refine join_ (σ := Value × Value × Option Addr × Nat) 4 #[true, true, true, true, true, true, true, true, true, false, false, false, false] (fun s_ => [(17, s_.1), (19, s_.2.1), (21, .slice s_.2.2.1 1 s_.2.2.2)]) (fun s_ w' => (w'.cell? ⟨w.heap.size, 0, none⟩ = some (.slice A l.length c) ∧ w'.cell? ⟨w.heap.size, 1, none⟩ = some (.int .i64 kp)) ∧ Kd.R (Kd.int .i64) 3 w' wdr2.heap.size (fun _ => True) s_.2.1 rs ∧ Kd.C (Kd.int .i64) w' s_.2.2.1 1 [(p : Int)] ∧ Below wdr2.heap.size wdr2 w') ?_ ?_
    rotate_left
    · intro hCont
      refine two_ (i := 4) (j := 8) (Ni := some 17) (Nj := some 21) #[true, true, true, true, true, true, false, true, false, false, false, false, false] #[true, true, true, true, false, true, false, true, true, false, false, false, false] rfl rfl rfl rfl (two_of HT_.out (by kernel_rfl)) (by decide) (by decide) (fun K hK => ?_) (fun K hK => ?_)
      · refine Kd.R_lit_step (Kd.int .i64) (w0 := wdr2) wdr2.heap.size 3 (by rfl) (N := 17) rfl (xs := ([] : List Int)) (inner := []) (ok := fun _ => True) (okp := fun _ => False) ?hr ?hp (fun _ h => h.elim) trivial (Below.refl _ _) (Nat.le_refl _) (by simp) ?_
        case hr => first | (go_simp; done) | (go_simp; rfl)
        case hp => exact Reps.none _ _
        intro v1 wm1 ho hb1 hg_ hn_
        have HO4 := Aside0.mk (Kd.R_lower ho HBC.out.size)
        replace HBC := Aside0.mk (HBC.out.trans (hb1.mono HBC.out.size))
        clear ho hb1 hg_ hn_
        refine hK.out _ _ ⟨(HBC.out.cell (World.block_lt_of_cell? wdr2 _ Z0.out)).trans Z0.out, (HBC.out.cell (World.block_lt_of_cell? wdr2 _ Z1.out)).trans Z1.out⟩ (fun hHeld => ?_)
        clear hK K
        refine norm_ (a' := ?_) ?_ ?_
        rotate_left
        · show Act.put _ (some 17) _ = _
          simp only [Act.put, List.setIfInBounds_toArray, List.set_cons_zero, List.set_cons_succ, i64_w, i32_w]
          rfl
        refine two_ (i := 6) (j := 8) (Ni := some 19) (Nj := some 21) #[true, true, true, true, true, true, true, true, false, false, false, false, false] #[true, true, true, true, true, true, false, true, true, false, false, false, false] rfl rfl rfl rfl (two_of HT_.out (by kernel_rfl)) (by decide) (by decide) (fun K hK => ?_) (fun K hK => ?_)
        · refine Kd.R_append_rows_step (Kd.int .i64) (w0 := wdr2) wdr2.heap.size (by rfl) (.tmp 17) (.tmp 18) 25 3 (.int .i64 0) 8 rfl Try.underlying25 info3 rfl (by decide) (by omega) _ [] rs _ _ _ (fun _ => True) (fun _ => False) rfl rfl ?aO ?aR (fun _ _ h => h) (fun _ h => h.elim) (fun _ _ => trivial) ?aB ?aS ?aL ?_
          case aO => exact HO4.out
          case aR => exact (Kd.C_below HRI.out HBC.out)
          case aB => exact HBC.out
          case aS => exact HBC.out.size
          case aL => have := HLN.out; simp only [List.length_nil]; omega
          intro v2 wm2 ho hb1 hg_ hn_
          rw [List.nil_append] at ho
          have HO6 := Aside0.mk ho
          replace HBC := Aside0.mk hb1
          clear ho hb1 hg_ hn_ HO4
          refine hK.out _ _ ⟨(HBC.out.cell (World.block_lt_of_cell? wdr2 _ Z0.out)).trans Z0.out, (HBC.out.cell (World.block_lt_of_cell? wdr2 _ Z1.out)).trans Z1.out⟩ (fun hHeld => ?_)
          clear hK K
          refine norm_ (a' := ?_) ?_ ?_
          rotate_left
          · show Act.put _ (some 19) _ = _
            simp only [Act.put, List.setIfInBounds_toArray, List.set_cons_zero, List.set_cons_succ, i64_w, i32_w]
            rfl
          refine one_ (i := 8) (N := some 21) #[true, true, true, true, true, true, true, true, true, false, false, false, false] rfl rfl (one_of HT_.out (by kernel_rfl)) (by decide) (fun K hK => ?_)
          refine Kd.R_lit_step (Kd.int .i64) (w0 := wm2) wm2.heap.size 3 (by rfl) (N := 21) rfl (xs := [(p : Int)]) (inner := [.int .i64 (p : Int)]) (ok := fun _ => True) (okp := fun _ => False) ?hr ?hp (fun _ h => h.elim) trivial (Below.refl _ _) (Nat.le_refl _) (by simp) ?_
          case hr => first | (go_simp; done) | (go_simp; rfl)
          case hp => exact (Reps.none _ _).snoc (p := (p : Int)) (c := [.int .i64 (p : Int)]) rfl rfl
          intro v8 wm3 ho hb1 hg_ hn_
          have HR8 := Aside0.mk ho
          replace HO6 := Aside0.mk (Kd.R_below HO6.out hb1)
          replace HBC := Aside0.mk (HBC.out.trans (hb1.mono HBC.out.size))
          clear ho hb1 hg_ hn_
          refine hK.out _ _ ⟨(HBC.out.cell (World.block_lt_of_cell? wdr2 _ Z0.out)).trans Z0.out, (HBC.out.cell (World.block_lt_of_cell? wdr2 _ Z1.out)).trans Z1.out⟩ (fun hHeld => ?_)
          clear hK K
          refine norm_ (a' := ?_) ?_ ?_
          rotate_left
          · show Act.put _ (some 21) _ = _
            simp only [Act.put, List.setIfInBounds_toArray, List.set_cons_zero, List.set_cons_succ, i64_w, i32_w]
            rfl
          obtain ⟨A8, c8, ev8, hc8, hC8⟩ := Kd.R_reads HR8.out
          subst ev8
          exact norm_ (by simp only [putAll, Act.put, List.setIfInBounds_toArray, List.set_cons_zero, List.set_cons_succ]; rfl) (hCont (v1, v2, A8, c8) _ ⟨hHeld, HO6.out, hC8, HBC.out⟩)
        · refine Kd.R_lit_step (Kd.int .i64) (w0 := wm1) wm1.heap.size 3 (by rfl) (N := 21) rfl (xs := [(p : Int)]) (inner := [.int .i64 (p : Int)]) (ok := fun _ => True) (okp := fun _ => False) ?hr ?hp (fun _ h => h.elim) trivial (Below.refl _ _) (Nat.le_refl _) (by simp) ?_
          case hr => first | (go_simp; done) | (go_simp; rfl)
          case hp => exact (Reps.none _ _).snoc (p := (p : Int)) (c := [.int .i64 (p : Int)]) rfl rfl
          intro v8 wm4 ho hb1 hg_ hn_
          have HR8 := Aside0.mk (Kd.R_new' ho (Kd.R_lt HO4.out))
          replace HO4 := Aside0.mk (Kd.R_below HO4.out hb1)
          replace HBC := Aside0.mk (HBC.out.trans (hb1.mono HBC.out.size))
          clear ho hb1 hg_ hn_
          refine hK.out _ _ ⟨(HBC.out.cell (World.block_lt_of_cell? wdr2 _ Z0.out)).trans Z0.out, (HBC.out.cell (World.block_lt_of_cell? wdr2 _ Z1.out)).trans Z1.out⟩ (fun hHeld => ?_)
          clear hK K
          refine norm_ (a' := ?_) ?_ ?_
          rotate_left
          · show Act.put _ (some 21) _ = _
            simp only [Act.put, List.setIfInBounds_toArray, List.set_cons_zero, List.set_cons_succ, i64_w, i32_w]
            rfl
          refine one_ (i := 6) (N := some 19) #[true, true, true, true, true, true, true, true, true, false, false, false, false] rfl rfl (one_of HT_.out (by kernel_rfl)) (by decide) (fun K hK => ?_)
          refine Kd.R_append_rows_step (Kd.int .i64) (w0 := wdr2) wdr2.heap.size (by rfl) (.tmp 17) (.tmp 18) 25 3 (.int .i64 0) 8 rfl Try.underlying25 info3 rfl (by decide) (by omega) _ [] rs _ _ _ (fun _ => True) (fun _ => False) rfl rfl ?aO ?aR (fun _ _ h => h) (fun _ h => h.elim) (fun _ _ => trivial) ?aB ?aS ?aL ?_
          case aO => exact HO4.out
          case aR => exact (Kd.C_below HRI.out HBC.out)
          case aB => exact HBC.out
          case aS => exact HBC.out.size
          case aL => have := HLN.out; simp only [List.length_nil]; omega
          intro v2 wm5 ho hb1 hg_ hn_
          rw [List.nil_append] at ho
          have HO6 := Aside0.mk ho
          replace HR8 := Aside0.mk (Kd.R_grown HR8.out hg_ (fun k hk => hk.2))
          replace HBC := Aside0.mk hb1
          clear ho hb1 hg_ hn_ HO4
          refine hK.out _ _ ⟨(HBC.out.cell (World.block_lt_of_cell? wdr2 _ Z0.out)).trans Z0.out, (HBC.out.cell (World.block_lt_of_cell? wdr2 _ Z1.out)).trans Z1.out⟩ (fun hHeld => ?_)
          clear hK K
          refine norm_ (a' := ?_) ?_ ?_
          rotate_left
          · show Act.put _ (some 19) _ = _
            simp only [Act.put, List.setIfInBounds_toArray, List.set_cons_zero, List.set_cons_succ, i64_w, i32_w]
            rfl
          obtain ⟨A8, c8, ev8, hc8, hC8⟩ := Kd.R_reads HR8.out
          subst ev8
          exact norm_ (by simp only [putAll, Act.put, List.setIfInBounds_toArray, List.set_cons_zero, List.set_cons_succ]; rfl) (hCont (v1, v2, A8, c8) _ ⟨hHeld, HO6.out, hC8, HBC.out⟩)
      · refine Kd.R_lit_step (Kd.int .i64) (w0 := wdr2) wdr2.heap.size 3 (by rfl) (N := 21) rfl (xs := [(p : Int)]) (inner := [.int .i64 (p : Int)]) (ok := fun _ => True) (okp := fun _ => False) ?hr ?hp (fun _ h => h.elim) trivial (Below.refl _ _) (Nat.le_refl _) (by simp) ?_
        case hr => first | (go_simp; done) | (go_simp; rfl)
        case hp => exact (Reps.none _ _).snoc (p := (p : Int)) (c := [.int .i64 (p : Int)]) rfl rfl
        intro v8 wm6 ho hb1 hg_ hn_
        have HR8 := Aside0.mk ho
        replace HBC := Aside0.mk (HBC.out.trans (hb1.mono HBC.out.size))
        clear ho hb1 hg_ hn_
        refine hK.out _ _ ⟨(HBC.out.cell (World.block_lt_of_cell? wdr2 _ Z0.out)).trans Z0.out, (HBC.out.cell (World.block_lt_of_cell? wdr2 _ Z1.out)).trans Z1.out⟩ (fun hHeld => ?_)
        clear hK K
        refine norm_ (a' := ?_) ?_ ?_
        rotate_left
        · show Act.put _ (some 21) _ = _
          simp only [Act.put, List.setIfInBounds_toArray, List.set_cons_zero, List.set_cons_succ, i64_w, i32_w]
          rfl
        refine one_ (i := 4) (N := some 17) #[true, true, true, true, true, true, false, true, true, false, false, false, false] rfl rfl (one_of HT_.out (by kernel_rfl)) (by decide) (fun K hK => ?_)
        refine Kd.R_lit_step (Kd.int .i64) (w0 := wm6) wm6.heap.size 3 (by rfl) (N := 17) rfl (xs := ([] : List Int)) (inner := []) (ok := fun _ => True) (okp := fun _ => False) ?hr ?hp (fun _ h => h.elim) trivial (Below.refl _ _) (Nat.le_refl _) (by simp) ?_
        case hr => first | (go_simp; done) | (go_simp; rfl)
        case hp => exact Reps.none _ _
        intro v1 wm7 ho hb1 hg_ hn_
        replace HR8 := Aside0.mk (Kd.R_elder' HR8.out (Kd.R_base ho) hb1)
        have HO4 := Aside0.mk (Kd.R_lower ho HBC.out.size)
        replace HBC := Aside0.mk (HBC.out.trans (hb1.mono HBC.out.size))
        clear ho hb1 hg_ hn_
        refine hK.out _ _ ⟨(HBC.out.cell (World.block_lt_of_cell? wdr2 _ Z0.out)).trans Z0.out, (HBC.out.cell (World.block_lt_of_cell? wdr2 _ Z1.out)).trans Z1.out⟩ (fun hHeld => ?_)
        clear hK K
        refine norm_ (a' := ?_) ?_ ?_
        rotate_left
        · show Act.put _ (some 17) _ = _
          simp only [Act.put, List.setIfInBounds_toArray, List.set_cons_zero, List.set_cons_succ, i64_w, i32_w]
          rfl
        refine one_ (i := 6) (N := some 19) #[true, true, true, true, true, true, true, true, true, false, false, false, false] rfl rfl (one_of HT_.out (by kernel_rfl)) (by decide) (fun K hK => ?_)
        refine Kd.R_append_rows_step (Kd.int .i64) (w0 := wdr2) wdr2.heap.size (by rfl) (.tmp 17) (.tmp 18) 25 3 (.int .i64 0) 8 rfl Try.underlying25 info3 rfl (by decide) (by omega) _ [] rs _ _ _ (fun _ => True) (fun _ => False) rfl rfl ?aO ?aR (fun _ _ h => h) (fun _ h => h.elim) (fun _ _ => trivial) ?aB ?aS ?aL ?_
        case aO => exact HO4.out
        case aR => exact (Kd.C_below HRI.out HBC.out)
        case aB => exact HBC.out
        case aS => exact HBC.out.size
        case aL => have := HLN.out; simp only [List.length_nil]; omega
        intro v2 wm8 ho hb1 hg_ hn_
        rw [List.nil_append] at ho
        have HO6 := Aside0.mk ho
        replace HR8 := Aside0.mk (Kd.R_grown HR8.out hg_ (fun k hk => hk.2))
        replace HBC := Aside0.mk hb1
        clear ho hb1 hg_ hn_ HO4
        refine hK.out _ _ ⟨(HBC.out.cell (World.block_lt_of_cell? wdr2 _ Z0.out)).trans Z0.out, (HBC.out.cell (World.block_lt_of_cell? wdr2 _ Z1.out)).trans Z1.out⟩ (fun hHeld => ?_)
        clear hK K
        refine norm_ (a' := ?_) ?_ ?_
        rotate_left
        · show Act.put _ (some 19) _ = _
          simp only [Act.put, List.setIfInBounds_toArray, List.set_cons_zero, List.set_cons_succ, i64_w, i32_w]
          rfl
        obtain ⟨A8, c8, ev8, hc8, hC8⟩ := Kd.R_reads HR8.out
        subst ev8
        exact norm_ (by simp only [putAll, Act.put, List.setIfInBounds_toArray, List.set_cons_zero, List.set_cons_succ]; rfl) (hCont (v1, v2, A8, c8) _ ⟨hHeld, HO6.out, hC8, HBC.out⟩)
    clear HBC
    rintro ⟨v1, v2, A8, c8⟩ wj ⟨hHeld, hO6, hC8, hb⟩
    have HO6 := Aside0.mk hO6
    have HC8 := Aside0.mk hC8
    have HBC := Aside0.mk hb
    clear hO6 hC8
    have Z0b := Z0
    replace Z0 : Aside0 (wj.cell? ⟨w.heap.size, 0, none⟩ = some (.slice A l.length c)) := ⟨(hb.cell (World.block_lt_of_cell? wdr2 _ Z0b.out)).trans Z0b.out⟩
    have Z1b := Z1
    replace Z1 : Aside0 (wj.cell? ⟨w.heap.size, 1, none⟩ = some (.int .i64 kp)) := ⟨(hb.cell (World.block_lt_of_cell? wdr2 _ Z1b.out)).trans Z1b.out⟩
    have HBb := HB
    replace HB := Aside0.mk (HBb.out.trans (hb.mono HBb.out.size))
    have KXhb := KXh
    replace KXh := Aside0.mk (blk_below KXhb.out hb)
    have HVlb := HVl
    replace HVl := Aside0.mk (Kd.V_below HVlb.out hb)
    have HRIb := HRI
    replace HRI := Aside0.mk (Kd.C_below HRIb.out hb)
    clear hb
    refine norm_ (a' := ?_) ?_ ?_
    rotate_left
    · simp only [putAll, Act.put, List.setIfInBounds_toArray, List.set_cons_zero, List.set_cons_succ, i64_w, i32_w]
      rfl
    refine one_ (i := 9) (N := some 22) #[true, true, true, true, true, true, true, true, true, true, false, false, false] rfl rfl (one_of HT_.out (by kernel_rfl)) (by decide) (fun K hK => ?_)
    refine Kd.R_append_rows_step (Kd.int .i64) (w0 := wdr2) wdr2.heap.size (by rfl) (.tmp 19) (.tmp 21) 25 3 (.int .i64 0) 8 rfl Try.underlying25 info3 rfl (by decide) (by omega) _ rs [(p : Int)] _ _ _ (fun _ => True) (fun _ => False) rfl rfl ?aO ?aR (fun _ _ h => h) (fun _ h => h.elim) (fun _ _ => trivial) ?aB ?aS ?aL ?_
    case aO => exact HO6.out
    case aR => exact HC8.out
    case aB => exact HBC.out
    case aS => exact HBC.out.size
    case aL => have := HLN.out; omega
    intro v4 w9 ho hb hg_ hn_
    obtain ⟨A9, c9, ev9, hc9, hC9⟩ := Kd.R_reads ho
    subst ev9
    have HC9 := Aside0.mk hC9
    have HD9 := Aside0.mk hc9
    clear ho hg_ hn_ hc9 hC9 HO6 HC8 HBC hHeld
    replace Z0 : Aside0 (w9.cell? ⟨w.heap.size, 0, none⟩ = some (.slice A l.length c)) := ⟨(hb.cell (World.block_lt_of_cell? wdr2 _ Z0b.out)).trans Z0b.out⟩
    replace Z1 : Aside0 (w9.cell? ⟨w.heap.size, 1, none⟩ = some (.int .i64 kp)) := ⟨(hb.cell (World.block_lt_of_cell? wdr2 _ Z1b.out)).trans Z1b.out⟩
    replace HB := Aside0.mk (HBb.out.trans (hb.mono HBb.out.size))
    replace KXh := Aside0.mk (blk_below KXhb.out hb)
    replace HVl := Aside0.mk (Kd.V_below HVlb.out hb)
    replace HRI := Aside0.mk (Kd.C_below HRIb.out hb)
    clear hb Z0b Z1b HBb KXhb HVlb HRIb
    refine hK.out _ _ ⟨Z0.out, Z1.out⟩ (fun hHeld => ?_)
    clear hK K
    refine norm_ (a' := ?_) ?_ ?_
    rotate_left
    · show Act.put _ (some 22) _ = _
      simp only [Act.put, List.setIfInBounds_toArray, List.set_cons_zero, List.set_cons_succ, i64_w, i32_w]
      rfl
    refine one_ (i := 10) (N := some 23) #[true, true, true, true, true, true, true, true, true, true, true, false, false] rfl rfl (one_of HT_.out (by kernel_rfl)) (by decide) (fun K hK => ?_)
    refine goes_ Try.func6 (by kernel_rfl) rfl #[.agg #[.slice A l.length c, .int .i64 kp], .slice A9 (rs ++ [(p : Int)]).length c9, .slice none 0 0, .int .i64 40] (by rfl) rfl rfl (by (try simp only [List.map_toArray, List.map_cons, List.map_nil]); first | done | rfl | (simp only [List.length_drop, List.length_take]; rfl)) ?_
    with_reducible refine (fine_at A c l kp A9 c9 (rs ++ [(p : Int)]) bf _ (Kd.V_reads' HVl.out).2.2 (Kd.V_reads' HVl.out).2.1 HC9.out HD9.out HFN.out).mono ?_
    rintro e wcr10 ⟨rfl, hb⟩
    refine ⟨_, rfl, ?_⟩
    replace Z0 : Aside0 (wcr10.cell? ⟨w.heap.size, 0, none⟩ = some (.slice A l.length c)) := ⟨(hb.cell (World.block_lt_of_cell? w9 _ Z0.out)).trans Z0.out⟩
    replace Z1 : Aside0 (wcr10.cell? ⟨w.heap.size, 1, none⟩ = some (.int .i64 kp)) := ⟨(hb.cell (World.block_lt_of_cell? w9 _ Z1.out)).trans Z1.out⟩
    replace HB := Aside0.mk (HB.out.trans (hb.mono HB.out.size))
    replace KXh := Aside0.mk (blk_below KXh.out hb)
    replace HVl := Aside0.mk (Kd.V_below HVl.out hb)
    replace HRI := Aside0.mk (Kd.C_below HRI.out hb)
    clear hb hHeld
    refine hK.out _ _ ⟨Z0.out, Z1.out⟩ (fun hHeld => ?_)
    clear hK K
    refine norm_ (a' := ?_) ?_ ?_
    rotate_left
    · show Act.put _ (some 23) _ = _
      simp only [Act.put, List.setIfInBounds_toArray, List.set_cons_zero, List.set_cons_succ, i64_w, i32_w]
      rfl
    refine pure_ (i := 11) (N := some 24) (v := ?_) (a' := ?_) #[true, true, true, true, true, true, true, true, true, true, true, true, false] rfl rfl (any_of HT_.out (by kernel_rfl)) (fun _ _ _ h => h) (Or.inl ⟨by rfl, ?_⟩) ?_ ?_
    rotate_left
    · intro w'
      go_simp
      with_reducible rfl
    rotate_left
    · simp only [Act.put, List.setIfInBounds_toArray, List.set_cons_zero, List.set_cons_succ, i64_w, i32_w]
      rfl
    refine pure_ (i := 12) (N := some 25) (v := ?_) (a' := ?_) #[true, true, true, true, true, true, true, true, true, true, true, true, true] rfl rfl (any_of HT_.out (by kernel_rfl)) (fun _ _ _ h => h) (Or.inl ⟨by rfl, ?_⟩) ?_ ?_
    rotate_left
    · intro w'
      go_simp
      with_reducible rfl
    rotate_left
    · simp only [Act.put, List.setIfInBounds_toArray, List.set_cons_zero, List.set_cons_succ, i64_w, i32_w]
      rfl
    refine done_ (done_of HT_.out (by kernel_rfl)) ?_
    clear hHeld HT_ HW_
    clear Z0 Z1 HC9 HD9 HFN
    cases bf with
    | false =>
      go_wp2
      go_ret
      exact ⟨rfl, HB.out⟩
    | true =>
      obtain ⟨hl40, hs, hR, hrt⟩ := HFI.out rfl
      have hrp := hrt rs.length (by rw [List.length_append]; simp)
      rw [rd_last] at hrp
      obtain ⟨hp1, n, Nn, ch, hnod, hN40, hc0, hn2, hch, hend, h1, h3⟩ := bound_says l kp (p : Int) hl40 hs hR hrp (by omega)
      rw [Int.toNat_natCast] at hc0
      have hp : p < l.length := by omega
      obtain ⟨r0, hr0⟩ : ∃ r0, (rd_T38 l (p : Nat)).f0 = r0 := ⟨_, rfl⟩
      obtain ⟨lf, hlf⟩ : ∃ lf, (rd_T38 l (p : Nat)).f2.f0 = lf := ⟨_, rfl⟩
      rw [hr0, hlf] at h1 h3
      have HR0 := Aside0.mk hr0
      have HLF := Aside0.mk hlf
      have HNOD := Aside0.mk hnod
      have HC0 := Aside0.mk hc0
      have HN2 := Aside0.mk hn2
      have HCH := Aside0.mk hch
      have HEND := Aside0.mk hend
      have H1 := Aside0.mk h1
      have H3 := Aside0.mk h3
      have HN40 := Aside0.mk hN40
      clear hs hR hrt hrp hnod hc0 hn2 hch hend h1 h3 hr0 hlf hN40 HFI HRI HLN
      have xh_0 : wcr10.cell? ⟨w.heap.size, 0, none⟩ = some (.slice A l.length c) := (blk_cell KXh.out 0).trans rfl
      have xh_1 : wcr10.cell? ⟨w.heap.size, 1, none⟩ = some (.int .i64 kp) := (blk_cell KXh.out 1).trans rfl
      have lh : w.heap.size < wcr10.heap.size := blk_lt KXh.out
      go_wp2_with fail
      clear hn xh_0 xh_1 lh
      refine (give_walk p wcr10).mono ?_
      rintro e w4 ⟨v_, rfl, hv, hb⟩
      replace HB := Aside0.mk (HB.out.trans (hb.mono HB.out.size))
      replace KXh := Aside0.mk (blk_below KXh.out hb)
      replace HVl := Aside0.mk (Kd.V_below HVl.out hb)
      obtain ⟨At, ct, ev, hct, hCt⟩ := Kd.R_reads hv
      subst ev
      have HFt : Aside0 (Kd.F kc w4 (fun k => k < w4.heap.size) At (fls [(p, 0)]).length (fls [(p, 0)])) := ⟨Kd.C_F kc_heap hCt⟩
      have HCt : Aside0 (1 ≤ ct) := ⟨hct⟩
      have e1 : ([(fl p, fl 0)] : List (Nat × Nat)).length = 1 := rfl
      rw [e1]
      clear hv hb hct hCt e1
      have xh_0 : w4.cell? ⟨w.heap.size, 0, none⟩ = some (.slice A l.length c) := (blk_cell KXh.out 0).trans rfl
      have xh_1 : w4.cell? ⟨w.heap.size, 1, none⟩ = some (.int .i64 kp) := (blk_cell KXh.out 1).trans rfl
      have lh : w.heap.size < w4.heap.size := blk_lt KXh.out
      go_wp2_with fail
      clear xh_0 xh_1 lh
      refine (left_walk (fun _ => True) A c kp At ct _ ch n (l, [(p, 0)]) HC0.out HN2.out HCH.out HEND.out w4 (V_base (Kd.V_mono HVl.out (fun _ _ => trivial))) HFt.out HCt.out).mono ?_
      rintro e w5 ⟨rfl, hb⟩
      replace HB := Aside0.mk (HB.out.trans (hb.mono HB.out.size))
      replace KXh := Aside0.mk (blk_below KXh.out hb)
      replace HVl := Aside0.mk (Kd.V_below HVl.out hb)
      replace HFt := Aside0.mk (Kd.F_below HFt.out hb)
      clear hb HFt HCt HC0 HN2 HCH HEND
      have xh_0 : w5.cell? ⟨w.heap.size, 0, none⟩ = some (.slice A l.length c) := (blk_cell KXh.out 0).trans rfl
      have xh_1 : w5.cell? ⟨w.heap.size, 1, none⟩ = some (.int .i64 kp) := (blk_cell KXh.out 1).trans rfl
      have lh : w.heap.size < w5.heap.size := blk_lt KXh.out
      go_wp2_with fail
      clear xh_0 xh_1 lh
      refine (assartref07_Nodes.calls 400000 A c l kp (p : Int) Nn w5 (Kd.V_reads' HVl.out).2.2 (Kd.V_reads' HVl.out).2.1 HNOD.out).mono ?_
      rintro e w6 ⟨v_, rfl, hv, hb⟩
      replace HB := Aside0.mk (HB.out.trans (hb.mono HB.out.size))
      replace KXh := Aside0.mk (blk_below KXh.out hb)
      replace HVl := Aside0.mk (Kd.V_below HVl.out hb)
      obtain ⟨An, cn, ev, -, -⟩ := Kd.R_reads hv
      subst ev
      clear hv hb HNOD
      obtain ⟨ax, A_', c_', e2, y0, -, y2, -⟩ := at_T38 (Kd.V_reads' HVl.out).2.2 (p : Int) (by omega) (by omega)
      subst e2
      rw [Int.toNat_natCast, HR0.out] at y0
      rw [Int.toNat_natCast, HLF.out] at y2
      have p1 : (p : Int) < (l.length : Int) := by omega
      replace p1 := eq_true p1
      have ly0 := World.block_lt_of_cell? w6 _ y0
      have xh_0 : w6.cell? ⟨w.heap.size, 0, none⟩ = some (.slice (some ax) l.length c) := (blk_cell KXh.out 0).trans rfl
      have xh_1 : w6.cell? ⟨w.heap.size, 1, none⟩ = some (.int .i64 kp) := (blk_cell KXh.out 1).trans rfl
      have lh : w.heap.size < w6.heap.size := blk_lt KXh.out
      have h1 := H1.out
      have h3 := H3.out
      have hN40 := HN40.out
      clear H1 H3 HN40
      by_cases hg : 1 < r0
      · have hg1 : decide (r0 > 1) = true := decide_eq_true hg
        have hn1 : ((n : Int) == 1) = true := by rw [h1 (.inl hg)]; rfl
        clear h1 h3
        go_wp2
        go_ret
        exact ⟨rfl, HB.out⟩
      · have hg1 : decide (r0 > 1) = false := decide_eq_false hg
        cases lf with
        | true =>
          have hn1 : ((n : Int) == 1) = true := by rw [h1 (.inr rfl)]; rfl
          clear h1 h3
          go_wp2
          go_ret
          exact ⟨rfl, HB.out⟩
        | false =>
          have h4 := h3 (by rintro (h | h); exact hg h; cases h)
          have hn1 : decide ((n : Int) ≥ 3) = true := decide_eq_true (by omega)
          have hn2 : decide ((n : Int) ≤ 4 * (Nn.length : Int) + 1) = true := decide_eq_true (by omega)
          clear h1 h3
          go_wp2
          go_ret
          exact ⟨rfl, HB.out⟩
end Go.Proofs.Ytflndiikeoflfaa.P
end
section
namespace Go.Proofs.Ytflndiikeoflfaa.P
open Go.RowKit Go.Proofs.YtflndiikeoflfaaW.PrintWords Go.Proofs.YtflndiikeoflfaaW.PrintLast Go.Proofs.YtflndiikeoflfaaW.PrintMore
set_option linter.unusedVariables false
set_option linter.unusedSimpArgs false
structure Opens {α : Type} (P : Program) (t : TypeId) (d : Kd α) (ok : α → Prop) : Prop where
  sz : P.cellsOf t = d.sz
  op : ∀ {H : Type} {enc : TypeId × Value → H} {W : World} {base : Nat} {spare : Nat → Bool} {held : Bool} {fuel : Nat} {cs : List Value} {y : DataW H × List MemPlace}, DataW.trod enc P W base spare held fuel t cs = some y → (DataW.weights P t y.1).all (· ≤ reachBytes) = true → ∃ x, d.K W x cs ∧ ok x
theorem Opens.int {P : Program} {t : TypeId} {k : IntKind} (h : P.underlying t = some (.int k)) (hs : P.cellsOf t = 1) : Opens P t (Kd.int k) (fun n => (Lit.int k n).wf = true) :=
  ⟨hs, fun hy _ => by
    obtain ⟨n, rfl, _, hw⟩ := DataW.trod_int h hy
    exact ⟨n, rfl, hw⟩⟩
theorem Opens.bool {P : Program} {t : TypeId} (h : P.underlying t = some .bool) (hs : P.cellsOf t = 1) : Opens P t Kd.bool (fun _ => True) :=
  ⟨hs, fun hy _ => by
    obtain ⟨b, rfl, _⟩ := DataW.trod_bool h hy
    exact ⟨b, rfl, trivial⟩⟩
theorem Opens.string {P : Program} {t : TypeId} (h : P.underlying t = some .string) (hs : P.cellsOf t = 1) : Opens P t Kd.string (fun s => s.size ≤ 140737488351232) :=
  ⟨hs, fun hy hw => by
    obtain ⟨s, rfl, rfl, _⟩ := DataW.trod_string h hy
    refine ⟨s, rfl, ?_⟩
    have := hw
    simp [DataW.weights, reachBytes] at this
    exact of_decide_eq_true this⟩
theorem choose_row {α : Type} {R : Nat → α → Prop} : ∀ n, (∀ i, i < n → ∃ x, R i x) → ∃ xs : List α, xs.length = n ∧ ∀ i x, xs[i]? = some x → R i x
  | 0, _ => ⟨[], rfl, fun i x h => by simp at h⟩
  | n + 1, h => by
    obtain ⟨xs, hl, hx⟩ := choose_row n (fun i hi => h i (by omega))
    obtain ⟨x, hr⟩ := h n (by omega)
    refine ⟨xs ++ [x], by simp [hl], fun i z hz => ?_⟩
    by_cases hi : i < n
    · rw [List.getElem?_append_left (by omega)] at hz
      exact hx i z hz
    · rw [List.getElem?_append_right (by omega)] at hz
      have : i - xs.length = 0 := by
        rcases Nat.eq_zero_or_pos (i - xs.length) with h0 | h0
        · exact h0
        · rw [List.getElem?_eq_none (by simp; omega)] at hz; cases hz
      rw [this] at hz
      simp at hz
      subst hz
      have : i = n := by omega
      rw [this]; exact hr
theorem weightsAll_mem {H : Type} {P : Program} {e : TypeId} : ∀ {ds : List (DataW H)}, (DataW.weightsAll P e ds).all (· ≤ reachBytes) = true → ∀ d ∈ ds, (DataW.weights P e d).all (· ≤ reachBytes) = true
  | [], _, d, hd => by cases hd
  | a :: ds, h, d, hd => by
    simp only [DataW.weightsAll, List.all_append, Bool.and_eq_true] at h
    rcases List.mem_cons.1 hd with rfl | hd
    · exact h.1
    · exact weightsAll_mem h.2 d hd
theorem Opens.slice {α : Type} {P : Program} {t e : TypeId} {d : Kd α} {ok : α → Prop} {B : Nat} (h : P.underlying t = some (.slice e)) (hs : P.cellsOf t = 1) (hB : P.bytesOf e = B) (he : Opens P e d ok) : Opens P t (Kd.slice e d) (fun xs => xs.length * B ≤ 140737488351232 ∧ ∀ x ∈ xs, ok x) :=
  ⟨hs, fun {H enc W base spare held fuel cs y} hy hw => by
    rcases DataW.trod_slice h hy with ⟨rfl, rfl⟩ | ⟨a, len, cap, elems, rest, n, rfl, rfl, rfl, hb, hl, hc, hel, hi, _, _⟩
    · exact ⟨[], ⟨none, 0, rfl, Nat.le_refl _, Kd.C_nil _ _⟩, by simp⟩
    · unfold DataW.weights at hw
      rw [h] at hw
      simp only [List.all_cons, List.all_append, Bool.and_eq_true, decide_eq_true_eq, hB, List.length_map] at hw
      obtain ⟨hw0, hw1, _⟩ := hw
      have hx : ∀ i, i < len → ∃ x, ok x ∧ ∃ c, c.length = d.sz ∧ d.K W x c ∧ W.cells? base (a.add (i * d.sz)) d.sz = some c := by
        intro i hlt
        have h1 := hi i hlt
        rw [List.getElem?_eq_getElem (by omega)] at h1
        obtain ⟨c, hc1, hc2⟩ := Option.bind_eq_some_iff.1 h1
        obtain ⟨x, hK, hok⟩ := he.op hc2 (weightsAll_mem hw1 _ (List.mem_map_of_mem (List.getElem_mem _)))
        rw [he.sz] at hc1
        exact ⟨x, hok, c, d.K_len hK, hK, hc1⟩
      obtain ⟨xs, hxl, hxs⟩ := choose_row len hx
      refine ⟨xs, ⟨some a, cap, by rw [hxl], by omega, rfl, ?_, fun hpos => ⟨a, rfl, fun j p hj => ?_⟩⟩, ?_, ?_⟩
      · simp only [maxLen] at hc; omega
      · obtain ⟨_, c, hcl, hK, hcc⟩ := hxs j p hj
        refine ⟨c, hcl, hK, fun i u hu => ?_⟩
        obtain ⟨_, _, hcell⟩ := World.cells?_some hcc
        have hi : i < d.sz := by rw [← hcl]; exact (List.getElem?_eq_some_iff.1 hu).1
        have := hcell i hi
        rw [Addr.add_add] at this
        rw [this, hu]
      · rw [hxl, ← hel]
        refine Nat.le_trans (Nat.mul_le_mul_right _ (Nat.le_add_right _ _)) hw0
      · intro x hx
        obtain ⟨i, hlt, rfl⟩ := List.getElem_of_mem hx
        exact (hxs i _ (List.getElem?_eq_getElem hlt)).1⟩
theorem weights_at {H : Type} {P : Program} : ∀ {ts : List TypeId} {ds : List (DataW H)} {j : Nat} {t : TypeId} {d : DataW H}, (DataW.weightsEach P ts ds).all (· ≤ reachBytes) = true → ts[j]? = some t → ds[j]? = some d → (DataW.weights P t d).all (· ≤ reachBytes) = true
  | [], _, _, _, _, _, ht, _ => by simp at ht
  | _ :: _, [], _, _, _, _, _, hd => by simp at hd
  | t0 :: ts, d0 :: ds, 0, _, _, h, ht, hd => by
    simp only [List.getElem?_cons_zero, Option.some.injEq] at ht hd
    subst ht; subst hd
    simp only [DataW.weightsEach, List.all_append, Bool.and_eq_true] at h
    exact h.1
  | t0 :: ts, d0 :: ds, j + 1, _, _, h, ht, hd => by
    simp only [List.getElem?_cons_succ] at ht hd
    simp only [DataW.weightsEach, List.all_append, Bool.and_eq_true] at h
    exact weights_at h.2 ht hd
structure OpensFs {α : Type} (P : Program) (fs : List Field) (off : Nat) (d : Kd α) (ok : α → Prop) : Prop where
  op : ∀ {H : Type} {enc : TypeId × Value → H} {W : World} {base : Nat} {spare : Nat → Bool} {held : Bool} {fuel : Nat} {cs : List Value} {ys : List (DataW H × List MemPlace)},
    (∀ (i : Nat) (f : Field), fs[i]? = some f → DataW.trod enc P W base spare held fuel f.type ((cs.drop f.offset).take (P.cellsOf f.type)) = ys[i]?) → ys.length = fs.length →
    (DataW.weightsEach P (fs.map (·.type)) (ys.map (·.1))).all (· ≤ reachBytes) = true → cs.length = off + d.sz → ∃ x, d.K W x (cs.drop off) ∧ ok x
theorem OpensFs.one {α : Type} {P : Program} {f : Field} {t : TypeId} {off : Nat} {d : Kd α} {ok : α → Prop} (ht : f.type = t) (hoff : f.offset = off) (h : Opens P t d ok) : OpensFs P [f] off d ok :=
  ⟨fun {H enc W base spare held fuel cs ys} hy hl hw hcs => by
    obtain ⟨y, rfl⟩ : ∃ y, ys = [y] := by
      cases ys with
      | nil => simp at hl
      | cons y ys => cases ys with
        | nil => exact ⟨y, rfl⟩
        | cons => simp at hl
    have h0 := hy 0 f rfl
    simp only [List.getElem?_cons_zero] at h0
    simp only [List.map_cons, List.map_nil, DataW.weightsEach, List.append_nil] at hw
    rw [ht] at h0 hw
    obtain ⟨x, hK, hok⟩ := h.op h0 hw
    rw [hoff, List.take_of_length_le (by rw [List.length_drop, h.sz]; omega)] at hK
    exact ⟨x, hK, hok⟩⟩
theorem OpensFs.cons {α β : Type} {P : Program} {f : Field} {fs : List Field} {t : TypeId} {off n : Nat} {d : Kd α} {d' : Kd β} {ok : α → Prop} {ok' : β → Prop} (ht : f.type = t) (hoff : f.offset = off) (h : Opens P t d ok) (hn : off + d.sz = n) (hr : OpensFs P fs n d' ok') :
    OpensFs P (f :: fs) off (Kd.pair d d') (fun x => ok x.1 ∧ ok' x.2) :=
  ⟨fun {H enc W base spare held fuel cs ys} hy hl hw hcs => by
    cases ys with
    | nil => simp at hl
    | cons y ys =>
      have h0 := hy 0 f rfl
      simp only [List.getElem?_cons_zero] at h0
      simp only [List.map_cons, DataW.weightsEach, List.all_append, Bool.and_eq_true] at hw
      have hw0 := hw.1
      rw [ht] at h0 hw0
      obtain ⟨x, hK, hok⟩ := h.op h0 hw0
      have hsz : (Kd.pair d d').sz = d.sz + d'.sz := rfl
      rw [hsz] at hcs
      obtain ⟨x', hK', hok'⟩ := hr.op (fun i g hg => hy (i + 1) g (by simpa using hg)) (by simpa using hl) hw.2 (by omega)
      refine ⟨(x, x'), ⟨_, _, ?_, hK, hK'⟩, hok, hok'⟩
      rw [hoff, h.sz, ← hn, ← List.drop_drop]
      exact (List.take_append_drop _ _).symm⟩
theorem Opens.struct {α β : Type} {P : Program} {t : TypeId} {fs : Array Field} {fl : List Field} {d : Kd α} {ok : α → Prop} (f : β → α) (g : α → β) (hfg : ∀ x, f (g x) = x) (h : P.underlying t = some (.struct fs)) (hfl : fs.toList = fl) (hs : P.cellsOf t = d.sz) (ho : OpensFs P fl 0 d ok) :
    Opens P t (Kd.iso d f) (fun x => ok (f x)) :=
  ⟨hs, fun {H enc W base spare held fuel cs y} hy hw => by
    obtain ⟨xs, n, rfl, rfl, hcl, hxl, hx⟩ := DataW.trod_struct h hy
    unfold DataW.weights at hw
    rw [h] at hw
    simp only [hfl] at hw
    subst hfl
    obtain ⟨x, hK, hok⟩ := ho.op (ys := xs) (fun i f hf => hx i f (by simpa using hf)) (by simpa using hxl) hw (by omega)
    rw [List.drop_zero] at hK
    refine ⟨g x, ?_, ?_⟩
    · show d.K W (f (g x)) cs
      rw [hfg]; exact hK
    · rw [hfg]; exact hok⟩
end Go.Proofs.Ytflndiikeoflfaa.P
end
section
namespace Go.Proofs.Ytflndiikeoflfaa.cleanBound
open Go.ChangeShapes Go.WideShapes Go.ChangeAt Go.RowKit Go.Proofs.Ytflndiikeoflfaa.P Go.Proofs.YtflndiikeoflfaaW.PrintWords Go.Proofs.YtflndiikeoflfaaW.PrintLast Go.Proofs.YtflndiikeoflfaaW.PrintMore
open Go.ChangeMaps (open_string shut_string)
set_option linter.unusedVariables false
set_option linter.unusedSimpArgs false
def ok46 (x : S46) : Prop := (fun x => (Lit.int .i64 x).wf = true) x.f0 ∧ (fun x => (Lit.int .i64 x).wf = true) x.f1
theorem opens46 : Opens Try.prog 46 k46 ok46 := Opens.struct (fs := _) (fun x : S46 => (x.f0, x.f1)) (fun p => ⟨p.1, p.2⟩) (fun _ => rfl) Try.underlying46 rfl (by kernel_rfl) (OpensFs.cons rfl rfl (Opens.int Try.underlying3 (by kernel_rfl)) rfl (OpensFs.one rfl rfl (Opens.int Try.underlying3 (by kernel_rfl))))
def ok36 (x : S36) : Prop := (fun x => True) x.f0 ∧ (fun x => x.length * 16 ≤ 140737488351232 ∧ ∀ y ∈ x, (ok46) y) x.f1
theorem opens36 : Opens Try.prog 36 k36 ok36 := Opens.struct (fs := _) (fun x : S36 => (x.f0, x.f1)) (fun p => ⟨p.1, p.2⟩) (fun _ => rfl) Try.underlying36 rfl (by kernel_rfl) (OpensFs.cons rfl rfl (Opens.bool Try.underlying4 (by kernel_rfl)) rfl (OpensFs.one rfl rfl (Opens.slice (B := 16) Try.underlying34 (by kernel_rfl) (by kernel_rfl) opens46)))
def ok38 (x : S38) : Prop := (fun x => (Lit.int .i64 x).wf = true) x.f0 ∧ (fun x => True) x.f1 ∧ (ok36) x.f2
theorem opens38 : Opens Try.prog 38 k38 ok38 := Opens.struct (fs := _) (fun x : S38 => (x.f0, x.f1, x.f2)) (fun p => ⟨p.1, p.2.1, p.2.2⟩) (fun _ => rfl) Try.underlying38 rfl (by kernel_rfl) (OpensFs.cons rfl rfl (Opens.int Try.underlying3 (by kernel_rfl)) rfl (OpensFs.cons rfl rfl (Opens.bool Try.underlying4 (by kernel_rfl)) rfl (OpensFs.one rfl rfl opens36)))
theorem own : ownKnob Try.prog.godebug = none := by kernel_rfl
theorem laidOut : laidOutB Try.prog = true := by kernel_rfl
set_option maxHeartbeats 1000000 in
set_option maxRecDepth 100000 in
theorem lifted (os : Os) (started : os.Started) (H : Type) (enc : TypeId × Value → H) :
  ReturnsInHanded {} Try.checked os 3 .any (Rows.cleanBoundSpec.pre6 enc Try.prog Try.f3 Rows.cleanBoundRow.domain false) (Rows.cleanBoundSpec.post enc Try.prog Try.f3 false true false false) := by
 refine returnsInHanded_of_change_sized (C := Try.checked) own started (by kernel_rfl) Try.func3
  (ChangeSpec.witness6 (enc := enc) (C := Try.checked) false ⟨#[], #[.agg #[.slice none 0 0, .int .i64 0], .slice none 0 0, .int .i64 0], []⟩ 8 (by kernel_rfl) (by kernel_rfl) (by kernel_rfl) (by kernel_rfl)) ?_
 intro W base args ds gs before hval0 hW hcnd hsz0 _
 have hsz : (DataW.weightsEach Try.prog (Try.f3.params.toList ++ Rows.cleanBoundSpec.plain.varTypes Try.prog) (ds ++ gs)).all (· ≤ reachBytes) = true := hsz0
 have hval : ∀ (j : Nat) t v, Try.f3.params[j]? = some t → args[j]? = some v → Value.okWide Try.prog W .any base t v := hval0
 have hW' := hW
 obtain ⟨p, q, hA0, hV, rfl, hfz, hnd⟩ := hW
 have hA : DataW.TrodAll enc Try.prog W 0 (fun _ => true) true Try.f3.params.toList args.toList ds p := hA0
 rw [Try.params3] at hA hval hsz
 obtain ⟨v0, vs0, d0, ds0, p0, q0, hargs, rfl, rfl, h0, r0⟩ := trodAll_cons hA
 obtain ⟨v1, vs1, d1, ds1, p1, q1, rfl, rfl, rfl, h1, r1⟩ := trodAll_cons r0
 obtain ⟨v2, vs2, d2, ds2, p2, q2, rfl, rfl, rfl, h2, r2⟩ := trodAll_cons r1
 obtain ⟨rfl, rfl, rfl⟩ := trodAll_nil r2
 obtain rfl : args = #[v0, v1, v2] := by cases args; simp_all
 obtain ⟨rfl, rfl⟩ := trodVars_none hV
 have k0 := h0
 have lt0 : ∀ x ∈ p0, x.block < W.heap.size := by obtain ⟨m, hm⟩ := k0; exact DataW.trod_lt m _ _ _ hm
 have wt0 := weights_at hsz (j := 0) (t := 24) (d := d0) rfl rfl
 obtain ⟨fuel0, hf0⟩ := h0
 obtain ⟨x0, hK0, hok0⟩ := (Opens.struct (f := id) (g := id) (fun _ => rfl) Try.underlying24 rfl (by kernel_rfl) (OpensFs.cons rfl rfl (Opens.slice (B := 48) Try.underlying22 (by kernel_rfl) (by kernel_rfl) opens38) rfl (OpensFs.one rfl rfl (Opens.int Try.underlying3 (by kernel_rfl))))).op hf0 wt0
 obtain ⟨cs0, rfl, hsz0⟩ := okWide_struct Try.underlying24 (hval 0 24 v0 rfl rfl)
 obtain ⟨l0_0, a0_1⟩ := x0
 obtain ⟨L0, hL0⟩ : ∃ L, (Value.agg cs0).cells.toList = L := ⟨_, rfl⟩
 rw [hL0] at hK0
 obtain ⟨_, _, rfl, ⟨A0_0, c0_0, rfl, hc0_0, hr0_0⟩, rfl⟩ := hK0
 obtain rfl : cs0 = #[.slice A0_0 l0_0.length c0_0, .int .i64 a0_1] := by have h := hL0; simp [Value.cells] at h; cases cs0; simp_all
 obtain ⟨o0_0, o0_1⟩ := hok0
 have k1 := h1
 have lt1 : ∀ x ∈ p1, x.block < W.heap.size := by obtain ⟨m, hm⟩ := k1; exact DataW.trod_lt m _ _ _ hm
 have wt1 := weights_at hsz (j := 1) (t := 25) (d := d1) rfl rfl
 obtain ⟨fuel1, hf1⟩ := h1
 obtain ⟨l1, hK1, hok1⟩ := (Opens.slice (B := 8) Try.underlying25 (by kernel_rfl) (by kernel_rfl) (Opens.int Try.underlying3 (by kernel_rfl))).op hf1 wt1
 obtain ⟨b1, m1, e1, rfl⟩ := okWide_slice Try.underlying25 (hval 1 25 v1 rfl rfl)
 obtain ⟨A1, c1, hcs1, hc1, hr1⟩ := hK1
 have hcs1' : Value.slice b1 m1 e1 = .slice A1 l1.length c1 := by simpa [Value.cells] using hcs1
 injection hcs1' with q1_1 q2_1 q3_1
 subst q1_1 q2_1 q3_1
 have o1 := hok1
 have k2 := h2
 have lt2 : ∀ x ∈ p2, x.block < W.heap.size := by obtain ⟨m, hm⟩ := k2; exact DataW.trod_lt m _ _ _ hm
 have wt2 := weights_at hsz (j := 2) (t := 3) (d := d2) rfl rfl
 obtain ⟨a2, rfl, _, _, o2⟩ := open_int Try.underlying3 (hval 2 3 v2 rfl rfl) h2
 clear hA0 hval0 hsz0 hsz
 refine (assartlaw11_CleanBound.walk A0_0 c0_0 l0_0 a0_1 _ _ l1 a2 W hr0_0 hc0_0 hr1 o1.1).mono fun e W' ⟨he, bel0⟩ => ?_
 have bel := bel0
 subst he
 exact ⟨_, rfl, _, _, _, [], _, [], hW', trodAll_mk1 (shut_bool Try.underlying4 _), (trodAll_cons_mk (Below.trod laidOut (by kernel_rfl) (of_decide_eq_true (by kernel_rfl)) k0 bel lt0) (trodAll_cons_mk (Below.trod laidOut (by kernel_rfl) (of_decide_eq_true (by kernel_rfl)) k1 bel lt1) (trodAll_cons_mk (Below.trod laidOut (by kernel_rfl) (of_decide_eq_true (by kernel_rfl)) k2 bel lt2) trodAll_mk0))), rfl, bel.frame _, fun h => by cases h⟩
theorem over : Rows.cleanBoundRow.holds Try.pinned (OpenSpec.ofChange Rows.cleanBoundSpec) :=
 OpenClaim.holds_of_wide 3 Try.f3 rfl rfl rfl rfl rfl rfl rfl ⟨rfl, rfl, rfl, rfl, rfl⟩ rfl rfl rfl rfl rfl (by kernel_rfl) Try.func3 (by kernel_rfl)
  (of_decide_eq_true (by kernel_rfl)) (by unfold Func.isWrapper; first | (rw [if_pos (by decide +kernel)]; kernel_rfl) | (rw [if_neg (by decide +kernel)]; exact ⟨rfl, rfl⟩))
  (fun os started H enc _ => lifted os started H enc)
theorem proved : Rows.CleanBoundSaid := over
#print axioms proved
end Go.Proofs.Ytflndiikeoflfaa.cleanBound
namespace Go.Proofs.Ytflndiikeoflfaa
theorem cleanBound_holds : Rows.CleanBoundSaid := cleanBound.proved
end Go.Proofs.Ytflndiikeoflfaa
end
