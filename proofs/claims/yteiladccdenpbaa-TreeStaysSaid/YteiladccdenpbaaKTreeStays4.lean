/- Texts of this claim's proof put together: PTrB, F91, HWork, HOwn, HChg, PHeap1, PStays, F19, F56, HShown7, HHeapHolds, HRef5, HTreeStays, HRow, LawTreeStays. -/
import Derived.Below
import Derived.Deep.Draws
import Derived.Deep.AppendLies
import Derived.Maps.AppendAt
import Derived.OwnWalk
import Derived.Laws.BytesArg
import Derived.Laws.MakeOwn
import Derived.Laws.OwnMore
import Derived.Deep.OwnRows
import Derived.Tactics
import Derived.Lib.ConvBytes
import Derived.Laws.Slices
import Derived.WalkKit
import Derived.KernelRfl
import Derived.RowKit3
import Derived.Deep.LoopGhost
import Derived.Deep.QuietTactic
import Derived.BigQuiet
import Derived.WideLaws
import Derived.Deep.DeepCutAuto
import Derived.Deep.CutBlock
import Derived.Deep.RegionHeld3
import Derived.Laws.Rows
import Derived.Lib.AppendStr
import Derived.ArgAppend
import Derived.Laws.IdiomCopy
import Derived.RowKit
import Derived.OrdersHeld
import Derived.Laws.BitsLemmas
import Derived.Laws.StructEq
import Derived.Test.YteiladccdenpbaaProg
import Derived.Shelf.RegionOpenPlain
import Derived.Shelf.Abstract
import Derived.RangeFuncNested
import Derived.RangeFuncBound
import Derived.RangeFuncCalls
import Derived.RangeFuncLeaves
import Derived.Shelf.RegionOpen
import Derived.OwnWalkIn
import Derived.TacticsInMore
import Derived.LoopNIn
import Derived.LoopIn
import Derived.Laws.EntriesVeiled
import Derived.RangeFuncBox
import Derived.Laws.CopyOwn
import Derived.Lib.SlBuf
import Derived.ChangeArms
import Derived.DataReads
import Derived.DataElems
import Derived.SizedLaws
import Derived.Test.YteiladccdenpbaaRows
import Derived.ProofKit
import Derived.OpenShut
import Derived.ShutString
import Derived.ChangeOld
import Derived.Test.YteiladccdenpbaaKTreeStays0
import Derived.Test.YteiladccdenpbaaKTreeStays1
import Derived.Test.YteiladccdenpbaaKTreeStays2
import Derived.Test.YteiladccdenpbaaKTreeStays3
namespace Foot
end Foot
namespace Go.Proofs.Yteiladccdenpbaa
end Go.Proofs.Yteiladccdenpbaa
namespace Go.Proofs.Yteiladccdenpbaa.P
end Go.Proofs.Yteiladccdenpbaa.P
namespace Go.Proofs.Yteiladccdenpbaa.treeStays
end Go.Proofs.Yteiladccdenpbaa.treeStays
namespace Go.Proofs.YteiladccdenpbaaW.PrintLast
end Go.Proofs.YteiladccdenpbaaW.PrintLast
namespace Go.Proofs.YteiladccdenpbaaW.PrintMore
end Go.Proofs.YteiladccdenpbaaW.PrintMore
namespace Go.Proofs.YteiladccdenpbaaW.PrintWords
end Go.Proofs.YteiladccdenpbaaW.PrintWords
namespace Kd
end Kd
section
namespace Go.Proofs.Yteiladccdenpbaa.P
open Go.RowKit Go.Proofs.YteiladccdenpbaaW.PrintWords Go.Proofs.YteiladccdenpbaaW.PrintLast Go.Proofs.YteiladccdenpbaaW.PrintMore
set_option linter.unusedVariables false
set_option linter.unusedSimpArgs false
def Pre (l : List S55) (it : List S49) (c j : Nat) : Prop := ∀ i, i < j → Tr l c (vAt it i) ∧ lo l (vAt it i) = kAt it i ∧ (i + 1 < j → Hi l c (vAt it i) < kAt it (i + 1))
theorem Pre.snoc {l : List S55} {it : List S49} {c j : Nat} (h : Pre l it c j) (t : Tr l c (vAt it j)) (k : lo l (vAt it j) = kAt it j) (g : 0 < j → Hi l c (vAt it (j - 1)) < kAt it j) : Pre l it c (j + 1) := fun i hi => by
  by_cases e : i = j
  · subst e; exact ⟨t, k, fun h => by omega⟩
  · refine ⟨(h i (by omega)).1, (h i (by omega)).2.1, fun h2 => ?_⟩
    by_cases e2 : i + 1 = j
    · have := g (by omega)
      rw [show j - 1 = i by omega] at this
      rw [e2]
      exact this
    · exact (h i (by omega)).2.2 (by omega)
theorem pre_tr {l : List S55} {p : Int} (h0 : 0 ≤ p) (h1 : p < (l.length : Int)) (hr : 0 < Rf l p) (hl : Lf l p = false) {c : Nat} (hc : 1 ≤ c) : Tr l (c + 1) p ↔ Pre l (It l p) c (It l p).length := by
  obtain ⟨c, rfl⟩ : ∃ m, c = m + 1 := ⟨c - 1, by omega⟩
  exact ⟨fun t i hi => t.2.2.2.2 i hi, fun h => ⟨h0, h1, hr, hl, fun i hi => h i hi⟩⟩
abbrev BS (l : List S55) (p : Int) (m : Nat) (r : Int × Int × Int × Bool) : Prop :=
  (r.2.2.2 = true → ∃ h, h ≤ m ∧ Tr l h p ∧ r.1 = lo l p ∧ r.2.1 = Hi l h p ∧ r.2.2.1 = (h : Int)) ∧ (r.2.2.2 = false → ∀ h, h ≤ m → ¬ Tr l h p)
abbrev BL (l : List S55) (it : List S49) (m : Nat) (r : Int × Int × Int × Bool) : Prop :=
  (r.2.2.2 = true → ∃ c, 1 ≤ c ∧ c ≤ m ∧ Pre l it c it.length ∧ r.1 = kAt it 0 ∧ r.2.1 = Hi l c (vAt it (it.length - 1)) ∧ r.2.2.1 = (c : Int) + 1) ∧ (r.2.2.2 = false → ∀ c, c ≤ m → ¬ Pre l it c it.length)
theorem below_loop {l : List S55} {kp : Int} (H : HR l) (it : List S49) (lf : Bool) (hl0 : 0 < it.length) (hl : it.length ≤ 1000) (m : Nat) (hm : m ≤ 1000)
    (hF : ∀ i, i < it.length → ∀ k, 10 * m + 10 ≤ k → ∃ r, assartref07_below.f k l kp (vAt it i) (m : Int) = some r ∧ BS l (vAt it i) m r) :
    ∀ (d k j : Nat) (a b c : Int) (is : Bool), j + d = it.length → 10 * m + 10 + 2 * d + 1 ≤ k →
      (0 < j → ∃ h : Nat, 1 ≤ h ∧ h ≤ m ∧ Pre l it h j ∧ a = kAt it 0 ∧ b = Hi l h (vAt it (j - 1)) ∧ c = (h : Int) + 1) →
      ∃ r, assartref07_below.l0 k ((m + 1 : Nat) : Int) (j : Int) l kp lf it a b c is = some r ∧ BL l it m r := by
  intro d
  induction d with
  | zero =>
    intro k j a b c is hj hk hI
    obtain ⟨k, rfl⟩ : ∃ m, k = m + 1 := ⟨k - 1, by omega⟩
    obtain rfl : j = it.length := by omega
    simp only [assartref07_below.l0]
    rw [if_neg (by omega)]
    exact ⟨_, rfl, fun _ => hI hl0, fun h => by cases h⟩
  | succ d ih =>
    intro k j a b c is hj hk hI
    obtain ⟨k, rfl⟩ : ∃ m, k = m + 2 := ⟨k - 2, by omega⟩
    obtain ⟨x, hx, hs⟩ := hF j (by omega) (k + 1) (by omega)
    simp only [assartref07_below.l0]
    have hw : wrap64 (((m + 1 : Nat) : Int) - 1) = (m : Int) := by unfold wrap64; omega
    rw [if_pos (by omega), if_pos (by omega), hw, show (rd_T49 it (j : Nat)).f1 = vAt it j from rfl, show (rd_T49 it (j : Nat)).f0 = kAt it j from rfl, hx, Option.bind_some]
    have no : ∀ r : Int × Int × Int × Bool, r = (0, 0, 0, false) → (∀ c, c ≤ m → Pre l it c it.length → False) → ∃ r', (some r : Option (Int × Int × Int × Bool)) = some r' ∧ BL l it m r' :=
      fun r e h => ⟨r, rfl, fun hh => (by rw [e] at hh; cases hh), fun _ c hc hp => h c hc hp⟩
    by_cases h1 : x.2.2.2 = true
    · rw [if_pos h1]
      obtain ⟨h, hhm, ht, hlo, hhi, hhg⟩ := hs.1 h1
      have hh1 := ht.pos
      by_cases h2 : x.1 = kAt it j
      · rw [if_pos h2]
        by_cases h3 : (j : Int) > 0
        · obtain ⟨c', c1, c2, hp, rfl, rfl, rfl⟩ := hI (by omega)
          rw [if_pos h3]
          by_cases h4 : Hi l c' (vAt it (j - 1)) ≥ x.1
          · rw [if_pos h4]
            simp only [assartref07_below.j1]
            rw [if_pos trivial]
            refine no _ rfl fun c hc hq => ?_
            have e := tr_uniq H (hp (j - 1) (by omega)).1 (hq (j - 1) (by omega)).1
            subst e
            have := (hq (j - 1) (by omega)).2.2 (by omega)
            rw [show j - 1 + 1 = j by omega] at this
            omega
          · rw [if_neg h4]
            have hw2 : wrap64 (x.2.2.1 + 1) = (h : Int) + 1 := by rw [hhg]; unfold wrap64; omega
            rw [hw2]
            by_cases h5 : c' = h
            · subst h5
              simp only [assartref07_below.j1]
              rw [if_neg (by simp), if_neg (by omega), wsucc j (by omega)]
              exact ih k (j + 1) _ _ _ _ (by omega) (by omega) (fun _ => ⟨c', c1, c2, hp.snoc ht (by rw [← hlo, h2]) (fun _ => by omega), rfl, by rw [hhi]; rfl, rfl⟩)
            · simp only [assartref07_below.j1]
              rw [if_pos (by rw [bne_iff_ne]; omega)]
              refine no _ rfl fun c hc hq => ?_
              have e := tr_uniq H (hp (j - 1) (by omega)).1 (hq (j - 1) (by omega)).1
              have e2 := tr_uniq H ht (hq j (by omega)).1
              omega
        · obtain rfl : j = 0 := by omega
          rw [if_neg h3]
          simp only [assartref07_below.j1]
          have hw2 : wrap64 (x.2.2.1 + 1) = (h : Int) + 1 := by rw [hhg]; unfold wrap64; omega
          rw [if_neg (by simp), if_pos (show ((0 : Nat) : Int) = 0 from rfl), wsucc 0 (by omega), hw2]
          exact ih k (0 + 1) _ _ _ _ (by omega) (by omega) (fun _ => ⟨h, hh1, hhm, Pre.snoc (fun i hi => by omega) ht (by rw [← hlo, h2]) (fun h => by omega), h2, hhi, rfl⟩)
      · rw [if_neg h2]
        simp only [assartref07_below.j1]
        rw [if_pos trivial]
        refine no _ rfl fun c hc hq => ?_
        have := (hq j (by omega)).2.1
        omega
    · rw [if_neg h1]
      simp only [assartref07_below.j1]
      rw [if_pos trivial]
      rw [Bool.not_eq_true] at h1
      exact no _ rfl fun c hc hq => hs.2 h1 c hc (hq j (by omega)).1
theorem below_val {l : List S55} {kp : Int} (H : HR l) : ∀ (m k : Nat) (p : Int), m ≤ 1000 → 0 ≤ p → p < (l.length : Int) → 10 * m + 10 ≤ k → ∃ r, assartref07_below.f k l kp p (m : Int) = some r ∧ BS l p m r := by
  intro m
  induction m with
  | zero =>
    intro k p hm h0 h1 hk
    obtain ⟨k, rfl⟩ : ∃ m, k = m + 1 := ⟨k - 1, by omega⟩
    have none : ∀ h, h ≤ 0 → ¬ Tr l h p := fun h hh t => by have := t.pos; omega
    simp only [assartref07_below.f]
    rw [if_pos h0, if_pos h1]
    by_cases hr : Rf l p < 1
    · rw [if_pos hr]
      exact ⟨_, rfl, fun h => (by cases h), fun _ => none⟩
    · rw [if_neg hr]
      have hn := H.rn h0 h1 (by omega)
      have := hn.1
      have := hn.2.1
      by_cases hl : (rd_T55 l p).f2.f0 = true
      · have hw : wrap64 (((rd_T55 l p).f2.f1.length : Int) - 1) = (((It l p).length - 1 : Nat) : Int) := by
          show wrap64 (((It l p).length : Int) - 1) = _
          unfold wrap64; omega
        rw [if_pos hl, if_pos (show (0 : Int) < ((It l p).length : Int) by omega), hw, if_pos (by omega), if_pos (show (((It l p).length - 1 : Nat) : Int) < ((It l p).length : Int) by omega)]
        exact ⟨_, rfl, fun h => by simp at h, fun _ => none⟩
      · rw [if_neg hl, if_pos (by omega)]
        exact ⟨_, rfl, fun h => (by cases h), fun _ => none⟩
  | succ m ih =>
    intro k p hm h0 h1 hk
    obtain ⟨k, rfl⟩ : ∃ m, k = m + 1 := ⟨k - 1, by omega⟩
    simp only [assartref07_below.f]
    rw [if_pos h0, if_pos h1]
    by_cases hr : Rf l p < 1
    · rw [if_pos hr]
      exact ⟨_, rfl, fun h => (by cases h), fun _ h _ t => (by have := t.base.2.2; omega)⟩
    · rw [if_neg hr]
      have hn := H.rn h0 h1 (by omega)
      have := hn.1
      have := hn.2.1
      by_cases hl : (rd_T55 l p).f2.f0 = true
      · have hw : wrap64 (((rd_T55 l p).f2.f1.length : Int) - 1) = (((It l p).length - 1 : Nat) : Int) := by
          show wrap64 (((It l p).length : Int) - 1) = _
          unfold wrap64; omega
        rw [if_pos hl, if_pos (show (0 : Int) < ((It l p).length : Int) by omega), hw, if_pos (by omega), if_pos (show (((It l p).length - 1 : Nat) : Int) < ((It l p).length : Int) by omega)]
        refine ⟨_, rfl, fun _ => ⟨1, by omega, ⟨h0, h1, by omega, hl⟩, rfl, rfl, rfl⟩, fun h => ?_⟩
        have := of_decide_eq_false h
        omega
      · rw [if_neg hl]
        rw [Bool.not_eq_true] at hl
        have hlf : Lf l p = false := hl
        by_cases hm1 : m = 0
        · subst hm1
          rw [if_pos (by omega)]
          refine ⟨_, rfl, fun h => (by cases h), fun _ h hh t => ?_⟩
          have a := t.leaf
          rw [hlf] at a
          have := t.pos
          have := of_decide_eq_false a.symm
          omega
        · rw [if_neg (by omega)]
          obtain ⟨r, hr', hs⟩ := below_loop (kp := kp) H (It l p) (Lf l p) (by omega) (by omega) m (by omega) (fun i hi k hk => by
            have := H.ch h0 h1 (by omega) hlf hi
            exact ih k _ (by omega) this.1 this.2 hk) _ k 0 0 0 0 false (Nat.zero_add _) (by omega) (fun h => by omega)
          refine ⟨r, hr', fun h => ?_, fun h h' hh t => ?_⟩
          · obtain ⟨c, c1, c2, hp, e1, e2, e3⟩ := hs.1 h
            refine ⟨c + 1, by omega, (pre_tr h0 h1 (by omega) hlf c1).2 hp, e1, ?_, by rw [e3]; rfl⟩
            obtain ⟨c, rfl⟩ : ∃ m, c = m + 1 := ⟨c - 1, by omega⟩
            exact e2
          · have a := t.leaf
            rw [hlf] at a
            have a := of_decide_eq_false a.symm
            have := t.pos
            obtain ⟨c, rfl⟩ : ∃ c, h' = c + 1 := ⟨h' - 1, by omega⟩
            exact hs.2 h c (by omega) ((pre_tr h0 h1 (by omega) hlf (by omega)).1 t)
def RightP (l : List S55) (root : Int) : Prop := root = -1 ∨ ∃ h, h ≤ 20 ∧ Tr l h root
theorem refRight_val {l : List S55} {kp : Int} (H : HR l) (root : Int) {k : Nat} (hk : 300 ≤ k) : ∃ b, assartref07_Right.f k l kp root = some b ∧ (b = true ↔ RightP l root) := by
  unfold assartref07_Right.f assartref05_Used.f
  by_cases h : root = -1
  · rw [if_pos h]
    exact ⟨true, rfl, fun _ => .inl h, fun _ => rfl⟩
  · rw [if_neg h]
    have none : (root < 0 ∨ (l.length : Int) ≤ root ∨ Rf l root ≤ 0) → ¬ RightP l root := by
      rintro hh (e | ⟨c, _, t⟩)
      · exact h e
      · have := t.base; omega
    by_cases h0 : root ≥ 0
    · rw [if_pos h0]
      by_cases h1 : root < (l.length : Int)
      · rw [if_pos h1, if_pos h0, Option.bind_some]
        by_cases h2 : (rd_T55 l root).f0 > 0
        · rw [if_pos (decide_eq_true h2)]
          obtain ⟨r, hr, hs⟩ := below_val (kp := kp) H 20 k root (by omega) h0 h1 (by omega)
          rw [show ((20 : Nat) : Int) = 20 from rfl] at hr
          rw [hr, Option.bind_some]
          refine ⟨_, rfl, fun hb => ?_, fun hb => ?_⟩
          · obtain ⟨c, hc, t, _⟩ := hs.1 hb
            exact .inr ⟨c, hc, t⟩
          · rcases hb with hb | ⟨c, hc, t⟩
            · exact absurd hb h
            · cases hb : r.2.2.2 with
              | true => rfl
              | false => exact absurd t (hs.2 hb c hc)
        · rw [if_neg (by simpa using h2)]
          exact ⟨_, rfl, fun h => (by cases h), fun hb => absurd hb (none (by simp only [Rf]; omega))⟩
      · rw [if_neg h1, Option.bind_some, if_neg (by simp)]
        exact ⟨_, rfl, fun h => (by cases h), fun hb => absurd hb (none (by omega))⟩
    · rw [if_neg h0, Option.bind_some, if_neg (by simp)]
      exact ⟨_, rfl, fun h => (by cases h), fun hb => absurd hb (none (by omega))⟩
abbrev WS (l : List S55) (p : Int) (c : Nat) (r : Int × Int × Bool) : Prop := (r.2.2 = true ↔ Tr l c p) ∧ (r.2.2 = true → r.1 = lo l p ∧ r.2.1 = Hi l c p)
theorem whole_loop {l : List S55} {kp : Int} (H : HR l) (it : List S49) (hl0 : 0 < it.length) (hl : it.length ≤ 1000) (c : Nat) (hc : 1 ≤ c) (hm : c ≤ 1000)
    (hF : ∀ i, i < it.length → ∀ k, 8 * c + 8 ≤ k → ∃ r, tree_whole.f k l kp (vAt it i) (c : Int) = some r ∧ WS l (vAt it i) c r) :
    ∀ (d k j : Nat) (a b : Int), j + d = it.length → 8 * c + 8 + d + 1 ≤ k → Pre l it c j → (0 < j → b = Hi l c (vAt it (j - 1))) →
      ∃ r, tree_whole.l0 k ((c + 1 : Nat) : Int) it (it.length : Int) (j : Int) l kp a b = some r ∧ (r.2.2 = true ↔ Pre l it c it.length) ∧ (r.2.2 = true → r.1 = a ∧ r.2.1 = Hi l c (vAt it (it.length - 1))) := by
  intro d
  induction d with
  | zero =>
    intro k j a b hj hk hp hb
    obtain ⟨k, rfl⟩ : ∃ m, k = m + 1 := ⟨k - 1, by omega⟩
    obtain rfl : j = it.length := by omega
    simp only [tree_whole.l0]
    rw [if_neg (by omega)]
    exact ⟨_, rfl, ⟨fun _ => hp, fun _ => rfl⟩, fun _ => ⟨rfl, hb hl0⟩⟩
  | succ d ih =>
    intro k j a b hj hk hp hb
    obtain ⟨k, rfl⟩ : ∃ m, k = m + 1 := ⟨k - 1, by omega⟩
    obtain ⟨x, hx, hs1, hs2⟩ := hF j (by omega) k (by omega)
    simp only [tree_whole.l0]
    have hw : wrap64 (((c + 1 : Nat) : Int) - 1) = (c : Int) := by unfold wrap64; omega
    rw [if_pos (by omega), if_pos (by omega), if_pos (by omega), hw, show (rd_T49 it (j : Nat)).f1 = vAt it j from rfl, show (rd_T49 it (j : Nat)).f0 = kAt it j from rfl, hx, Option.bind_some, wsucc j (by omega)]
    have no : ∀ u v : Int, (Pre l it c it.length → False) → ∃ r, some (u, v, false) = some r ∧ (r.2.2 = true ↔ Pre l it c it.length) ∧ (r.2.2 = true → r.1 = a ∧ r.2.1 = Hi l c (vAt it (it.length - 1))) :=
      fun u v h => ⟨_, rfl, ⟨fun h => (by cases h), fun hh => (h hh).elim⟩, fun h => by cases h⟩
    by_cases h1 : x.2.2 = true
    · rw [if_pos h1]
      have ht := hs1.1 h1
      obtain ⟨hlo, hhi⟩ := hs2 h1
      by_cases h2 : x.1 = kAt it j
      · rw [if_pos h2]
        by_cases h3 : (j : Int) > 0
        · rw [if_pos h3]
          have hb := hb (by omega)
          by_cases h4 : b ≥ kAt it j
          · rw [if_pos h4]
            refine no _ _ fun hq => ?_
            have := (hq (j - 1) (by omega)).2.2 (by omega)
            rw [show j - 1 + 1 = j by omega] at this
            omega
          · rw [if_neg h4]
            exact ih k (j + 1) _ _ (by omega) (by omega) (hp.snoc ht (by rw [← hlo, h2]) (fun _ => by omega)) (fun _ => by rw [hhi]; rfl)
        · rw [if_neg h3]
          exact ih k (j + 1) _ _ (by omega) (by omega) (hp.snoc ht (by rw [← hlo, h2]) (fun h => by omega)) (fun _ => by rw [hhi]; rfl)
      · rw [if_neg h2]
        refine no _ _ fun hq => ?_
        have := (hq j (by omega)).2.1
        omega
    · rw [if_neg h1]
      exact no _ _ fun hq => h1 (hs1.2 (hq j (by omega)).1)
theorem whole_val {l : List S55} {kp : Int} (H : HR l) : ∀ (c k : Nat) (p : Int), 1 ≤ c → c ≤ 1000 → 0 ≤ p → p < (l.length : Int) → 8 * c + 8 ≤ k → ∃ r, tree_whole.f k l kp p (c : Int) = some r ∧ WS l p c r := by
  intro c
  induction c with
  | zero => intro k p h; omega
  | succ c ih =>
    intro k p _ hc h0 h1 hk
    obtain ⟨k, rfl⟩ : ∃ m, k = m + 2 := ⟨k - 2, by omega⟩
    have no : ∀ u v : Int, ¬ Tr l (c + 1) p → ∃ r, some (u, v, false) = some r ∧ WS l p (c + 1) r :=
      fun u v h => ⟨_, rfl, ⟨fun h => (by cases h), fun hh => (h hh).elim⟩, fun h => by cases h⟩
    simp only [tree_whole.f]
    rw [if_pos h0, if_pos h1]
    have hrf := (H.rf h0 h1).1
    by_cases hr : (rd_T55 l p).f0 = 0
    · rw [if_pos hr]
      exact no _ _ fun t => by have := t.base.2.2; simp only [Rf] at this; omega
    · rw [if_neg hr]
      have hr : 0 < Rf l p := by simp only [Rf] at hrf ⊢; omega
      have hn := H.rn h0 h1 hr
      have := hn.1
      have := hn.2.1
      have hw : wrap64 (((rd_T55 l p).f2.f1.length : Int) - 1) = (((It l p).length - 1 : Nat) : Int) := by
        show wrap64 (((It l p).length : Int) - 1) = _
        unfold wrap64; omega
      by_cases hl : (rd_T55 l p).f2.f0 = true
      · rw [if_pos hl]
        simp only [tree_whole.j0]
        rw [if_pos trivial, if_pos (show (0 : Int) < ((It l p).length : Int) by omega), hw, if_pos (by omega), if_pos (show (((It l p).length - 1 : Nat) : Int) < ((It l p).length : Int) by omega), if_pos hl]
        by_cases e : c = 0
        · subst e
          exact ⟨_, rfl, ⟨fun _ => ⟨h0, h1, hr, hl⟩, fun _ => rfl⟩, fun _ => ⟨rfl, rfl⟩⟩
        · rw [show (((c + 1 : Nat) : Int) == 1) = false from beq_eq_false_iff_ne.2 (by omega)]
          refine no _ _ fun t => ?_
          have a := t.leaf
          simp only [Lf] at a
          rw [hl] at a
          have := of_decide_eq_true a.symm
          omega
      · rw [if_neg hl]
        rw [Bool.not_eq_true] at hl
        simp only [tree_whole.j0]
        by_cases e : c = 0
        · subst e
          rw [if_pos (by rfl), if_pos (show (0 : Int) < ((It l p).length : Int) by omega), hw, if_pos (by omega), if_pos (show (((It l p).length - 1 : Nat) : Int) < ((It l p).length : Int) by omega), if_neg (by rw [hl]; simp)]
          refine no _ _ fun t => ?_
          have a := t.leaf
          simp only [Lf] at a
          rw [hl] at a
          cases a
        · rw [if_neg (by rw [beq_iff_eq]; omega), if_pos (show (0 : Int) < ((It l p).length : Int) by omega)]
          obtain ⟨r, hr', hs1, hs2⟩ := whole_loop (kp := kp) H (It l p) (by omega) (by omega) c (by omega) (by omega) (fun i hi k hk => by
            have := H.ch h0 h1 hr hl hi
            exact ih k _ (by omega) (by omega) this.1 this.2 hk) _ k 0 (kAt (It l p) 0) 0 (Nat.zero_add _) (by omega) (fun i hi => by omega) (fun h => by omega)
          refine ⟨r, hr', hs1.trans (pre_tr h0 h1 hr hl (by omega)).symm, fun h => ⟨(hs2 h).1, ?_⟩⟩
          obtain ⟨c, rfl⟩ : ∃ m, c = m + 1 := ⟨c - 1, by omega⟩
          exact (hs2 h).2
def LD (l : List S55) : Nat → Int → Prop
  | 0, p => Lf l p = true
  | m + 1, p => Lf l p = false ∧ 0 < Rf l (vAt (It l p) 0) ∧ LD l m (vAt (It l p) 0)
theorem tr_ld {l : List S55} (H : HR l) : ∀ (h : Nat) (p : Int), Tr l (h + 1) p → LD l h p := by
  intro h
  induction h with
  | zero => intro p t; exact t.2.2.2
  | succ h ih =>
    intro p t
    have hn := (t.rn H).1
    have t0 := (t.2.2.2.2 0 (by omega)).1
    exact ⟨t.2.2.2.1, t0.base.2.2, ih _ t0⟩
theorem right_l0 {l : List S55} {kp : Int} (H : HR l) (root : Int) (r0 : 0 ≤ root) (r1 : root < (l.length : Int)) : ∀ (d j k : Nat) (p : Int), j + d = 20 → 1 ≤ j → 0 ≤ p → p < (l.length : Int) → 0 < Rf l p → 200 + d ≤ k →
    ∃ r, tree_Right.l0 k root (j : Int) p l kp = some r ∧ (r = true ↔ ∃ m, m ≤ d ∧ LD l m p ∧ Tr l (j + m) root) := by
  intro d
  induction d with
  | zero =>
    intro j k p hj hj1 h0 h1 hr hk
    obtain ⟨k, rfl⟩ : ∃ m, k = m + 1 := ⟨k - 1, by omega⟩
    simp only [tree_Right.l0]
    rw [if_pos h0, if_pos h1]
    by_cases hl : (rd_T55 l p).f2.f0 = true
    · rw [if_pos hl]
      obtain ⟨r, hr', hs, _⟩ := whole_val (kp := kp) H j k root hj1 (by omega) r0 r1 (by omega)
      rw [hr', Option.bind_some]
      refine ⟨_, rfl, hs.trans ⟨fun t => ⟨0, Nat.le_refl _, hl, t⟩, fun ⟨m, hm, _, t⟩ => ?_⟩⟩
      obtain rfl : m = 0 := by omega
      exact t
    · rw [if_neg hl, if_pos (by omega)]
      refine ⟨_, rfl, fun h => (by cases h), fun ⟨m, hm, hd, _⟩ => ?_⟩
      obtain rfl : m = 0 := by omega
      exact absurd hd hl
  | succ d ih =>
    intro j k p hj hj1 h0 h1 hr hk
    obtain ⟨k, rfl⟩ : ∃ m, k = m + 1 := ⟨k - 1, by omega⟩
    have hn := (H.rn h0 h1 hr).1
    simp only [tree_Right.l0]
    rw [if_pos h0, if_pos h1]
    by_cases hl : (rd_T55 l p).f2.f0 = true
    · rw [if_pos hl]
      obtain ⟨r, hr', hs, _⟩ := whole_val (kp := kp) H j k root hj1 (by omega) r0 r1 (by omega)
      rw [hr', Option.bind_some]
      refine ⟨_, rfl, hs.trans ⟨fun t => ⟨0, by omega, hl, t⟩, fun ⟨m, hm, hd, t⟩ => ?_⟩⟩
      match m, hd, t with
      | 0, hd, t => exact t
      | m + 1, hd, t => exact absurd (show Lf l p = true from hl) (by rw [hd.1]; simp)
    · rw [if_neg hl, if_neg (by omega), if_pos (show (0 : Int) < ((It l p).length : Int) by omega)]
      rw [Bool.not_eq_true] at hl
      have hch := H.ch h0 h1 hr hl (show 0 < (It l p).length by omega)
      have hw : wrap64 ((j : Int) + 1) = ((j + 1 : Nat) : Int) := wsucc j (by omega)
      rw [if_pos (show 0 ≤ (rd_T49 (rd_T55 l p).f2.f1 0).f1 from hch.1), if_pos (show (rd_T49 (rd_T55 l p).f2.f1 0).f1 < (l.length : Int) from hch.2), hw]
      have hrf := (H.rf hch.1 hch.2).1
      by_cases h3 : (rd_T55 l (rd_T49 (rd_T55 l p).f2.f1 0).f1).f0 = 0
      · rw [if_pos h3]
        have h3 : Rf l (vAt (It l p) 0) = 0 := h3
        refine ⟨_, rfl, fun h => (by cases h), fun ⟨m, hm, hd, _⟩ => ?_⟩
        match m, hd with
        | 0, hd => exact absurd hd (by show ¬ (rd_T55 l p).f2.f0 = true; rw [hl]; simp)
        | m + 1, hd => have := hd.2.1; omega
      · rw [if_neg h3]
        have h3 : ¬ Rf l (vAt (It l p) 0) = 0 := h3
        obtain ⟨r, hr', hs⟩ := ih (j + 1) k (vAt (It l p) 0) (by omega) (by omega) hch.1 hch.2 (by omega) (by omega)
        refine ⟨r, hr', hs.trans ⟨fun ⟨m, hm, hd, t⟩ => ⟨m + 1, by omega, ⟨hl, by omega, hd⟩, by rw [show j + (m + 1) = j + 1 + m by omega]; exact t⟩, fun ⟨m, hm, hd, t⟩ => ?_⟩⟩
        match m, hd, t with
        | 0, hd, t => exact absurd hd (by show ¬ (rd_T55 l p).f2.f0 = true; rw [hl]; simp)
        | m + 1, hd, t => exact ⟨m, by omega, hd.2.2, by rw [show j + 1 + m = j + (m + 1) by omega]; exact t⟩
theorem right_val {l : List S55} {kp : Int} (H : HR l) (root : Int) {k : Nat} (hk : 300 ≤ k) : ∃ b, tree_Right.f k l kp root = some b ∧ (b = true ↔ RightP l root) := by
  unfold tree_Right.f
  obtain ⟨k, rfl⟩ : ∃ m, k = m + 1 := ⟨k - 1, by omega⟩
  by_cases h : root = -1
  · rw [if_pos h]
    exact ⟨true, rfl, fun _ => .inl h, fun _ => rfl⟩
  · rw [if_neg h]
    simp only [tree_Right.j0]
    have none : (root < 0 ∨ (l.length : Int) ≤ root ∨ Rf l root ≤ 0) → ¬ RightP l root := by
      rintro hh (e | ⟨c, _, t⟩)
      · exact h e
      · have := t.base; omega
    by_cases h0 : root < 0
    · rw [if_pos h0, if_pos trivial]
      exact ⟨_, rfl, fun h => (by cases h), fun hb => absurd hb (none (by omega))⟩
    · rw [if_neg h0]
      by_cases h1 : root ≥ (l.length : Int)
      · rw [if_pos h1, if_pos trivial]
        exact ⟨_, rfl, fun h => (by cases h), fun hb => absurd hb (none (by omega))⟩
      · rw [if_neg h1, if_pos (by omega), if_pos (by omega)]
        have hrf := (H.rf (p := root) (by omega) (by omega)).1
        by_cases h2 : Rf l root = 0
        · rw [if_pos (beq_iff_eq.2 h2)]
          exact ⟨_, rfl, fun h => (by cases h), fun hb => absurd hb (none (by omega))⟩
        · rw [if_neg (by rw [beq_iff_eq]; exact h2)]
          obtain ⟨r, hr, hs⟩ := right_l0 (kp := kp) H root (by omega) (by omega) 19 1 k root (by omega) (by omega) (by omega) (by omega) (by omega) (by omega)
          rw [show ((1 : Nat) : Int) = 1 from rfl] at hr
          refine ⟨r, hr, hs.trans ⟨fun ⟨m, hm, _, t⟩ => .inr ⟨1 + m, by omega, t⟩, fun hb => ?_⟩⟩
          rcases hb with hb | ⟨c, hc, t⟩
          · exact absurd hb h
          · have := t.pos
            obtain ⟨c, rfl⟩ : ∃ m, c = m + 1 := ⟨c - 1, by omega⟩
            exact ⟨c, by omega, tr_ld H c root t, by rw [Nat.add_comm]; exact t⟩
theorem may07_val (l : List S55) (kp root : Int) {k : Nat} (hk : 2020 ≤ k) : ∃ b, assartref07_May.f k l kp root 60 = some b ∧ (b = true → mayH l kp 60 ∧ HR l ∧ RightP l root) := by
  unfold assartref07_May.f
  have := may05_val l kp 60 (by omega) k hk
  rw [show ((60 : Nat) : Int) = 60 from rfl] at this
  rw [this, Option.bind_some]
  by_cases h : mayH l kp 60
  · rw [if_pos (decide_eq_true h)]
    obtain ⟨b, hb, hs⟩ := refRight_val (kp := kp) (HR.of h.2.2) root (k := k) (by omega)
    rw [hb, Option.bind_some]
    exact ⟨b, rfl, fun e => ⟨h, HR.of h.2.2, hs.1 e⟩⟩
  · rw [if_neg (by simpa using h)]
    exact ⟨_, rfl, fun h => by cases h⟩
end Go.Proofs.Yteiladccdenpbaa.P
end
section
namespace Go.Proofs.Yteiladccdenpbaa.P
open Go.RowKit Go.Proofs.YteiladccdenpbaaW.PrintWords Go.Proofs.YteiladccdenpbaaW.PrintLast Go.Proofs.YteiladccdenpbaaW.PrintMore
attribute [local go_sem] max2_int min2_int max_two min_two max_three min_three max_four min_four
set_option linter.unusedVariables false
set_option linter.unusedSimpArgs false
attribute [local go_sem high] eqA49
def api_Item_91.l0 : Nat → List (S49) → List (S49) → Int → Int → Option (Bool)
 | 0, _, _, _, _ => none
 | k + 1, x0, x1, x12, x13 => if x13 < x12 then (if 0 ≤ x13 then (if x13 < (x0.length : Int) then (if x13 < (x1.length : Int) then (if (!(((rd_T49 x0 x13).f0) == ((rd_T49 x1 x13).f0)) || (!(((rd_T49 x0 x13).f1) == ((rd_T49 x1 x13).f1)))) = true then (some false) else (api_Item_91.l0 k x0 x1 x12 (wrap64 (x13 + 1)))) else (none)) else (none)) else (none)) else (some true)
def api_Item_91.f (k : Nat) (l0 : List (S49)) (l1 : List (S49)) : Option (Bool) := if (l0.length : Int) = (l1.length : Int) then (api_Item_91.l0 k l0 l1 (l0.length : Int) 0) else (some false)
theorem api_Item_91.mono_l : ∀ k, (∀ y0 y1 y2 y3, LeO (api_Item_91.l0 k y0 y1 y2 y3) (api_Item_91.l0 (k + 1) y0 y1 y2 y3))
 | 0 => fun _ _ _ _ r h => by simp [api_Item_91.l0] at h
 | k + 1 => by
  have ih0 := api_Item_91.mono_l k
  ·intro y0 y1 y2 y3
   unfold api_Item_91.l0
   repeat' first
   | (with_reducible exact ih0 _ _ _ _)
   | (with_reducible exact LeO.refl _)
   | (with_reducible exact LeO.none _)
   | (with_reducible refine LeO.ite ?_ ?_)
   | (with_reducible refine LeO.bind ?_ (fun _ => ?_))
   | exact ih0 _ _ _ _
   | exact LeO.none _
   | refine LeO.ite ?_ ?_
   | refine LeO.bind ?_ (fun _ => ?_)
theorem api_Item_91.mono : ∀ a0 a1 k, LeO (api_Item_91.f k a0 a1) (api_Item_91.f (k + 1) a0 a1) := by
 intro a0 a1 k
 have ih0 := api_Item_91.mono_l k
 unfold api_Item_91.f
 repeat' first
   | (with_reducible exact ih0 _ _ _ _)
   | (with_reducible exact LeO.refl _)
   | (with_reducible exact LeO.none _)
   | (with_reducible refine LeO.ite ?_ ?_)
   | (with_reducible refine LeO.bind ?_ (fun _ => ?_))
   | exact ih0 _ _ _ _
   | exact LeO.none _
   | refine LeO.ite ?_ ?_
   | refine LeO.bind ?_ (fun _ => ?_)
set_option maxHeartbeats 8000000 in
set_option maxRecDepth 100000 in
theorem api_Item_91.calls (k : Nat) (A0 : Option Addr) (c0 : Nat) (l0 : List (S49)) (A1 : Option Addr) (c1 : Nat) (l1 : List (S49)) (r : Bool) (w : World) (hr0 : Kd.C k49 w A0 l0.length l0) (hc0 : l0.length ≤ c0) (hr1 : Kd.C k49 w A1 l1.length l1) (hc1 : l1.length ≤ c1) (h : api_Item_91.f k l0 l1 = some r) :
  Calls Try.prog 91 #[.slice A0 l0.length c0, .slice A1 l1.length c1] w fun e w' => e = .returned (.bool r) ∧ Drawn0 w w' := by
 have hu49 := Try.underlying49
 have HR0 := Aside0.mk hr0
 have HC0 := Aside0.mk hc0
 clear hr0 hc0
 have HR1 := Aside0.mk hr1
 have HC1 := Aside0.mk hc1
 clear hr1 hc1
 have H : (if (l0.length : Int) = (l1.length : Int) then (api_Item_91.l0 k l0 l1 (l0.length : Int) 0) else (some false)) = some r := h
 clear h
 by_cases c3 : (l0.length : Int) = (l1.length : Int)
 ·rw [if_pos c3] at H
  have c3b0 : ((l0.length : Int) == (l1.length : Int)) = true := beq_iff_eq.mpr c3
  have c3b1 : ((l0.length : Int) != (l1.length : Int)) = false := bne_eq_false_iff_eq.mpr c3
  have c3b2 : (l0.length == l1.length) = true := by first | simpa using c3 | (simp at c3 ⊢; omega)
  clear c3
  have H' := Aside0.mk H
  clear H
  go_enter Try.func91, Try.ntmps91
  go_wp2
  repeat (go_quiet (fail); try go_wp2)
  go_loopg [13] k (fun kq v13 w' => ∃ (x13_1 : Int), v13 = .int .i64 x13_1 ∧ Aside0 (api_Item_91.l0 kq l0 l1 (l0.length : Int) x13_1 = some r) ∧ Aside0 (kq ≤ k) ∧ Drawn0 w w')
  case atStart => exact ⟨(0), (by first | rfl | (simp; done) | (simp [*]; done)), H', ⟨Nat.le_refl _⟩, by repeat (first | exact Drawn0.refl _ | apply Drawn0.step)⟩
  case round =>
   clear H'
   try clear c1
   try clear p2
   try clear c3
   try clear c3b0
   try clear c3b1
   try clear c3b2
   obtain ⟨x13_1, rfl, HA, HK1, ⟨m1, rfl⟩⟩ := hrel
   cases gk with
   | zero => exact absurd HA.out (by simp [api_Item_91.l0])
   | succ k1 =>
    have H := HA.out
    clear HA
    simp only [api_Item_91.l0] at H
    by_cases c4 : x13_1 < (l0.length : Int)
    ·rw [if_pos c4] at H
     have c4b0 : decide (x13_1 < (l0.length : Int)) = true := decide_eq_true c4
     clear c4
     by_cases c5 : 0 ≤ x13_1
     ·rw [if_pos c5] at H
      have c5b0 : decide (0 ≤ x13_1) = true := decide_eq_true c5
      clear c5
      by_cases c6 : x13_1 < (l0.length : Int)
      ·rw [if_pos c6] at H
       have c6b0 : decide (x13_1 < (l0.length : Int)) = true := decide_eq_true c6
       clear c6
       by_cases c7 : x13_1 < (l1.length : Int)
       ·rw [if_pos c7] at H
        have c7b0 : decide (x13_1 < (l1.length : Int)) = true := decide_eq_true c7
        clear c7
        by_cases c8 : (!(((rd_T49 l0 x13_1).f0) == ((rd_T49 l1 x13_1).f0)) || (!(((rd_T49 l0 x13_1).f1) == ((rd_T49 l1 x13_1).f1)))) = true
        ·rw [if_pos c8] at H
         have c8b0 : (!(((rd_T49 l0 x13_1).f0) == ((rd_T49 l1 x13_1).f0)) || (!(((rd_T49 l0 x13_1).f1) == ((rd_T49 l1 x13_1).f1)))) = true := c8
         clear c8
         obtain rfl := Option.some.inj H
         have p438 : 0 ≤ (x13_1 : Int) := of_decide_eq_true (by first | (with_reducible assumption) | assumption)
         have q438 : x13_1 < (l0.length : Int) := of_decide_eq_true (by first | (with_reducible assumption) | assumption)
         obtain ⟨ad438, e438, hx438_0, hx438_1⟩ := at_T49 HR0.out x13_1 p438 q438
         cases e438
         replace p438 := eq_true p438
         replace q438 := eq_true q438
         have p439 : 0 ≤ (x13_1 : Int) := of_decide_eq_true (by first | (with_reducible assumption) | assumption)
         have q439 : x13_1 < (l1.length : Int) := of_decide_eq_true (by first | (with_reducible assumption) | assumption)
         obtain ⟨ad439, e439, hx439_0, hx439_1⟩ := at_T49 HR1.out x13_1 p439 q439
         cases e439
         replace p439 := eq_true p439
         replace q439 := eq_true q439
         go_wp2
         repeat (go_quiet (fail); try go_wp2)
         go_ret
         exact ⟨by first | rfl | (simp; done) | (simp [*]; done), by repeat (first | exact Drawn0.refl _ | apply Drawn0.step)⟩
        ·rw [if_neg c8] at H
         have c8b0 : (!(((rd_T49 l0 x13_1).f0) == ((rd_T49 l1 x13_1).f0)) || (!(((rd_T49 l0 x13_1).f1) == ((rd_T49 l1 x13_1).f1)))) = false := by simpa using c8
         clear c8
         have H' := Aside0.mk H
         clear H
         have p438 : 0 ≤ (x13_1 : Int) := of_decide_eq_true (by first | (with_reducible assumption) | assumption)
         have q438 : x13_1 < (l0.length : Int) := of_decide_eq_true (by first | (with_reducible assumption) | assumption)
         obtain ⟨ad438, e438, hx438_0, hx438_1⟩ := at_T49 HR0.out x13_1 p438 q438
         cases e438
         replace p438 := eq_true p438
         replace q438 := eq_true q438
         have p439 : 0 ≤ (x13_1 : Int) := of_decide_eq_true (by first | (with_reducible assumption) | assumption)
         have q439 : x13_1 < (l1.length : Int) := of_decide_eq_true (by first | (with_reducible assumption) | assumption)
         obtain ⟨ad439, e439, hx439_0, hx439_1⟩ := at_T49 HR1.out x13_1 p439 q439
         cases e439
         replace p439 := eq_true p439
         replace q439 := eq_true q439
         go_wp2
         repeat (go_quiet (fail); try go_wp2)
         go_roundg k1
         case measure => have := HK1.out; omega
         case rel => exact ⟨(wrap64 (x13_1 + 1)), (by first | rfl | (simp; done) | (simp [*]; done)), H', ⟨by have := HK1.out; omega⟩, by repeat (first | exact Drawn0.refl _ | apply Drawn0.step)⟩
       ·rw [if_neg c7] at H
        exact absurd H (by simp)
      ·rw [if_neg c6] at H
       exact absurd H (by simp)
     ·rw [if_neg c5] at H
      exact absurd H (by simp)
    ·rw [if_neg c4] at H
     have c4b0 : decide (x13_1 < (l0.length : Int)) = false := decide_eq_false c4
     clear c4
     obtain rfl := Option.some.inj H
     go_wp2
     repeat (go_quiet (fail); try go_wp2)
     go_ret
     exact ⟨by first | rfl | (simp; done) | (simp [*]; done), by repeat (first | exact Drawn0.refl _ | apply Drawn0.step)⟩
 ·rw [if_neg c3] at H
  have c3b0 : ((l0.length : Int) == (l1.length : Int)) = false := beq_eq_false_iff_ne.mpr c3
  have c3b1 : ((l0.length : Int) != (l1.length : Int)) = true := bne_iff_ne.mpr c3
  have c3b2 : (l0.length == l1.length) = false := by first | simpa using c3 | (simp at c3 ⊢; omega)
  obtain rfl := Option.some.inj H
  go_enter Try.func91, Try.ntmps91
  go_wp2
  repeat (go_quiet (fail); try go_wp2)
  go_ret
  exact ⟨by first | rfl | (simp; done) | (simp [*]; done), by repeat (first | exact Drawn0.refl _ | apply Drawn0.step)⟩
end Go.Proofs.Yteiladccdenpbaa.P
end
section
namespace Go.Proofs.Yteiladccdenpbaa.P
open Go.RowKit Go.Proofs.YteiladccdenpbaaW.PrintWords Go.Proofs.YteiladccdenpbaaW.PrintLast Go.Proofs.YteiladccdenpbaaW.PrintMore
set_option linter.unusedVariables false
set_option linter.unusedSimpArgs false
def CellAt (w0 : World) (P : Nat → Prop) (W : World) (g o : Nat) (x : S55) : Prop :=
  W.cell? ⟨g, o, none⟩ = some (.int .i64 x.f0) ∧ W.cell? ⟨g, o + 1, none⟩ = some (.bool x.f1) ∧ W.cell? ⟨g, o + 2, none⟩ = some (.bool x.f2.f0) ∧
    ∃ A c, W.cell? ⟨g, o + 3, none⟩ = some (.slice A x.f2.f1.length c) ∧ x.f2.f1.length ≤ c ∧ Kd.F k49 w0 P A x.f2.f1.length x.f2.f1
structure Wk (w0 : World) (P : Nat → Prop) (W : World) (b g : Nat) (l : List S55) (kp : Int) : Prop where
  box : W.heap[b]? = some (.cells #[.slice (some ⟨g, 0, none⟩) l.length l.length, .int .i64 kp] 113 (0, 0))
  blk : ∃ cs, W.heap[g]? = some (.cells cs 55 (0, 0)) ∧ cs.size = l.length * 4
  row : ∀ i : Nat, i < l.length → CellAt w0 P W g (i * 4) (rd_T55 l (i : Nat))
  low : Below w0.heap.size w0 W
  hb : w0.heap.size ≤ b
  hg : w0.heap.size ≤ g
theorem Wk.below {w0 W W' : World} {P : Nat → Prop} {b g : Nat} {l : List S55} {kp : Int} (h : Wk w0 P W b g l kp) (hb : Below W.heap.size W W') : Wk w0 P W' b g l kp := by
  obtain ⟨cs, hc, hs⟩ := h.blk
  have hbg := hb.block g (Array.getElem?_eq_some_iff.1 hc).1
  have hce : ∀ o, W'.cell? ⟨g, o, none⟩ = W.cell? ⟨g, o, none⟩ := fun o => by rw [blk_cell (hbg.trans hc) o, blk_cell hc o]
  refine ⟨(hb.block b (Array.getElem?_eq_some_iff.1 h.box).1).trans h.box, ⟨cs, hbg.trans hc, hs⟩, fun i hi => ?_, h.low.trans (hb.mono h.low.size), h.hb, h.hg⟩
  obtain ⟨a, b', c, A, cc, d, e1, e2⟩ := h.row i hi
  exact ⟨(hce _).trans a, (hce _).trans b', (hce _).trans c, A, cc, (hce _).trans d, e1, e2⟩
end Go.Proofs.Yteiladccdenpbaa.P
end
section
namespace Go.Proofs.Yteiladccdenpbaa.P
open Go.RowKit Go.Proofs.YteiladccdenpbaaW.PrintWords Go.Proofs.YteiladccdenpbaaW.PrintLast Go.Proofs.YteiladccdenpbaaW.PrintMore
set_option linter.unusedVariables false
set_option linter.unusedSimpArgs false
theorem alloc_new (W : World) (o : Obj) : (W.alloc o).heap[W.heap.size]? = some o := by
  show (W.heap.push o)[W.heap.size]? = some o
  simp
theorem add_g (g k : Nat) : (⟨g, 0, none⟩ : Addr).add k = ⟨g, k, none⟩ := by unfold Addr.add; split <;> simp_all
theorem add_sum (a : Addr) (x y : Nat) : (a.add x).add y = a.add (x + y) := by
  unfold Addr.add
  by_cases hx : x = 0 <;> by_cases hy : y = 0 <;> simp [hx, hy, Nat.add_assoc]
end Go.Proofs.Yteiladccdenpbaa.P
end
section
namespace Go.Proofs.Yteiladccdenpbaa.P
open Go.RowKit Go.Proofs.YteiladccdenpbaaW.PrintWords Go.Proofs.YteiladccdenpbaaW.PrintLast Go.Proofs.YteiladccdenpbaaW.PrintMore
set_option linter.unusedVariables false
set_option linter.unusedSimpArgs false
theorem Wk.C {w0 W : World} {P : Nat → Prop} {b g : Nat} {l : List S55} {kp : Int} (h : Wk w0 P W b g l kp) (hl : l.length < 1000000) : Kd.C k55 W (some ⟨g, 0, none⟩) l.length l := by
  refine ⟨rfl, by omega, fun hn => ⟨_, rfl, fun j x hj => ?_⟩⟩
  have hjl : j < l.length := (List.getElem?_eq_some_iff.1 hj).1
  obtain ⟨a, b', c, A, cc, d, e1, e2⟩ := h.row j hjl
  have e : rd_T55 l (j : Nat) = x := by
    simp only [rd_T55, Int.toNat_natCast, List.getD_eq_getElem?_getD, hj, Option.getD_some]
  rw [e] at a b' c d e1 e2
  refine ⟨_, rfl, k55_mk W x e1 (Kd.C_below (Kd.F_now e2) h.low), fun i u hu => ?_⟩
  rw [add_g]
  match i, hu with
  | 0, hu => simp at hu; subst hu; exact a
  | 1, hu => simp at hu; subst hu; exact b'
  | 2, hu => simp at hu; subst hu; exact c
  | 3, hu => simp at hu; subst hu; exact d
  | i + 4, hu => simp at hu
theorem Wk.V {w W : World} {P : Nat → Prop} {b g : Nat} {l : List S55} {kp : Int} (h : Wk w P W b g l kp) (hl : l.length < 1000000) (base : Nat) : Kd.V k55 55 W base (fun k => P k ∨ w.heap.size ≤ k) (.slice (some ⟨g, 0, none⟩) l.length l.length) l := by
  refine Kd.V_mk (Nat.le_refl _) (fun W' hW => ⟨rfl, by omega, fun hn => ⟨_, rfl, fun j x hj => ?_⟩⟩)
  have hjl : j < l.length := (List.getElem?_eq_some_iff.1 hj).1
  obtain ⟨a, b', c, A, cc, d, e1, e2⟩ := h.row j hjl
  obtain ⟨cs, hc, hs⟩ := h.blk
  have hgl := (Array.getElem?_eq_some_iff.1 hc).1
  have hg' : W'.heap[g]? = some (.cells cs 55 (0, 0)) := (hW g (.inr h.hg) hgl).trans hc
  have ce : ∀ o, W'.cell? ⟨g, o, none⟩ = W.cell? ⟨g, o, none⟩ := fun o => by rw [blk_cell hg' o, blk_cell hc o]
  have hi := e2 W' (fun k hk hlt => (hW k (.inl hk) (Nat.lt_of_lt_of_le hlt h.low.size)).trans (h.low.block k hlt))
  have e : rd_T55 l (j : Nat) = x := by
    simp only [rd_T55, Int.toNat_natCast, List.getD_eq_getElem?_getD, hj, Option.getD_some]
  rw [e] at a b' c d e1 hi
  refine ⟨_, rfl, k55_mk W' x e1 hi, fun i u hu => ?_⟩
  rw [add_g, ce]
  match i, hu with
  | 0, hu => simp at hu; subst hu; exact a
  | 1, hu => simp at hu; subst hu; exact b'
  | 2, hu => simp at hu; subst hu; exact c
  | 3, hu => simp at hu; subst hu; exact d
  | i + 4, hu => simp at hu
end Go.Proofs.Yteiladccdenpbaa.P
end
section
namespace Go.Proofs.Yteiladccdenpbaa.P
open Go.RowKit Go.Proofs.YteiladccdenpbaaW.PrintWords Go.Proofs.YteiladccdenpbaaW.PrintLast Go.Proofs.YteiladccdenpbaaW.PrintMore
set_option linter.unusedVariables false
set_option linter.unusedSimpArgs false
instance decS53 : DecidableEq S53 := fun x y =>
  if h : x.f0 = y.f0 ∧ x.f1 = y.f1 then isTrue (by cases x; cases y; simp at h; simp [h]) else isFalse (fun e => h (by rw [e]; exact ⟨rfl, rfl⟩))
instance decS55 : DecidableEq S55 := fun x y =>
  if h : x.f0 = y.f0 ∧ x.f1 = y.f1 ∧ x.f2 = y.f2 then isTrue (by cases x; cases y; simp at h; simp [h]) else isFalse (fun e => h (by rw [e]; exact ⟨rfl, rfl, rfl⟩))
theorem rd55_at {l : List S55} {j : Nat} (h : j < l.length) : rd_T55 l (j : Nat) = l[j] := by
  simp only [rd_T55, Int.toNat_natCast, List.getD_eq_getElem?_getD, List.getElem?_eq_getElem h, Option.getD_some]
theorem wadd (a b : Int) (h0 : 0 ≤ a) (h : a ≤ 1000000000) (h1 : -1000000000 ≤ b) (h2 : b ≤ 1000000000) : wrap64 (a + b) = a + b := by unfold wrap64; omega
end Go.Proofs.Yteiladccdenpbaa.P
end
section
namespace Go.Proofs.Yteiladccdenpbaa.P
open Go.RowKit Go.Proofs.YteiladccdenpbaaW.PrintWords Go.Proofs.YteiladccdenpbaaW.PrintLast Go.Proofs.YteiladccdenpbaaW.PrintMore
set_option linter.unusedVariables false
set_option linter.unusedSimpArgs false
def stayC (b : Int) (x : S55) : S55 := ⟨if 0 < x.f0 then x.f0 + b else x.f0, false, x.f2⟩
def stayL (b : Int) (l : List S55) : List S55 := l.map (stayC b)
theorem stayL_len (b : Int) (l : List S55) : (stayL b l).length = l.length := List.length_map _
theorem rd_stay (b : Int) (l : List S55) (p : Int) : rd_T55 (stayL b l) p = stayC b (rd_T55 l p) := by
  simp only [rd_T55, stayL, List.getD_eq_getElem?_getD, List.getElem?_map]
  cases l[p.toNat]? <;> rfl
theorem f2_stay (b : Int) (l : List S55) (p : Int) : (rd_T55 (stayL b l) p).f2 = (rd_T55 l p).f2 := by rw [rd_stay]; rfl
theorem it_stay (b : Int) (l : List S55) (p : Int) : It (stayL b l) p = It l p := congrArg S53.f1 (f2_stay b l p)
theorem lf_stay (b : Int) (l : List S55) (p : Int) : Lf (stayL b l) p = Lf l p := congrArg S53.f0 (f2_stay b l p)
theorem f0_stay {b : Int} (hb : 0 ≤ b) (l : List S55) (p : Int) (h : 0 < (rd_T55 l p).f0) : 0 < (rd_T55 (stayL b l) p).f0 := by
  rw [rd_stay]
  simp only [stayC]
  rw [if_pos h]
  omega
theorem hi_stay (b : Int) (l : List S55) : ∀ (h : Nat) (p : Int), Hi (stayL b l) h p = Hi l h p
  | 0, _ => rfl
  | 1, p => by simp only [Hi, it_stay]
  | h + 2, p => by simp only [Hi, it_stay, hi_stay b l (h + 1)]
theorem ls_stay (b : Int) (l : List S55) : ∀ (h : Nat) (p : Int), Ls (stayL b l) h p = Ls l h p
  | 0, _ => rfl
  | 1, p => by simp only [Ls, it_stay]
  | h + 2, p => by simp only [Ls, it_stay, ls_stay b l (h + 1)]
theorem tr_stay {b : Int} (hb : 0 ≤ b) (l : List S55) : ∀ (h : Nat) (p : Int), Tr l h p → Tr (stayL b l) h p
  | 0, _, t => t.elim
  | 1, p, t => ⟨t.1, by rw [stayL_len]; exact t.2.1, f0_stay hb l p t.2.2.1, by rw [lf_stay]; exact t.2.2.2⟩
  | h + 2, p, ⟨t0, t1, t2, t3, t4⟩ => by
    refine ⟨t0, by rw [stayL_len]; exact t1, f0_stay hb l p t2, by rw [lf_stay]; exact t3, fun i hi => ?_⟩
    rw [it_stay] at hi ⊢
    obtain ⟨x, y, z⟩ := t4 i hi
    exact ⟨tr_stay hb l (h + 1) _ x, by show kAt (It (stayL b l) _) 0 = _; rw [it_stay]; exact y, fun h2 => by rw [hi_stay]; exact z h2⟩
theorem cell_stay {b : Int} (hb : 0 ≤ b) (hb1 : b ≤ 255) {n : Nat} {x : S55} (h : cellR n x) (hx : x.f0 ≤ 1000000) : cellR n (stayC b x) := by
  rcases h with ⟨h1, h2, h3⟩ | ⟨h1, h2, h3, h4, h5⟩
  · refine .inl ⟨?_, h2, h3⟩
    simp only [stayC]
    rw [if_neg (by omega)]
    exact h1
  · refine .inr ⟨?_, ?_, rfl, h4, h5⟩
    · simp only [stayC]; rw [if_pos h1]; omega
    · simp only [stayC]; rw [if_pos h1]; omega
theorem heap_stay {b kp kg : Int} (hb : 0 ≤ b) (hb1 : b ≤ 255) {l : List S55} (hs : smallF l 0) (h : heapR l kp) (h0 : 0 ≤ kg) (h1 : kg ≤ l.length) : heapR (stayL b l) kg := by
  refine ⟨by rw [stayL_len]; exact h.1, by rw [stayL_len]; exact h.2.1, h0, by rw [stayL_len]; exact h1, fun i hi hj => ?_⟩
  rw [stayL_len] at hi ⊢
  rw [rd_stay]
  exact cell_stay hb hb1 (h.2.2.2.2 i hi hj) (hs i hi hj).2
theorem right_stay {b : Int} (hb : 0 ≤ b) {l : List S55} {root : Int} (h : RightP l root) : RightP (stayL b l) root := by
  rcases h with h | ⟨n, h1, h2⟩
  · exact .inl h
  · exact .inr ⟨n, h1, tr_stay hb l n root h2⟩
theorem stay_says {b kp kg root : Int} (hb : 0 ≤ b) (hb1 : b ≤ 255) {l : List S55} (hm : mayH l kp 60) (H : HR l) (hr : RightP l root) (h0 : 0 ≤ kg) (h1 : kg ≤ l.length) (key : Int) :
    ∃ (r1 r2 hh : Int) (L : List S49), tree_Get.f 10000 l kp root key = some (r1, r2) ∧ tree_Get.f 10000 (stayL b l) kg root key = some (r1, r2) ∧
      assartref05_Right.f 10000 (stayL b l) kg = some true ∧ tree_Right.f 10000 (stayL b l) kg root = some true ∧
      tree_Scan.f l kp root 0 key = some L ∧ tree_Scan.f (stayL b l) kg root 0 key = some L ∧ assartref04_Items.f 10000 L L = some true ∧
      tree_High.f 10000 l kp root = some hh ∧ tree_High.f 10000 (stayL b l) kg root = some hh := by
  have hg := heap_stay hb hb1 (kg := kg) hm.2.1 hm.2.2 h0 h1
  have HG := HR.of hg
  have hrg := right_stay hb hr
  have hR5 : assartref05_Right.f 10000 (stayL b l) kg = some true := by rw [right05_val _ _ 10000 (.inl (by omega)), decide_eq_true hg]
  obtain ⟨q, hq, hqr⟩ := right_val (kp := kg) HG root (k := 10000) (by omega)
  obtain rfl : q = true := hqr.2 hrg
  rcases hr with e | ⟨n, hn, t⟩
  · exact ⟨0, 4, 0, [], get_neg key (by omega) (by omega), get_neg key (by omega) (by omega), hR5, hq, scan_neg _ _ (by omega), scan_neg _ _ (by omega), by rw [items_val _ _ (by simp) _ (by simp)]; rfl, high_neg (by omega) (by omega), high_neg (by omega) (by omega)⟩
  · have tg := tr_stay hb l n root t
    obtain ⟨r, e1, s1⟩ := get_val (kp := kp) H key t (k := 10000) (by omega)
    obtain ⟨r', e2, s2⟩ := get_val (kp := kg) HG key tg (k := 10000) (by omega)
    rw [ls_stay] at s2
    obtain rfl := GetS.uniq (said1 H n root t).pw s1 s2
    have hl := ls_len H t
    have hbl : (between 0 key (Ls l n root)).length ≤ (Ls l n root).length := List.length_filter_le _ _
    refine ⟨r.1, r.2, n, between 0 key (Ls l n root), e1, e2, hR5, hq, scan_val H 0 key t (by omega), ?_, ?_, high_val H t (by omega) (by omega), high_val HG tg (by omega) (by omega)⟩
    · rw [scan_val HG 0 key tg (by omega), ls_stay]
    · rw [items_val _ _ (by omega) _ (by omega)]
      simp
theorem stay_step (b : Int) {l : List S55} {j : Nat} (h : j < l.length) : stayL b (l.take j) ++ [stayC b (rd_T55 l (j : Nat))] = stayL b (l.take (j + 1)) := by
  unfold stayL
  rw [List.take_succ_eq_append_getElem h, List.map_append, rd55_at h]
  rfl
theorem stay_take_len (b : Int) {l : List S55} {j : Nat} (h : j ≤ l.length) : (stayL b (l.take j)).length = j := by
  rw [stayL_len, List.length_take]
  omega
end Go.Proofs.Yteiladccdenpbaa.P
end
section
namespace Go.Proofs.Yteiladccdenpbaa.P
open Go.RowKit Go.Proofs.YteiladccdenpbaaW.PrintWords Go.Proofs.YteiladccdenpbaaW.PrintLast Go.Proofs.YteiladccdenpbaaW.PrintMore
attribute [local go_sem] max2_int min2_int max_two min_two max_three min_three max_four min_four
set_option linter.unusedVariables false
set_option linter.unusedSimpArgs false
def tree_Need.f (a0 : Int) : Option (Int) := some (wrap64 ((wrap64 (2 * a0)) + 1))
set_option maxHeartbeats 8000000 in
set_option maxRecDepth 100000 in
theorem tree_Need.calls (a0 : Int) (r : Int) (w : World) (h : tree_Need.f a0 = some r) :
  Calls Try.prog 19 #[.int .i64 a0] w fun e w' => e = .returned (.int .i64 r) ∧ Drawn0 w w' := by
 have H : (some (wrap64 ((wrap64 (2 * a0)) + 1))) = some r := h
 clear h
 obtain rfl := Option.some.inj H
 go_enter Try.func19, Try.ntmps19
 go_wp2
 go_ret
 exact ⟨by first | rfl | (simp; done) | (simp [*]; done), by repeat (first | exact Drawn0.refl _ | apply Drawn0.step)⟩
end Go.Proofs.Yteiladccdenpbaa.P
end
section
namespace Go.Proofs.Yteiladccdenpbaa.P
open Go.RowKit Go.Proofs.YteiladccdenpbaaW.PrintWords Go.Proofs.YteiladccdenpbaaW.PrintLast Go.Proofs.YteiladccdenpbaaW.PrintMore
attribute [local go_sem] max2_int min2_int max_two min_two max_three min_three max_four min_four
set_option linter.unusedVariables false
set_option linter.unusedSimpArgs false
def assartlaw07_example.f  : Option ((List (S55)) × Int) := some ((([(⟨1, false, (⟨true, (([(⟨1, 7⟩ : S49), (⟨2, 8⟩ : S49)] : List (S49)))⟩ : S53)⟩ : S55), (⟨1, false, (⟨true, (([(⟨5, 9⟩ : S49)] : List (S49)))⟩ : S53)⟩ : S55), (⟨1, false, (⟨false, (([(⟨1, 0⟩ : S49), (⟨5, 1⟩ : S49)] : List (S49)))⟩ : S53)⟩ : S55)] : List (S55))), 0)
set_option maxHeartbeats 8000000 in
set_option maxRecDepth 100000 in
theorem assartlaw07_example.calls  (r1 : List (S55)) (r2 : Int) (w : World) (h : assartlaw07_example.f  = some (r1, r2)) :
  Calls Try.prog 56 #[] w fun e w' => ∃ v0_ : Value, e = .returned (.agg #[v0_, .int .i64 r2]) ∧ Kd.N k55 55 w' w.heap.size (fun k_ => (w.heap.size ≤ k_)) v0_ r1 ∧ Below w.heap.size w w' := by
 have hu24 := Try.underlying24
 have hu49 := Try.underlying49
 have hu53 := Try.underlying53
 have hu55 := Try.underlying55
 have HB := Aside0.mk (Below.refl w.heap.size w)
 have H : (some ((([(⟨1, false, (⟨true, (([(⟨1, 7⟩ : S49), (⟨2, 8⟩ : S49)] : List (S49)))⟩ : S53)⟩ : S55), (⟨1, false, (⟨true, (([(⟨5, 9⟩ : S49)] : List (S49)))⟩ : S53)⟩ : S55), (⟨1, false, (⟨false, (([(⟨1, 0⟩ : S49), (⟨5, 1⟩ : S49)] : List (S49)))⟩ : S53)⟩ : S55)] : List (S55))), 0)) = some (r1, r2) := h
 clear h
 obtain ⟨y154, hy154⟩ : ∃ y_ : List (S49), y_ = (([(⟨1, 7⟩ : S49), (⟨2, 8⟩ : S49)] : List (S49))) := ⟨_, rfl⟩
 replace H : (some ((([(⟨1, false, (⟨true, y154⟩ : S53)⟩ : S55), (⟨1, false, (⟨true, (([(⟨5, 9⟩ : S49)] : List (S49)))⟩ : S53)⟩ : S55), (⟨1, false, (⟨false, (([(⟨1, 0⟩ : S49), (⟨5, 1⟩ : S49)] : List (S49)))⟩ : S53)⟩ : S55)] : List (S55))), 0)) = some (r1, r2) := by first | (rw [hy154]; with_reducible exact H) | (have H2_ := (Option.bind_some _ _).symm.trans H; rw [hy154]; with_reducible exact H2_) | (have H2_ := (Option.bind_some _ _).symm.trans H; with_reducible exact H2_) | with_reducible exact H | (rw [hy154]; exact H) | exact H
 have Ny154 := Aside0.mk hy154
 clear hy154
 obtain ⟨y157, hy157⟩ : ∃ y_ : List (S49), y_ = (([(⟨5, 9⟩ : S49)] : List (S49))) := ⟨_, rfl⟩
 replace H : (some ((([(⟨1, false, (⟨true, y154⟩ : S53)⟩ : S55), (⟨1, false, (⟨true, y157⟩ : S53)⟩ : S55), (⟨1, false, (⟨false, (([(⟨1, 0⟩ : S49), (⟨5, 1⟩ : S49)] : List (S49)))⟩ : S53)⟩ : S55)] : List (S55))), 0)) = some (r1, r2) := by first | (rw [hy157]; with_reducible exact H) | (have H2_ := (Option.bind_some _ _).symm.trans H; rw [hy157]; with_reducible exact H2_) | (have H2_ := (Option.bind_some _ _).symm.trans H; with_reducible exact H2_) | with_reducible exact H | (rw [hy157]; exact H) | exact H
 have Ny157 := Aside0.mk hy157
 clear hy157
 obtain ⟨y160, hy160⟩ : ∃ y_ : List (S49), y_ = (([(⟨1, 0⟩ : S49), (⟨5, 1⟩ : S49)] : List (S49))) := ⟨_, rfl⟩
 replace H : (some ((([(⟨1, false, (⟨true, y154⟩ : S53)⟩ : S55), (⟨1, false, (⟨true, y157⟩ : S53)⟩ : S55), (⟨1, false, (⟨false, y160⟩ : S53)⟩ : S55)] : List (S55))), 0)) = some (r1, r2) := by first | (rw [hy160]; with_reducible exact H) | (have H2_ := (Option.bind_some _ _).symm.trans H; rw [hy160]; with_reducible exact H2_) | (have H2_ := (Option.bind_some _ _).symm.trans H; with_reducible exact H2_) | with_reducible exact H | (rw [hy160]; exact H) | exact H
 have Ny160 := Aside0.mk hy160
 clear hy160
 obtain ⟨y163, hy163⟩ : ∃ y_ : List (S55), y_ = (([(⟨1, false, (⟨true, y154⟩ : S53)⟩ : S55), (⟨1, false, (⟨true, y157⟩ : S53)⟩ : S55), (⟨1, false, (⟨false, y160⟩ : S53)⟩ : S55)] : List (S55))) := ⟨_, rfl⟩
 replace H : (some (y163, 0)) = some (r1, r2) := by first | (rw [hy163]; with_reducible exact H) | (have H2_ := (Option.bind_some _ _).symm.trans H; rw [hy163]; with_reducible exact H2_) | (have H2_ := (Option.bind_some _ _).symm.trans H; with_reducible exact H2_) | with_reducible exact H | (rw [hy163]; exact H) | exact H
 have Ny163 := Aside0.mk hy163
 clear hy163
 simp only [Option.some.injEq, Prod.mk.injEq] at H
 obtain ⟨rfl, rfl⟩ := H
 go_enter Try.func56, Try.ntmps56
 go_wp2_with (first | ((with_reducible refine gate_dst (N := 0) rfl ?_); refine box_event ?hg (N := 0) ?hd (cs := #[.slice none 0 0, .int .i64 0]) (t := 24) ?hr ?_; (case hd => rfl); (case hg => rfl); (case hr => first | (go_simp; done) | (go_simp; rfl)); intro gb153 hg w1 hbox hb; have n0_ := Aside0.mk (below_step (by repeat (first | (with_reducible first | exact HB.out | apply below_alloc | apply pw_below_drewN | apply below_drew1) | exact HB.out)) hb); have n1_ := Aside0.mk (hbox); have n2_ := Aside0.mk ((by rw [hg]; exact (below_size (by repeat (first | (with_reducible first | exact HB.out | apply below_alloc | apply pw_below_drewN | apply below_drew1) | exact HB.out))) : w.heap.size ≤ gb153)); have n3_ := Aside0.mk ((by rw [hg]; exact (below_size (by repeat (first | (with_reducible first | exact HB.out | apply below_alloc | apply pw_below_drewN | apply below_drew1) | exact HB.out))) : w.heap.size ≤ gb153)); clear HB; have HB := n0_; have BK153 := n1_; have GW153 := n2_; have GE153 := n3_; clear n0_ n1_ n2_ n3_; clear hb hbox hg) | ((with_reducible refine gate_dst (N := 3) rfl ?_); refine Kd.R_lit k49 _ 49 ?hg (N := 3) ?hd (xs := ([(⟨1, 7⟩ : S49), (⟨2, 8⟩ : S49)] : List (S49))) (inner := [.int .i64 1, .int .i64 7, .int .i64 2, .int .i64 8]) (ok := fun _ => True) (okp := fun _ => True) ?hr ?hp (fun _ hk => hk) trivial (Below.refl _ _) (Nat.le_refl _) (by simp) ?_; (case hd => rfl); (case hg => rfl); (case hr => first | (go_simp; done) | (go_simp; rfl)); (case hp => exact (Reps.c2 (show Kd.M k49 _ _ _ (⟨1, 7⟩ : S49) [.int .i64 1, .int .i64 7] from (k49_mkM _ _ _ (⟨1, 7⟩ : S49) )) (Reps.c2 (show Kd.M k49 _ _ _ (⟨2, 8⟩ : S49) [.int .i64 2, .int .i64 8] from (k49_mkM _ _ _ (⟨2, 8⟩ : S49) )) (Reps.none _ _)))); intro v155 w2 ho3 hb hg_ hnew_; clear hg_ hnew_; (first | rw [← Ny154.out] at ho3 | (simp only [Int.reduceToNat] at ho3; rw [← Ny154.out] at ho3)); have n0_ := Aside0.mk (Kd.R_lower (Kd.R_newM (M := fun k_ => (w.heap.size ≤ k_)) ho3 (below_size (by repeat (first | (with_reducible first | exact HB.out | apply below_alloc | apply pw_below_drewN | apply below_drew1 | refine below_set ?_ GE153.out) | exact HB.out))) (fun k_ h_ => h_)) (below_size (by repeat (first | (with_reducible first | exact HB.out | apply below_alloc | apply pw_below_drewN | apply below_drew1 | refine below_set ?_ GE153.out) | exact HB.out)))); have n1_ := Aside0.mk (blk_below (g := gb153) (o := .cells #[.slice none 0 0, .int .i64 0] 24 (0, 0)) (by (with_reducible repeat (first | refine blk_drewN ?_ _ | refine blk_drew ?_ | refine blk_alloc ?_ _)); exact BK153.out) hb); have n2_ := Aside0.mk (below_step (by repeat (first | (with_reducible first | exact HB.out | apply below_alloc | apply pw_below_drewN | apply below_drew1 | refine below_set ?_ GE153.out) | exact HB.out)) hb); clear BK153; clear HB; have HO156 := n0_; have BK153 := n1_; have HB := n2_; clear n0_ n1_ n2_; clear hb ho3; obtain ⟨Ao4, co4, eo4⟩ := Kd.R_slice HO156.out; subst eo4) | ((with_reducible refine gate_dst (N := 7) rfl ?_); refine Kd.R_lit k49 _ 49 ?hg (N := 7) ?hd (xs := ([(⟨5, 9⟩ : S49)] : List (S49))) (inner := [.int .i64 5, .int .i64 9]) (ok := fun _ => True) (okp := fun _ => True) ?hr ?hp (fun _ hk => hk) trivial (Below.refl _ _) (Nat.le_refl _) (by simp) ?_; (case hd => rfl); (case hg => rfl); (case hr => first | (go_simp; done) | (go_simp; rfl)); (case hp => exact (Reps.c2 (show Kd.M k49 _ _ _ (⟨5, 9⟩ : S49) [.int .i64 5, .int .i64 9] from (k49_mkM _ _ _ (⟨5, 9⟩ : S49) )) (Reps.none _ _))); intro v158 w5 ho6 hb hg_ hnew_; clear hg_ hnew_; (first | rw [← Ny157.out] at ho6 | (simp only [Int.reduceToNat] at ho6; rw [← Ny157.out] at ho6)); have n0_ := Aside0.mk (Kd.R_elder' (by (with_reducible repeat (first | apply Kd.R_alloc | apply Kd.R_drewN | apply Kd.R_drew)); exact HO156.out) (Kd.R_base ho6) hb); have n1_ := Aside0.mk (Kd.R_lower (Kd.R_new' (Kd.R_newM (M := fun k_ => (w.heap.size ≤ k_)) ho6 (below_size (by repeat (first | (with_reducible first | exact HB.out | apply below_alloc | apply pw_below_drewN | apply below_drew1 | refine below_set ?_ GE153.out) | exact HB.out))) (fun k_ h_ => h_)) (Kd.R_lt (by (with_reducible repeat (first | apply Kd.R_alloc | apply Kd.R_drewN | apply Kd.R_drew)); exact HO156.out))) (below_size (by repeat (first | (with_reducible first | exact HB.out | apply below_alloc | apply pw_below_drewN | apply below_drew1 | refine below_set ?_ GE153.out) | exact HB.out)))); have n2_ := Aside0.mk (blk_below (g := gb153) (o := .cells #[.slice none 0 0, .int .i64 0] 24 (0, 0)) (by (with_reducible repeat (first | refine blk_drewN ?_ _ | refine blk_drew ?_ | refine blk_alloc ?_ _)); exact BK153.out) hb); have n3_ := Aside0.mk (below_step (by repeat (first | (with_reducible first | exact HB.out | apply below_alloc | apply pw_below_drewN | apply below_drew1 | refine below_set ?_ GE153.out) | exact HB.out)) hb); clear HO156; clear BK153; clear HB; have HO156 := n0_; have HO159 := n1_; have BK153 := n2_; have HB := n3_; clear n0_ n1_ n2_ n3_; clear hb ho6; obtain ⟨Ao7, co7, eo7⟩ := Kd.R_slice HO159.out; subst eo7) | ((with_reducible refine gate_dst (N := 12) rfl ?_); refine Kd.R_lit k49 _ 49 ?hg (N := 12) ?hd (xs := ([(⟨1, 0⟩ : S49), (⟨5, 1⟩ : S49)] : List (S49))) (inner := [.int .i64 1, .int .i64 0, .int .i64 5, .int .i64 1]) (ok := fun _ => True) (okp := fun _ => True) ?hr ?hp (fun _ hk => hk) trivial (Below.refl _ _) (Nat.le_refl _) (by simp) ?_; (case hd => rfl); (case hg => rfl); (case hr => first | (go_simp; done) | (go_simp; rfl)); (case hp => exact (Reps.c2 (show Kd.M k49 _ _ _ (⟨1, 0⟩ : S49) [.int .i64 1, .int .i64 0] from (k49_mkM _ _ _ (⟨1, 0⟩ : S49) )) (Reps.c2 (show Kd.M k49 _ _ _ (⟨5, 1⟩ : S49) [.int .i64 5, .int .i64 1] from (k49_mkM _ _ _ (⟨5, 1⟩ : S49) )) (Reps.none _ _)))); intro v161 w8 ho9 hb hg_ hnew_; clear hg_ hnew_; (first | rw [← Ny160.out] at ho9 | (simp only [Int.reduceToNat] at ho9; rw [← Ny160.out] at ho9)); have n0_ := Aside0.mk (Kd.R_elder' (by (with_reducible repeat (first | apply Kd.R_alloc | apply Kd.R_drewN | apply Kd.R_drew)); exact HO156.out) (Kd.R_base ho9) hb); have n1_ := Aside0.mk (Kd.R_elder' (by (with_reducible repeat (first | apply Kd.R_alloc | apply Kd.R_drewN | apply Kd.R_drew)); exact HO159.out) (Kd.R_base ho9) hb); have n2_ := Aside0.mk (Kd.R_lower (Kd.R_new' (Kd.R_new' (Kd.R_newM (M := fun k_ => (w.heap.size ≤ k_)) ho9 (below_size (by repeat (first | (with_reducible first | exact HB.out | apply below_alloc | apply pw_below_drewN | apply below_drew1 | refine below_set ?_ GE153.out) | exact HB.out))) (fun k_ h_ => h_)) (Kd.R_lt (by (with_reducible repeat (first | apply Kd.R_alloc | apply Kd.R_drewN | apply Kd.R_drew)); exact HO156.out))) (Kd.R_lt (by (with_reducible repeat (first | apply Kd.R_alloc | apply Kd.R_drewN | apply Kd.R_drew)); exact HO159.out))) (below_size (by repeat (first | (with_reducible first | exact HB.out | apply below_alloc | apply pw_below_drewN | apply below_drew1 | refine below_set ?_ GE153.out) | exact HB.out)))); have n3_ := Aside0.mk (blk_below (g := gb153) (o := .cells #[.slice none 0 0, .int .i64 0] 24 (0, 0)) (by (with_reducible repeat (first | refine blk_drewN ?_ _ | refine blk_drew ?_ | refine blk_alloc ?_ _)); exact BK153.out) hb); have n4_ := Aside0.mk (below_step (by repeat (first | (with_reducible first | exact HB.out | apply below_alloc | apply pw_below_drewN | apply below_drew1 | refine below_set ?_ GE153.out) | exact HB.out)) hb); clear HO156; clear HO159; clear BK153; clear HB; have HO156 := n0_; have HO159 := n1_; have HO162 := n2_; have BK153 := n3_; have HB := n4_; clear n0_ n1_ n2_ n3_ n4_; clear hb ho9; obtain ⟨Ao10, co10, eo10⟩ := Kd.R_slice HO162.out; subst eo10) | ((with_reducible refine gate_dst (N := 15) rfl ?_); refine Kd.N_lit k55 _ 55 ?hg (N' := 15) ?hd (xs := ([(⟨1, false, (⟨true, y154⟩ : S53)⟩ : S55), (⟨1, false, (⟨true, y157⟩ : S53)⟩ : S55), (⟨1, false, (⟨false, y160⟩ : S53)⟩ : S55)] : List (S55))) (inner := [.int .i64 1, .bool false, .bool true, .slice Ao4 y154.length co4, .int .i64 1, .bool false, .bool true, .slice Ao7 y157.length co7, .int .i64 1, .bool false, .bool false, .slice Ao10 y160.length co10]) (ok := (fun k_ => (w.heap.size ≤ k_) ∧ k_ ≠ gb153)) (okp := (fun k_ => (w.heap.size ≤ k_) ∧ k_ ≠ gb153)) ?hr ?hp (fun _ hk => hk) ((show ∀ k_, w8.heap.size ≤ k_ → (fun k_ => (w.heap.size ≤ k_) ∧ k_ ≠ gb153) k_ from fun k_ hk => ⟨(Nat.le_trans (below_size (by repeat (first | (with_reducible first | exact HB.out | apply below_alloc | apply pw_below_drewN | apply below_drew1 | refine below_set ?_ GE153.out) | exact HB.out))) hk), Kd.freshB (g := gb153) (o := .cells #[.slice none 0 0, .int .i64 0] 24 (0, 0)) (by (with_reducible repeat (first | refine blk_drewN ?_ _ | refine blk_drew ?_ | refine blk_alloc ?_ _)); exact BK153.out) k_ hk⟩) _ (Nat.le_refl _)) (Below.refl _ _) (Nat.le_refl _) (by simp) ?_; (case hd => rfl); (case hg => rfl); (case hr => first | (go_simp; done) | (go_simp; rfl)); (case hp => exact (Reps.c4 (show Kd.FK k55 _ _ (⟨1, false, (⟨true, y154⟩ : S53)⟩ : S55) [.int .i64 1, .bool false, .bool true, .slice Ao4 y154.length co4] from (k55_mkF _ _ (⟨1, false, (⟨true, y154⟩ : S53)⟩ : S55) (Kd.R_reads' (Kd.R_mono (ok' := (fun k_ => (w.heap.size ≤ k_) ∧ k_ ≠ gb153)) (Kd.R_types (HO156.out) BK153.out (by decide)) (fun k_ hk => ⟨hk.1.1.1.1, hk.2⟩))).2.1 (Kd.R_F (Kd.R_mono (ok' := (fun k_ => (w.heap.size ≤ k_) ∧ k_ ≠ gb153)) (Kd.R_types (HO156.out) BK153.out (by decide)) (fun k_ hk => ⟨hk.1.1.1.1, hk.2⟩))))) (Reps.c4 (show Kd.FK k55 _ _ (⟨1, false, (⟨true, y157⟩ : S53)⟩ : S55) [.int .i64 1, .bool false, .bool true, .slice Ao7 y157.length co7] from (k55_mkF _ _ (⟨1, false, (⟨true, y157⟩ : S53)⟩ : S55) (Kd.R_reads' (Kd.R_mono (ok' := (fun k_ => (w.heap.size ≤ k_) ∧ k_ ≠ gb153)) (Kd.R_types (HO159.out) BK153.out (by decide)) (fun k_ hk => ⟨hk.1.1.1.1, hk.2⟩))).2.1 (Kd.R_F (Kd.R_mono (ok' := (fun k_ => (w.heap.size ≤ k_) ∧ k_ ≠ gb153)) (Kd.R_types (HO159.out) BK153.out (by decide)) (fun k_ hk => ⟨hk.1.1.1.1, hk.2⟩))))) (Reps.c4 (show Kd.FK k55 _ _ (⟨1, false, (⟨false, y160⟩ : S53)⟩ : S55) [.int .i64 1, .bool false, .bool false, .slice Ao10 y160.length co10] from (k55_mkF _ _ (⟨1, false, (⟨false, y160⟩ : S53)⟩ : S55) (Kd.R_reads' (Kd.R_mono (ok' := (fun k_ => (w.heap.size ≤ k_) ∧ k_ ≠ gb153)) (Kd.R_types (HO162.out) BK153.out (by decide)) (fun k_ hk => ⟨hk.1.1.1.1, hk.2⟩))).2.1 (Kd.R_F (Kd.R_mono (ok' := (fun k_ => (w.heap.size ≤ k_) ∧ k_ ≠ gb153)) (Kd.R_types (HO162.out) BK153.out (by decide)) (fun k_ hk => ⟨hk.1.1.1.1, hk.2⟩))))) (Reps.none _ _))))); intro v164 w11 ho12 hb hg_ hnew_; clear hg_ hnew_; (first | rw [← Ny163.out] at ho12 | (simp only [Int.reduceToNat] at ho12; rw [← Ny163.out] at ho12)); have n0_ := Aside0.mk (Kd.N_lower ho12 (below_size (by repeat (first | (with_reducible first | exact HB.out | apply below_alloc | apply pw_below_drewN | apply below_drew1 | refine below_set ?_ GE153.out) | exact HB.out)))); have n1_ := Aside0.mk (blk_below (g := gb153) (o := .cells #[.slice none 0 0, .int .i64 0] 24 (0, 0)) (by (with_reducible repeat (first | refine blk_drewN ?_ _ | refine blk_drew ?_ | refine blk_alloc ?_ _)); exact BK153.out) hb); have n2_ := Aside0.mk (below_step (by repeat (first | (with_reducible first | exact HB.out | apply below_alloc | apply pw_below_drewN | apply below_drew1 | refine below_set ?_ GE153.out) | exact HB.out)) hb); clear BK153; clear HB; clear HO156; clear HO159; clear HO162; have HO165 := n0_; have BK153 := n1_; have HB := n2_; clear n0_ n1_ n2_; clear hb ho12; obtain ⟨Ao13, co13, eo13⟩ := Kd.N_slice HO165.out; subst eo13; have hcz14_0 : w11.cell? ⟨gb153, 0, none⟩ = some (.slice none 0 0) := (blk_cell BK153.out 0).trans rfl; have hcz14_1 : w11.cell? ⟨gb153, 1, none⟩ = some (.int .i64 0) := (blk_cell BK153.out 1).trans rfl; have hfz14_0 := blk_frozen BK153.out 0; have hfz14_1 := blk_frozen BK153.out 1))
 refine bodyPost_ret (results_cell_row rfl _ _ gb153 24 #[.slice Ao13 y163.length co13, .int .i64 0] (0, 0) _ rfl (by (with_reducible repeat (first | refine blk_drewN ?_ _ | refine blk_drew ?_ | refine blk_alloc ?_ _)); refine blk_put (cs := #[.slice Ao13 y163.length co13, .int .i64 0]) ?_ 1 _ rfl; (with_reducible repeat (first | refine blk_drewN ?_ _ | refine blk_drew ?_ | refine blk_alloc ?_ _)); refine blk_put (cs := #[.slice none 0 0, .int .i64 0]) ?_ 0 _ rfl; (with_reducible repeat (first | refine blk_drewN ?_ _ | refine blk_drew ?_ | refine blk_alloc ?_ _)); exact BK153.out) Try.underlying24 rfl (by kernel_rfl)) rfl ?_
 exact ⟨_, by first | rfl | (simp [errW_none, errW_some] <;> rfl) | (simp [*, errW_none, errW_some] <;> rfl), by (with_reducible repeat (first | apply Kd.N_alloc | apply Kd.N_drewN | apply Kd.N_drew)); exact Kd.N_mono (Kd.N_far (p := ⟨gb153, 1, none⟩) (Kd.N_far (p := ⟨gb153, 0, none⟩) (Kd.N_mono HO165.out (fun k_ hk => (⟨hk, hk.2⟩ : _ ∧ k_ ≠ gb153))) (fun _ hk => hk.2) (.slice Ao13 y163.length co13)) (fun _ hk => hk.2) (.int .i64 0)) (fun _ hk => hk.1.1), by repeat (first | (with_reducible first | exact HB.out | apply below_alloc | apply pw_below_drewN | apply below_drew1 | refine below_set ?_ GE153.out) | exact HB.out)⟩
end Go.Proofs.Yteiladccdenpbaa.P
end
section
namespace Go.Proofs.Yteiladccdenpbaa.P
open Go.RowKit Go.Proofs.YteiladccdenpbaaW.PrintWords Go.Proofs.YteiladccdenpbaaW.PrintLast Go.Proofs.YteiladccdenpbaaW.PrintMore
attribute [local go_sem] max2_int min2_int max_two min_two max_three min_three max_four min_four
set_option linter.unusedVariables false
set_option linter.unusedSimpArgs false
def assartlaw07_shown.g (k : Nat)  : Option (Bool) := (assartlaw07_example.f).bind fun bt166 => ((tree_Get.f k bt166.1 bt166.2 2 5).bind fun bt171 => ((tree_Get.f k bt166.1 bt166.2 2 3).bind fun bt173 => ((tree_Scan.f bt166.1 bt166.2 2 2 6).bind fun t175 => (if bt171.2 = 0 then (if bt171.1 = 9 then (if bt173.2 = 4 then (if (t175.length : Int) = 2 then (if 0 < (t175.length : Int) then (if ((rd_T49 t175 0).f0) = 2 then (if 1 < (t175.length : Int) then (if ((rd_T49 t175 1).f0) = 5 then ((tree_High.f k bt166.1 bt166.2 2).bind fun t180 => (if t180 = 2 then ((tree_Need.f 2).bind fun t181 => (if t181 = 5 then ((tree_Nodes.f k bt166.1 bt166.2 2).bind fun t182 => ((assartref07_Ints.f k t182 (([2, 0, 1] : List Int))).bind fun t188 => (if t188 = true then ((tree_Right.f k bt166.1 bt166.2 2).bind fun t189 => (if t189 = true then ((tree_Right.f k bt166.1 bt166.2 (-1)).bind fun t190 => (if t190 = true then ((tree_Right.f k bt166.1 bt166.2 3).bind fun t191 => (some (!t191))) else (some false))) else (some false))) else (some false)))) else (some false))) else (some false))) else (some false)) else (none)) else (some false)) else (none)) else (some false)) else (some false)) else (some false)) else (some false)))))
set_option maxHeartbeats 8000000 in
set_option maxRecDepth 100000 in
theorem assartlaw07_shown.walk (k : Nat)  (r : Bool) (w : World) (h : assartlaw07_shown.g k  = some r) (hr : r = true) :
    Calls Try.prog 15 #[] w fun e w' => e = .returned (.bool r) ∧ Below w.heap.size w w' := by
  have hu24 := Try.underlying24
  have HB := Aside0.mk (Below.refl w.heap.size w)
  have H : ((assartlaw07_example.f).bind fun bt166 => ((tree_Get.f k bt166.1 bt166.2 2 5).bind fun bt171 => ((tree_Get.f k bt166.1 bt166.2 2 3).bind fun bt173 => ((tree_Scan.f bt166.1 bt166.2 2 2 6).bind fun t175 => (if bt171.2 = 0 then (if bt171.1 = 9 then (if bt173.2 = 4 then (if (t175.length : Int) = 2 then (if 0 < (t175.length : Int) then (if ((rd_T49 t175 0).f0) = 2 then (if 1 < (t175.length : Int) then (if ((rd_T49 t175 1).f0) = 5 then ((tree_High.f k bt166.1 bt166.2 2).bind fun t180 => (if t180 = 2 then ((tree_Need.f 2).bind fun t181 => (if t181 = 5 then ((tree_Nodes.f k bt166.1 bt166.2 2).bind fun t182 => ((assartref07_Ints.f k t182 (([2, 0, 1] : List Int))).bind fun t188 => (if t188 = true then ((tree_Right.f k bt166.1 bt166.2 2).bind fun t189 => (if t189 = true then ((tree_Right.f k bt166.1 bt166.2 (-1)).bind fun t190 => (if t190 = true then ((tree_Right.f k bt166.1 bt166.2 3).bind fun t191 => (some (!t191))) else (some false))) else (some false))) else (some false)))) else (some false))) else (some false))) else (some false)) else (none)) else (some false)) else (none)) else (some false)) else (some false)) else (some false)) else (some false)))))) = some r := h
  clear h
  replace H := Option.bind_eq_some_iff.mp H
  obtain ⟨⟨t166, t169⟩, A10, H⟩ := H
  replace H : ((tree_Get.f k t166 t169 2 5).bind fun bt171 => ((tree_Get.f k t166 t169 2 3).bind fun bt173 => ((tree_Scan.f t166 t169 2 2 6).bind fun t175 => (if bt171.2 = 0 then (if bt171.1 = 9 then (if bt173.2 = 4 then (if (t175.length : Int) = 2 then (if 0 < (t175.length : Int) then (if ((rd_T49 t175 0).f0) = 2 then (if 1 < (t175.length : Int) then (if ((rd_T49 t175 1).f0) = 5 then ((tree_High.f k t166 t169 2).bind fun t180 => (if t180 = 2 then ((tree_Need.f 2).bind fun t181 => (if t181 = 5 then ((tree_Nodes.f k t166 t169 2).bind fun t182 => ((assartref07_Ints.f k t182 (([2, 0, 1] : List Int))).bind fun t188 => (if t188 = true then ((tree_Right.f k t166 t169 2).bind fun t189 => (if t189 = true then ((tree_Right.f k t166 t169 (-1)).bind fun t190 => (if t190 = true then ((tree_Right.f k t166 t169 3).bind fun t191 => (some (!t191))) else (some false))) else (some false))) else (some false)))) else (some false))) else (some false))) else (some false)) else (none)) else (some false)) else (none)) else (some false)) else (some false)) else (some false)) else (some false))))) = some r := H
  have A1 := Aside0.mk A10
  clear A10
  replace H := Option.bind_eq_some_iff.mp H
  obtain ⟨⟨t171, t172⟩, A20, H⟩ := H
  replace H : ((tree_Get.f k t166 t169 2 3).bind fun bt173 => ((tree_Scan.f t166 t169 2 2 6).bind fun t175 => (if t172 = 0 then (if t171 = 9 then (if bt173.2 = 4 then (if (t175.length : Int) = 2 then (if 0 < (t175.length : Int) then (if ((rd_T49 t175 0).f0) = 2 then (if 1 < (t175.length : Int) then (if ((rd_T49 t175 1).f0) = 5 then ((tree_High.f k t166 t169 2).bind fun t180 => (if t180 = 2 then ((tree_Need.f 2).bind fun t181 => (if t181 = 5 then ((tree_Nodes.f k t166 t169 2).bind fun t182 => ((assartref07_Ints.f k t182 (([2, 0, 1] : List Int))).bind fun t188 => (if t188 = true then ((tree_Right.f k t166 t169 2).bind fun t189 => (if t189 = true then ((tree_Right.f k t166 t169 (-1)).bind fun t190 => (if t190 = true then ((tree_Right.f k t166 t169 3).bind fun t191 => (some (!t191))) else (some false))) else (some false))) else (some false)))) else (some false))) else (some false))) else (some false)) else (none)) else (some false)) else (none)) else (some false)) else (some false)) else (some false)) else (some false)))) = some r := H
  have A2 := Aside0.mk A20
  clear A20
  replace H := Option.bind_eq_some_iff.mp H
  obtain ⟨⟨t173, t174⟩, A30, H⟩ := H
  replace H : ((tree_Scan.f t166 t169 2 2 6).bind fun t175 => (if t172 = 0 then (if t171 = 9 then (if t174 = 4 then (if (t175.length : Int) = 2 then (if 0 < (t175.length : Int) then (if ((rd_T49 t175 0).f0) = 2 then (if 1 < (t175.length : Int) then (if ((rd_T49 t175 1).f0) = 5 then ((tree_High.f k t166 t169 2).bind fun t180 => (if t180 = 2 then ((tree_Need.f 2).bind fun t181 => (if t181 = 5 then ((tree_Nodes.f k t166 t169 2).bind fun t182 => ((assartref07_Ints.f k t182 (([2, 0, 1] : List Int))).bind fun t188 => (if t188 = true then ((tree_Right.f k t166 t169 2).bind fun t189 => (if t189 = true then ((tree_Right.f k t166 t169 (-1)).bind fun t190 => (if t190 = true then ((tree_Right.f k t166 t169 3).bind fun t191 => (some (!t191))) else (some false))) else (some false))) else (some false)))) else (some false))) else (some false))) else (some false)) else (none)) else (some false)) else (none)) else (some false)) else (some false)) else (some false)) else (some false))) = some r := H
  have A3 := Aside0.mk A30
  clear A30
  replace H := Option.bind_eq_some_iff.mp H
  obtain ⟨t175, A40, H⟩ := H
  replace H : (if t172 = 0 then (if t171 = 9 then (if t174 = 4 then (if (t175.length : Int) = 2 then (if 0 < (t175.length : Int) then (if ((rd_T49 t175 0).f0) = 2 then (if 1 < (t175.length : Int) then (if ((rd_T49 t175 1).f0) = 5 then ((tree_High.f k t166 t169 2).bind fun t180 => (if t180 = 2 then ((tree_Need.f 2).bind fun t181 => (if t181 = 5 then ((tree_Nodes.f k t166 t169 2).bind fun t182 => ((assartref07_Ints.f k t182 (([2, 0, 1] : List Int))).bind fun t188 => (if t188 = true then ((tree_Right.f k t166 t169 2).bind fun t189 => (if t189 = true then ((tree_Right.f k t166 t169 (-1)).bind fun t190 => (if t190 = true then ((tree_Right.f k t166 t169 3).bind fun t191 => (some (!t191))) else (some false))) else (some false))) else (some false)))) else (some false))) else (some false))) else (some false)) else (none)) else (some false)) else (none)) else (some false)) else (some false)) else (some false)) else (some false)) = some r := H
  have A4 := Aside0.mk A40
  clear A40
  by_cases c5 : t172 = 0
  · rw [if_pos c5] at H
    have c5b0 : (t172 == 0) = true := beq_iff_eq.mpr c5
    have c5b1 : (t172 != 0) = false := bne_eq_false_iff_eq.mpr c5
    clear c5
    by_cases c6 : t171 = 9
    · rw [if_pos c6] at H
      have c6b0 : (t171 == 9) = true := beq_iff_eq.mpr c6
      have c6b1 : (t171 != 9) = false := bne_eq_false_iff_eq.mpr c6
      clear c6
      by_cases c7 : t174 = 4
      · rw [if_pos c7] at H
        have c7b0 : (t174 == 4) = true := beq_iff_eq.mpr c7
        have c7b1 : (t174 != 4) = false := bne_eq_false_iff_eq.mpr c7
        clear c7
        by_cases c8 : (t175.length : Int) = 2
        · rw [if_pos c8] at H
          have c8b0 : ((t175.length : Int) == 2) = true := beq_iff_eq.mpr c8
          have c8b1 : ((t175.length : Int) != 2) = false := bne_eq_false_iff_eq.mpr c8
          clear c8
          by_cases c9 : 0 < (t175.length : Int)
          · rw [if_pos c9] at H
            have c9b0 : decide (0 < (t175.length : Int)) = true := decide_eq_true c9
            have c9b1 : decide (0 < t175.length) = true := decide_eq_true (by omega)
            clear c9
            by_cases c10 : ((rd_T49 t175 0).f0) = 2
            · rw [if_pos c10] at H
              have c10b0 : (((rd_T49 t175 0).f0) == 2) = true := beq_iff_eq.mpr c10
              have c10b1 : (((rd_T49 t175 0).f0) != 2) = false := bne_eq_false_iff_eq.mpr c10
              clear c10
              by_cases c11 : 1 < (t175.length : Int)
              · rw [if_pos c11] at H
                have c11b0 : decide (1 < (t175.length : Int)) = true := decide_eq_true c11
                have c11b1 : decide (1 < t175.length) = true := decide_eq_true (by omega)
                clear c11
                by_cases c12 : ((rd_T49 t175 1).f0) = 5
                · rw [if_pos c12] at H
                  have c12b0 : (((rd_T49 t175 1).f0) == 5) = true := beq_iff_eq.mpr c12
                  have c12b1 : (((rd_T49 t175 1).f0) != 5) = false := bne_eq_false_iff_eq.mpr c12
                  clear c12
                  replace H := Option.bind_eq_some_iff.mp H
                  obtain ⟨t180, A130, H⟩ := H
                  replace H : (if t180 = 2 then ((tree_Need.f 2).bind fun t181 => (if t181 = 5 then ((tree_Nodes.f k t166 t169 2).bind fun t182 => ((assartref07_Ints.f k t182 (([2, 0, 1] : List Int))).bind fun t188 => (if t188 = true then ((tree_Right.f k t166 t169 2).bind fun t189 => (if t189 = true then ((tree_Right.f k t166 t169 (-1)).bind fun t190 => (if t190 = true then ((tree_Right.f k t166 t169 3).bind fun t191 => (some (!t191))) else (some false))) else (some false))) else (some false)))) else (some false))) else (some false)) = some r := H
                  have A13 := Aside0.mk A130
                  clear A130
                  by_cases c14 : t180 = 2
                  · rw [if_pos c14] at H
                    have c14b0 : (t180 == 2) = true := beq_iff_eq.mpr c14
                    have c14b1 : (t180 != 2) = false := bne_eq_false_iff_eq.mpr c14
                    clear c14
                    replace H := Option.bind_eq_some_iff.mp H
                    obtain ⟨t181, A150, H⟩ := H
                    replace H : (if t181 = 5 then ((tree_Nodes.f k t166 t169 2).bind fun t182 => ((assartref07_Ints.f k t182 (([2, 0, 1] : List Int))).bind fun t188 => (if t188 = true then ((tree_Right.f k t166 t169 2).bind fun t189 => (if t189 = true then ((tree_Right.f k t166 t169 (-1)).bind fun t190 => (if t190 = true then ((tree_Right.f k t166 t169 3).bind fun t191 => (some (!t191))) else (some false))) else (some false))) else (some false)))) else (some false)) = some r := H
                    have A15 := Aside0.mk A150
                    clear A150
                    by_cases c16 : t181 = 5
                    · rw [if_pos c16] at H
                      have c16b0 : (t181 == 5) = true := beq_iff_eq.mpr c16
                      have c16b1 : (t181 != 5) = false := bne_eq_false_iff_eq.mpr c16
                      clear c16
                      replace H := Option.bind_eq_some_iff.mp H
                      obtain ⟨t182, A170, H⟩ := H
                      replace H : ((assartref07_Ints.f k t182 (([2, 0, 1] : List Int))).bind fun t188 => (if t188 = true then ((tree_Right.f k t166 t169 2).bind fun t189 => (if t189 = true then ((tree_Right.f k t166 t169 (-1)).bind fun t190 => (if t190 = true then ((tree_Right.f k t166 t169 3).bind fun t191 => (some (!t191))) else (some false))) else (some false))) else (some false))) = some r := H
                      have A17 := Aside0.mk A170
                      clear A170
                      obtain ⟨y185, hy185⟩ : ∃ y_ : List Int, y_ = (([2, 0, 1] : List Int)) := ⟨_, rfl⟩
                      replace H : ((assartref07_Ints.f k t182 y185).bind fun t188 => (if t188 = true then ((tree_Right.f k t166 t169 2).bind fun t189 => (if t189 = true then ((tree_Right.f k t166 t169 (-1)).bind fun t190 => (if t190 = true then ((tree_Right.f k t166 t169 3).bind fun t191 => (some (!t191))) else (some false))) else (some false))) else (some false))) = some r := by first | (rw [hy185]; with_reducible exact H) | (have H2_ := (Option.bind_some _ _).symm.trans H; rw [hy185]; with_reducible exact H2_) | (have H2_ := (Option.bind_some _ _).symm.trans H; with_reducible exact H2_) | with_reducible exact H | (rw [hy185]; exact H) | exact H
                      have Ny185 := Aside0.mk hy185
                      clear hy185
                      replace H := Option.bind_eq_some_iff.mp H
                      obtain ⟨t188, A180, H⟩ := H
                      replace H : (if t188 = true then ((tree_Right.f k t166 t169 2).bind fun t189 => (if t189 = true then ((tree_Right.f k t166 t169 (-1)).bind fun t190 => (if t190 = true then ((tree_Right.f k t166 t169 3).bind fun t191 => (some (!t191))) else (some false))) else (some false))) else (some false)) = some r := H
                      have A18 := Aside0.mk A180
                      clear A180
                      by_cases c19 : t188 = true
                      · subst c19
                        have H1 : ((tree_Right.f k t166 t169 2).bind fun t189 => (if t189 = true then ((tree_Right.f k t166 t169 (-1)).bind fun t190 => (if t190 = true then ((tree_Right.f k t166 t169 3).bind fun t191 => (some (!t191))) else (some false))) else (some false))) = some r := by rw [if_pos rfl] at H; exact H
                        clear H
                        have H := H1
                        clear H1
                        replace H := Option.bind_eq_some_iff.mp H
                        obtain ⟨t189, A200, H⟩ := H
                        replace H : (if t189 = true then ((tree_Right.f k t166 t169 (-1)).bind fun t190 => (if t190 = true then ((tree_Right.f k t166 t169 3).bind fun t191 => (some (!t191))) else (some false))) else (some false)) = some r := H
                        have A20 := Aside0.mk A200
                        clear A200
                        by_cases c21 : t189 = true
                        · subst c21
                          have H1 : ((tree_Right.f k t166 t169 (-1)).bind fun t190 => (if t190 = true then ((tree_Right.f k t166 t169 3).bind fun t191 => (some (!t191))) else (some false))) = some r := by rw [if_pos rfl] at H; exact H
                          clear H
                          have H := H1
                          clear H1
                          replace H := Option.bind_eq_some_iff.mp H
                          obtain ⟨t190, A220, H⟩ := H
                          replace H : (if t190 = true then ((tree_Right.f k t166 t169 3).bind fun t191 => (some (!t191))) else (some false)) = some r := H
                          have A22 := Aside0.mk A220
                          clear A220
                          by_cases c23 : t190 = true
                          · subst c23
                            have H1 : ((tree_Right.f k t166 t169 3).bind fun t191 => (some (!t191))) = some r := by rw [if_pos rfl] at H; exact H
                            clear H
                            have H := H1
                            clear H1
                            replace H := Option.bind_eq_some_iff.mp H
                            obtain ⟨t191, A240, H⟩ := H
                            replace H : (some (!t191)) = some r := H
                            have A24 := Aside0.mk A240
                            clear A240
                            obtain rfl := Option.some.inj H
                            go_enter Try.func15, Try.ntmps15
                            go_wp2_with (first | ((with_reducible refine gate_callee (f := 56) rfl ?_); refine goesL_ (some 7) rfl rfl Try.func56 (by kernel_rfl) rfl #[] rfl (by (try simp only [List.map_toArray, List.map_cons, List.map_nil]); first | done | rfl | (simp only [List.length_drop, List.length_take]; rfl)) ?_; (with_reducible refine (assartlaw07_example.calls  t166 t169 _ A1.out).mono ?_); rintro e w25 ⟨v167, rfl, ho0, hb⟩; refine ⟨_, rfl, ?_⟩; have n0_ := Aside0.mk (Kd.N_lower (Kd.N_mono (ok' := fun k_ => True) ho0 (fun k_ hk_ => trivial)) (below_size (by repeat (first | (with_reducible first | exact HB.out | apply below_alloc | apply pw_below_drewN | apply below_drew1) | exact HB.out)))); have n1_ := Aside0.mk (below_step (by repeat (first | (with_reducible first | exact HB.out | apply below_alloc | apply pw_below_drewN | apply below_drew1) | exact HB.out)) hb); clear HB; have HO168 := n0_; have HB := n1_; clear n0_ n1_; (try clear hb); (try clear hb2); (try clear hk); (try clear hi); (try clear ho0)) | ((with_reducible refine gate_dst (N := 1) rfl ?_); (try (refine gate_guard (by rfl) ?_; dsimp only)); refine box_event ?hg (N := 1) ?hd (cs := #[.slice none 0 0, .int .i64 0]) (t := 24) ?hr ?_; (case hd => rfl); (case hg => rfl); (case hr => first | (go_simp; done) | (go_simp; rfl)); intro gb170 hg w26 hbox hb; have n0_ := Aside0.mk (Kd.N_below (Kd.N_elderB (by (with_reducible repeat (first | apply Kd.N_alloc | apply Kd.N_drewN | apply Kd.N_drew)); exact HO168.out) gb170 (Nat.le_of_eq hg.symm)) hb); have n1_ := Aside0.mk (below_step (by repeat (first | (with_reducible first | exact HB.out | apply below_alloc | apply pw_below_drewN | apply below_drew1) | exact HB.out)) hb); have n2_ := Aside0.mk (hbox); have n3_ := Aside0.mk ((by rw [hg]; exact (below_size (by repeat (first | (with_reducible first | exact HB.out | apply below_alloc | apply pw_below_drewN | apply below_drew1) | exact HB.out))) : w.heap.size ≤ gb170)); have n4_ := Aside0.mk ((by rw [hg]; exact (below_size (by repeat (first | (with_reducible first | exact HB.out | apply below_alloc | apply pw_below_drewN | apply below_drew1) | exact HB.out))) : w.heap.size ≤ gb170)); clear HO168; clear HB; have HO168 := n0_; have HB := n1_; have BK170 := n2_; have GW170 := n3_; have GE170 := n4_; clear n0_ n1_ n2_ n3_ n4_; clear hb hbox hg; obtain ⟨Ao27, co27, eo27⟩ := Kd.N_slice HO168.out; subst eo27; have hcz28_0 : w26.cell? ⟨gb170, 0, none⟩ = some (.slice none 0 0) := (blk_cell BK170.out 0).trans rfl; have hcz28_1 : w26.cell? ⟨gb170, 1, none⟩ = some (.int .i64 0) := (blk_cell BK170.out 1).trans rfl; have hfz28_0 := blk_frozen BK170.out 0; have hfz28_1 := blk_frozen BK170.out 1) | ((with_reducible refine gate_callee (f := 27) rfl ?_); refine goesL_ (some 10) rfl rfl Try.func27 (by kernel_rfl) rfl #[.agg #[.slice Ao27 t166.length co27, .int .i64 t169], .int .i64 2, .int .i64 5] rfl (by (try simp only [List.map_toArray, List.map_cons, List.map_nil]); first | done | rfl | (simp only [List.length_drop, List.length_take]; rfl)) ?_; (with_reducible refine (tree_Get.calls k _ _ t166 t169 2 5 t171 t172 _ ?side1 ?side2 A2.out).mono ?_); (case side1 => refine (Kd.N_reads' (e := 55) (base := w.heap.size) (ok := fun k_ => (True ∧ k_ ≠ gb170)) (n := t166.length) (c := co27) ?_).2.2; exact (by (with_reducible repeat (first | apply Kd.N_alloc | apply Kd.N_drewN | apply Kd.N_drew)); exact (Kd.N_mono (Kd.N_far (p := ⟨gb170, 1, none⟩) (Kd.N_far (p := ⟨gb170, 0, none⟩) (Kd.N_mono HO168.out (fun k_ hk => (⟨hk, hk.2⟩ : _ ∧ k_ ≠ gb170))) (fun _ hk => hk.2) (.slice Ao27 t166.length co27)) (fun _ hk => hk.2) (.int .i64 t169)) (fun _ h_ => h_.1)))); (case side2 => exact (Kd.N_reads' HO168.out).2.1); rintro e w29 ⟨rfl, hb⟩; refine ⟨_, rfl, ?_⟩; have n0_ := Aside0.mk (Kd.N_below (by (with_reducible repeat (first | apply Kd.N_alloc | apply Kd.N_drewN | apply Kd.N_drew)); exact (Kd.N_mono (Kd.N_far (p := ⟨gb170, 1, none⟩) (Kd.N_far (p := ⟨gb170, 0, none⟩) (Kd.N_mono HO168.out (fun k_ hk => (⟨hk, hk.2⟩ : _ ∧ k_ ≠ gb170))) (fun _ hk => hk.2) (.slice Ao27 t166.length co27)) (fun _ hk => hk.2) (.int .i64 t169)) (fun _ h_ => h_.1))) hb); have n1_ := Aside0.mk (blk_below (g := gb170) (o := .cells #[.slice Ao27 t166.length co27, .int .i64 t169] 24 (0, 0)) (by (with_reducible repeat (first | refine blk_drewN ?_ _ | refine blk_drew ?_ | refine blk_alloc ?_ _)); refine blk_put (cs := #[.slice Ao27 t166.length co27, .int .i64 0]) ?_ 1 _ rfl; (with_reducible repeat (first | refine blk_drewN ?_ _ | refine blk_drew ?_ | refine blk_alloc ?_ _)); refine blk_put (cs := #[.slice none 0 0, .int .i64 0]) ?_ 0 _ rfl; (with_reducible repeat (first | refine blk_drewN ?_ _ | refine blk_drew ?_ | refine blk_alloc ?_ _)); exact BK170.out) hb); have n2_ := Aside0.mk (below_step (by repeat (first | (with_reducible first | exact HB.out | apply below_alloc | apply pw_below_drewN | apply below_drew1 | refine below_set ?_ GE170.out) | exact HB.out)) hb); clear HO168; clear BK170; clear HB; have HO168 := n0_; have BK170 := n1_; have HB := n2_; clear n0_ n1_ n2_; (try clear hb); (try clear hb2); (try clear hk); (try clear hi); have hcz30_0 : w29.cell? ⟨gb170, 0, none⟩ = some (.slice Ao27 t166.length co27) := (blk_cell BK170.out 0).trans rfl; have hcz30_1 : w29.cell? ⟨gb170, 1, none⟩ = some (.int .i64 t169) := (blk_cell BK170.out 1).trans rfl; have hfz30_0 := blk_frozen BK170.out 0; have hfz30_1 := blk_frozen BK170.out 1) | ((with_reducible refine gate_callee (f := 27) rfl ?_); refine goesL_ (some 15) rfl rfl Try.func27 (by kernel_rfl) rfl #[.agg #[.slice Ao27 t166.length co27, .int .i64 t169], .int .i64 2, .int .i64 3] rfl (by (try simp only [List.map_toArray, List.map_cons, List.map_nil]); first | done | rfl | (simp only [List.length_drop, List.length_take]; rfl)) ?_; (with_reducible refine (tree_Get.calls k _ _ t166 t169 2 3 t173 t174 _ ?side1 ?side2 A3.out).mono ?_); (case side1 => repeat (first | exact (Kd.N_reads' HO168.out).2.2 | (with_reducible refine Kd.C_alloc ?_ _) | (with_reducible refine Kd.C_drewN ?_ _) | (with_reducible refine Kd.C_drew ?_))); (case side2 => exact (Kd.N_reads' HO168.out).2.1); rintro e w31 ⟨rfl, hb⟩; refine ⟨_, rfl, ?_⟩; have n0_ := Aside0.mk (Kd.N_below (by (with_reducible repeat (first | apply Kd.N_alloc | apply Kd.N_drewN | apply Kd.N_drew)); exact HO168.out) hb); have n1_ := Aside0.mk (blk_below (g := gb170) (o := .cells #[.slice Ao27 t166.length co27, .int .i64 t169] 24 (0, 0)) (by (with_reducible repeat (first | refine blk_drewN ?_ _ | refine blk_drew ?_ | refine blk_alloc ?_ _)); exact BK170.out) hb); have n2_ := Aside0.mk (below_step (by repeat (first | (with_reducible first | exact HB.out | apply below_alloc | apply pw_below_drewN | apply below_drew1 | refine below_set ?_ GE170.out) | exact HB.out)) hb); clear HO168; clear BK170; clear HB; have HO168 := n0_; have BK170 := n1_; have HB := n2_; clear n0_ n1_ n2_; (try clear hb); (try clear hb2); (try clear hk); (try clear hi); have hcz32_0 : w31.cell? ⟨gb170, 0, none⟩ = some (.slice Ao27 t166.length co27) := (blk_cell BK170.out 0).trans rfl; have hcz32_1 : w31.cell? ⟨gb170, 1, none⟩ = some (.int .i64 t169) := (blk_cell BK170.out 1).trans rfl; have hfz32_0 := blk_frozen BK170.out 0; have hfz32_1 := blk_frozen BK170.out 1) | ((with_reducible refine gate_callee (f := 30) rfl ?_); refine goesL_ (some 19) rfl rfl Try.func30 (by kernel_rfl) rfl #[.agg #[.slice Ao27 t166.length co27, .int .i64 t169], .int .i64 2, .int .i64 2, .int .i64 6] rfl (by (try simp only [List.map_toArray, List.map_cons, List.map_nil]); first | done | rfl | (simp only [List.length_drop, List.length_take]; rfl)) ?_; (with_reducible refine (tree_Scan.calls _ _ t166 t169 2 2 6 t175 _ ?side1 ?side2 A4.out).mono ?_); (case side1 => repeat (first | exact (Kd.N_reads' HO168.out).2.2 | (with_reducible refine Kd.C_alloc ?_ _) | (with_reducible refine Kd.C_drewN ?_ _) | (with_reducible refine Kd.C_drew ?_))); (case side2 => exact (Kd.N_reads' HO168.out).2.1); rintro e w33 ⟨v176, rfl, ho0, hb⟩; refine ⟨_, rfl, ?_⟩; have n0_ := Aside0.mk (Kd.N_elder' (by (with_reducible repeat (first | apply Kd.N_alloc | apply Kd.N_drewN | apply Kd.N_drew)); exact HO168.out) (Kd.R_base ho0) hb); have n1_ := Aside0.mk (Kd.R_lower ho0 (below_size (by repeat (first | (with_reducible first | exact HB.out | apply below_alloc | apply pw_below_drewN | apply below_drew1 | refine below_set ?_ GE170.out) | exact HB.out)))); have n2_ := Aside0.mk (blk_below (g := gb170) (o := .cells #[.slice Ao27 t166.length co27, .int .i64 t169] 24 (0, 0)) (by (with_reducible repeat (first | refine blk_drewN ?_ _ | refine blk_drew ?_ | refine blk_alloc ?_ _)); exact BK170.out) hb); have n3_ := Aside0.mk (below_step (by repeat (first | (with_reducible first | exact HB.out | apply below_alloc | apply pw_below_drewN | apply below_drew1 | refine below_set ?_ GE170.out) | exact HB.out)) hb); clear HO168; clear BK170; clear HB; have HO168 := n0_; have HO177 := n1_; have BK170 := n2_; have HB := n3_; clear n0_ n1_ n2_ n3_; (try clear hb); (try clear hb2); (try clear hk); (try clear hi); (try clear ho0); obtain ⟨Ao34, co34, eo34⟩ := Kd.R_slice HO177.out; subst eo34; have p178 : 0 ≤ (0 : Int) := (by omega); have q178 : 0 < (t175.length : Int) := of_decide_eq_true (by first | (with_reducible assumption) | assumption); obtain ⟨ad178, e178, hx178_0, hx178_1⟩ := at_T49 (Kd.R_reads' HO177.out).2.2 0 p178 q178; cases e178; have qi178 : (0 < t175.length) = True := eq_true (by omega); (try rw [show ((0 : Int)).toNat = 0 from rfl] at hx178_0); (try rw [show 0 * 2 = 0 from rfl] at hx178_0); (try rw [Addr.add_zero'] at hx178_0); (try rw [show ((0 : Int)).toNat = 0 from rfl] at hx178_1); (try rw [show 0 * 2 = 0 from rfl] at hx178_1); (try rw [Addr.add_zero'] at hx178_1); replace p178 := eq_true p178; replace q178 := eq_true q178; have p179 : 0 ≤ (1 : Int) := (by omega); have q179 : 1 < (t175.length : Int) := of_decide_eq_true (by first | (with_reducible assumption) | assumption); obtain ⟨ad179, e179, hx179_0, hx179_1⟩ := at_T49 (Kd.R_reads' HO177.out).2.2 1 p179 q179; obtain rfl : ad178 = ad179 := (by injection e179); (try simp only [show (1 : Int).toNat = 1 from rfl, Nat.reduceMul, Nat.reduceEqDiff, Go.Addr.add, ↓reduceIte] at hx179_0); (try simp only [show (1 : Int).toNat = 1 from rfl, Nat.reduceMul, Nat.reduceEqDiff, Go.Addr.add, ↓reduceIte] at hx179_1); have qi179 : (1 < t175.length) = True := eq_true (by omega); (try rw [show ((1 : Int)).toNat = 1 from rfl] at hx179_0); (try rw [show 1 * 2 = 2 from rfl] at hx179_0); (try rw [show ((1 : Int)).toNat = 1 from rfl] at hx179_1); (try rw [show 1 * 2 = 2 from rfl] at hx179_1); replace p179 := eq_true p179; replace q179 := eq_true q179; have hcz35_0 : w33.cell? ⟨gb170, 0, none⟩ = some (.slice Ao27 t166.length co27) := (blk_cell BK170.out 0).trans rfl; have hcz35_1 : w33.cell? ⟨gb170, 1, none⟩ = some (.int .i64 t169) := (blk_cell BK170.out 1).trans rfl; have hfz35_0 := blk_frozen BK170.out 0; have hfz35_1 := blk_frozen BK170.out 1) | (go_at_call 21; (with_reducible refine (tree_High.calls k _ _ t166 t169 2 t180 _ ?side1 ?side2 A13.out).mono ?_); (case side1 => repeat (first | exact (Kd.N_reads' HO168.out).2.2 | (with_reducible refine Kd.C_alloc ?_ _) | (with_reducible refine Kd.C_drewN ?_ _) | (with_reducible refine Kd.C_drew ?_))); (case side2 => exact (Kd.N_reads' HO168.out).2.1); rintro e w36 ⟨rfl, hb⟩; have n0_ := Aside0.mk (Kd.N_below (by (with_reducible repeat (first | apply Kd.N_alloc | apply Kd.N_drewN | apply Kd.N_drew)); exact HO168.out) hb); have n1_ := Aside0.mk (Kd.R_below (by (with_reducible repeat (first | apply Kd.R_alloc | apply Kd.R_drewN | apply Kd.R_drew)); exact HO177.out) hb); have n2_ := Aside0.mk (blk_below (g := gb170) (o := .cells #[.slice Ao27 t166.length co27, .int .i64 t169] 24 (0, 0)) (by (with_reducible repeat (first | refine blk_drewN ?_ _ | refine blk_drew ?_ | refine blk_alloc ?_ _)); exact BK170.out) hb); have n3_ := Aside0.mk (below_step (by repeat (first | (with_reducible first | exact HB.out | apply below_alloc | apply pw_below_drewN | apply below_drew1 | refine below_set ?_ GE170.out) | exact HB.out)) hb); clear HO168; clear HO177; clear BK170; clear HB; have HO168 := n0_; have HO177 := n1_; have BK170 := n2_; have HB := n3_; clear n0_ n1_ n2_ n3_; (try clear hb); (try clear hb2); (try clear hk); (try clear hi)) | (go_at_call 19; (with_reducible refine (tree_Need.calls 2 t181 _ A15.out).mono ?_); rintro e w' ⟨rfl, ⟨nd, rfl⟩⟩; have hcz37_0 : w36.cell? ⟨gb170, 0, none⟩ = some (.slice Ao27 t166.length co27) := (blk_cell BK170.out 0).trans rfl; have hcz37_1 : w36.cell? ⟨gb170, 1, none⟩ = some (.int .i64 t169) := (blk_cell BK170.out 1).trans rfl; have hfz37_0 := blk_frozen BK170.out 0; have hfz37_1 := blk_frozen BK170.out 1) | (go_at_call 24; (with_reducible refine (tree_Nodes.calls k _ _ t166 t169 2 t182 _ ?side1 ?side2 A17.out).mono ?_); (case side1 => repeat (first | exact (Kd.N_reads' HO168.out).2.2 | (with_reducible refine Kd.C_alloc ?_ _) | (with_reducible refine Kd.C_drewN ?_ _) | (with_reducible refine Kd.C_drew ?_))); (case side2 => exact (Kd.N_reads' HO168.out).2.1); rintro e w38 ⟨v183, rfl, ho0, hb⟩; have n0_ := Aside0.mk (Kd.N_elder' (by (with_reducible repeat (first | apply Kd.N_alloc | apply Kd.N_drewN | apply Kd.N_drew)); exact HO168.out) (Kd.R_base ho0) hb); have n1_ := Aside0.mk (Kd.R_below (by (with_reducible repeat (first | apply Kd.R_alloc | apply Kd.R_drewN | apply Kd.R_drew)); exact HO177.out) hb); have n2_ := Aside0.mk (Kd.R_lower ho0 (below_size (by repeat (first | (with_reducible first | exact HB.out | apply below_alloc | apply pw_below_drewN | apply below_drew1 | refine below_set ?_ GE170.out) | exact HB.out)))); have n3_ := Aside0.mk (blk_below (g := gb170) (o := .cells #[.slice Ao27 t166.length co27, .int .i64 t169] 24 (0, 0)) (by (with_reducible repeat (first | refine blk_drewN ?_ _ | refine blk_drew ?_ | refine blk_alloc ?_ _)); exact BK170.out) hb); have n4_ := Aside0.mk (below_step (by repeat (first | (with_reducible first | exact HB.out | apply below_alloc | apply pw_below_drewN | apply below_drew1 | refine below_set ?_ GE170.out) | exact HB.out)) hb); clear HO168; clear HO177; clear BK170; clear HB; have HO168 := n0_; have HO177 := n1_; have HO184 := n2_; have BK170 := n3_; have HB := n4_; clear n0_ n1_ n2_ n3_ n4_; (try clear hb); (try clear hb2); (try clear hk); (try clear hi); (try clear ho0)) | ((with_reducible refine gate_dst (N := 61) rfl ?_); (try (refine gate_guard (by rfl) ?_; dsimp only)); refine Kd.R_lit (Kd.int .i64) _ 3 ?hg (N := 61) ?hd (xs := ([2, 0, 1] : List Int)) (inner := [.int .i64 2, .int .i64 0, .int .i64 1]) (ok := fun _ => True) (okp := fun _ => True) ?hr ?hp (fun _ hk => hk) trivial (Below.refl _ _) (Nat.le_refl _) (by simp) ?_; (case hd => rfl); (case hg => rfl); (case hr => first | (go_simp; done) | (go_simp; rfl)); (case hp => exact (Reps.one (show Kd.M (Kd.int .i64) _ _ _ 2 [.int .i64 2] from rfl) (Reps.one (show Kd.M (Kd.int .i64) _ _ _ 0 [.int .i64 0] from rfl) (Reps.one (show Kd.M (Kd.int .i64) _ _ _ 1 [.int .i64 1] from rfl) (Reps.none _ _))))); intro v186 w39 ho40 hb hg_ hnew_; clear hg_ hnew_; (first | rw [← Ny185.out] at ho40 | (simp only [Int.reduceToNat] at ho40; rw [← Ny185.out] at ho40)); have n0_ := Aside0.mk (Kd.N_elder' (by (with_reducible repeat (first | apply Kd.N_alloc | apply Kd.N_drewN | apply Kd.N_drew)); exact HO168.out) (Kd.R_base ho40) hb); have n1_ := Aside0.mk (Kd.R_below (by (with_reducible repeat (first | apply Kd.R_alloc | apply Kd.R_drewN | apply Kd.R_drew)); exact HO177.out) hb); have n2_ := Aside0.mk (Kd.R_elder' (by (with_reducible repeat (first | apply Kd.R_alloc | apply Kd.R_drewN | apply Kd.R_drew)); exact HO184.out) (Kd.R_base ho40) hb); have n3_ := Aside0.mk (Kd.R_lower (Kd.R_new' ho40 (Kd.R_lt (by (with_reducible repeat (first | apply Kd.R_alloc | apply Kd.R_drewN | apply Kd.R_drew)); exact HO184.out))) (below_size (by repeat (first | (with_reducible first | exact HB.out | apply below_alloc | apply pw_below_drewN | apply below_drew1 | refine below_set ?_ GE170.out) | exact HB.out)))); have n4_ := Aside0.mk (blk_below (g := gb170) (o := .cells #[.slice Ao27 t166.length co27, .int .i64 t169] 24 (0, 0)) (by (with_reducible repeat (first | refine blk_drewN ?_ _ | refine blk_drew ?_ | refine blk_alloc ?_ _)); exact BK170.out) hb); have n5_ := Aside0.mk (below_step (by repeat (first | (with_reducible first | exact HB.out | apply below_alloc | apply pw_below_drewN | apply below_drew1 | refine below_set ?_ GE170.out) | exact HB.out)) hb); clear HO168; clear HO177; clear HO184; clear BK170; clear HB; have HO168 := n0_; have HO177 := n1_; have HO184 := n2_; have HO187 := n3_; have BK170 := n4_; have HB := n5_; clear n0_ n1_ n2_ n3_ n4_ n5_; clear hb ho40; obtain ⟨Ao41, co41, eo41⟩ := Kd.R_slice HO184.out; subst eo41; obtain ⟨Ao42, co42, eo42⟩ := Kd.R_slice HO187.out; subst eo42) | (go_at_call 23; (with_reducible refine (assartref07_Ints.calls k _ _ t182 _ _ y185 true _ ?side1 ?side2 ?side3 ?side4 A18.out).mono ?_); (case side1 => repeat (first | exact (Kd.R_reads' HO184.out).2.2 | (with_reducible refine Kd.C_alloc ?_ _) | (with_reducible refine Kd.C_drewN ?_ _) | (with_reducible refine Kd.C_drew ?_))); (case side2 => exact (Kd.R_reads' HO184.out).2.1); (case side3 => repeat (first | exact (Kd.R_reads' HO187.out).2.2 | (with_reducible refine Kd.C_alloc ?_ _) | (with_reducible refine Kd.C_drewN ?_ _) | (with_reducible refine Kd.C_drew ?_))); (case side4 => exact (Kd.R_reads' HO187.out).2.1); rintro e w' ⟨rfl, ⟨nd, rfl⟩⟩; have hcz43_0 : w39.cell? ⟨gb170, 0, none⟩ = some (.slice Ao27 t166.length co27) := (blk_cell BK170.out 0).trans rfl; have hcz43_1 : w39.cell? ⟨gb170, 1, none⟩ = some (.int .i64 t169) := (blk_cell BK170.out 1).trans rfl; have hfz43_0 := blk_frozen BK170.out 0; have hfz43_1 := blk_frozen BK170.out 1) | (go_at_call 18; (with_reducible refine (tree_Right.calls k _ _ t166 t169 2 true _ ?side1 ?side2 A20.out).mono ?_); (case side1 => repeat (first | exact (Kd.N_reads' HO168.out).2.2 | (with_reducible refine Kd.C_alloc ?_ _) | (with_reducible refine Kd.C_drewN ?_ _) | (with_reducible refine Kd.C_drew ?_))); (case side2 => exact (Kd.N_reads' HO168.out).2.1); rintro e w44 ⟨rfl, hb⟩; have n0_ := Aside0.mk (Kd.N_below (by (with_reducible repeat (first | apply Kd.N_alloc | apply Kd.N_drewN | apply Kd.N_drew)); exact HO168.out) hb); have n1_ := Aside0.mk (Kd.R_below (by (with_reducible repeat (first | apply Kd.R_alloc | apply Kd.R_drewN | apply Kd.R_drew)); exact HO177.out) hb); have n2_ := Aside0.mk (Kd.R_below (by (with_reducible repeat (first | apply Kd.R_alloc | apply Kd.R_drewN | apply Kd.R_drew)); exact HO184.out) hb); have n3_ := Aside0.mk (Kd.R_below (by (with_reducible repeat (first | apply Kd.R_alloc | apply Kd.R_drewN | apply Kd.R_drew)); exact HO187.out) hb); have n4_ := Aside0.mk (blk_below (g := gb170) (o := .cells #[.slice Ao27 t166.length co27, .int .i64 t169] 24 (0, 0)) (by (with_reducible repeat (first | refine blk_drewN ?_ _ | refine blk_drew ?_ | refine blk_alloc ?_ _)); exact BK170.out) hb); have n5_ := Aside0.mk (below_step (by repeat (first | (with_reducible first | exact HB.out | apply below_alloc | apply pw_below_drewN | apply below_drew1 | refine below_set ?_ GE170.out) | exact HB.out)) hb); clear HO168; clear HO177; clear HO184; clear HO187; clear BK170; clear HB; have HO168 := n0_; have HO177 := n1_; have HO184 := n2_; have HO187 := n3_; have BK170 := n4_; have HB := n5_; clear n0_ n1_ n2_ n3_ n4_ n5_; (try clear hb); (try clear hb2); (try clear hk); (try clear hi); have hcz45_0 : w44.cell? ⟨gb170, 0, none⟩ = some (.slice Ao27 t166.length co27) := (blk_cell BK170.out 0).trans rfl; have hcz45_1 : w44.cell? ⟨gb170, 1, none⟩ = some (.int .i64 t169) := (blk_cell BK170.out 1).trans rfl; have hfz45_0 := blk_frozen BK170.out 0; have hfz45_1 := blk_frozen BK170.out 1) | (go_at_call 18; (with_reducible refine (tree_Right.calls k _ _ t166 t169 (-1) true _ ?side1 ?side2 A22.out).mono ?_); (case side1 => repeat (first | exact (Kd.N_reads' HO168.out).2.2 | (with_reducible refine Kd.C_alloc ?_ _) | (with_reducible refine Kd.C_drewN ?_ _) | (with_reducible refine Kd.C_drew ?_))); (case side2 => exact (Kd.N_reads' HO168.out).2.1); rintro e w46 ⟨rfl, hb⟩; have n0_ := Aside0.mk (Kd.N_below (by (with_reducible repeat (first | apply Kd.N_alloc | apply Kd.N_drewN | apply Kd.N_drew)); exact HO168.out) hb); have n1_ := Aside0.mk (Kd.R_below (by (with_reducible repeat (first | apply Kd.R_alloc | apply Kd.R_drewN | apply Kd.R_drew)); exact HO177.out) hb); have n2_ := Aside0.mk (Kd.R_below (by (with_reducible repeat (first | apply Kd.R_alloc | apply Kd.R_drewN | apply Kd.R_drew)); exact HO184.out) hb); have n3_ := Aside0.mk (Kd.R_below (by (with_reducible repeat (first | apply Kd.R_alloc | apply Kd.R_drewN | apply Kd.R_drew)); exact HO187.out) hb); have n4_ := Aside0.mk (blk_below (g := gb170) (o := .cells #[.slice Ao27 t166.length co27, .int .i64 t169] 24 (0, 0)) (by (with_reducible repeat (first | refine blk_drewN ?_ _ | refine blk_drew ?_ | refine blk_alloc ?_ _)); exact BK170.out) hb); have n5_ := Aside0.mk (below_step (by repeat (first | (with_reducible first | exact HB.out | apply below_alloc | apply pw_below_drewN | apply below_drew1 | refine below_set ?_ GE170.out) | exact HB.out)) hb); clear HO168; clear HO177; clear HO184; clear HO187; clear BK170; clear HB; have HO168 := n0_; have HO177 := n1_; have HO184 := n2_; have HO187 := n3_; have BK170 := n4_; have HB := n5_; clear n0_ n1_ n2_ n3_ n4_ n5_; (try clear hb); (try clear hb2); (try clear hk); (try clear hi); have hcz47_0 : w46.cell? ⟨gb170, 0, none⟩ = some (.slice Ao27 t166.length co27) := (blk_cell BK170.out 0).trans rfl; have hcz47_1 : w46.cell? ⟨gb170, 1, none⟩ = some (.int .i64 t169) := (blk_cell BK170.out 1).trans rfl; have hfz47_0 := blk_frozen BK170.out 0; have hfz47_1 := blk_frozen BK170.out 1) | (go_at_call 18; (with_reducible refine (tree_Right.calls k _ _ t166 t169 3 t191 _ ?side1 ?side2 A24.out).mono ?_); (case side1 => repeat (first | exact (Kd.N_reads' HO168.out).2.2 | (with_reducible refine Kd.C_alloc ?_ _) | (with_reducible refine Kd.C_drewN ?_ _) | (with_reducible refine Kd.C_drew ?_))); (case side2 => exact (Kd.N_reads' HO168.out).2.1); rintro e w48 ⟨rfl, hb⟩; have n0_ := Aside0.mk (Kd.N_below (by (with_reducible repeat (first | apply Kd.N_alloc | apply Kd.N_drewN | apply Kd.N_drew)); exact HO168.out) hb); have n1_ := Aside0.mk (Kd.R_below (by (with_reducible repeat (first | apply Kd.R_alloc | apply Kd.R_drewN | apply Kd.R_drew)); exact HO177.out) hb); have n2_ := Aside0.mk (Kd.R_below (by (with_reducible repeat (first | apply Kd.R_alloc | apply Kd.R_drewN | apply Kd.R_drew)); exact HO184.out) hb); have n3_ := Aside0.mk (Kd.R_below (by (with_reducible repeat (first | apply Kd.R_alloc | apply Kd.R_drewN | apply Kd.R_drew)); exact HO187.out) hb); have n4_ := Aside0.mk (blk_below (g := gb170) (o := .cells #[.slice Ao27 t166.length co27, .int .i64 t169] 24 (0, 0)) (by (with_reducible repeat (first | refine blk_drewN ?_ _ | refine blk_drew ?_ | refine blk_alloc ?_ _)); exact BK170.out) hb); have n5_ := Aside0.mk (below_step (by repeat (first | (with_reducible first | exact HB.out | apply below_alloc | apply pw_below_drewN | apply below_drew1 | refine below_set ?_ GE170.out) | exact HB.out)) hb); clear HO168; clear HO177; clear HO184; clear HO187; clear BK170; clear HB; have HO168 := n0_; have HO177 := n1_; have HO184 := n2_; have HO187 := n3_; have BK170 := n4_; have HB := n5_; clear n0_ n1_ n2_ n3_ n4_ n5_; (try clear hb); (try clear hb2); (try clear hk); (try clear hi)))
                            go_ret
                            exact ⟨by first | rfl | (simp [errW_none, errW_some] <;> rfl) | (simp [*, errW_none, errW_some] <;> rfl), by repeat (first | (with_reducible first | exact HB.out | apply below_alloc | apply pw_below_drewN | apply below_drew1 | refine below_set ?_ GE170.out) | exact HB.out)⟩
                          · replace c23 := Bool.eq_false_iff.mpr c23
                            subst c23
                            have H1 : (some false) = some r := by rw [if_neg (show ¬ (false = true) by decide)] at H; exact H
                            clear H
                            have H := H1
                            clear H1
                            obtain rfl := Option.some.inj H
                            cases hr
                        · replace c21 := Bool.eq_false_iff.mpr c21
                          subst c21
                          have H1 : (some false) = some r := by rw [if_neg (show ¬ (false = true) by decide)] at H; exact H
                          clear H
                          have H := H1
                          clear H1
                          obtain rfl := Option.some.inj H
                          cases hr
                      · replace c19 := Bool.eq_false_iff.mpr c19
                        subst c19
                        have H1 : (some false) = some r := by rw [if_neg (show ¬ (false = true) by decide)] at H; exact H
                        clear H
                        have H := H1
                        clear H1
                        obtain rfl := Option.some.inj H
                        cases hr
                    · rw [if_neg c16] at H
                      have c16b0 : (t181 == 5) = false := beq_eq_false_iff_ne.mpr c16
                      have c16b1 : (t181 != 5) = true := bne_iff_ne.mpr c16
                      obtain rfl := Option.some.inj H
                      cases hr
                  · rw [if_neg c14] at H
                    have c14b0 : (t180 == 2) = false := beq_eq_false_iff_ne.mpr c14
                    have c14b1 : (t180 != 2) = true := bne_iff_ne.mpr c14
                    obtain rfl := Option.some.inj H
                    cases hr
                · rw [if_neg c12] at H
                  have c12b0 : (((rd_T49 t175 1).f0) == 5) = false := beq_eq_false_iff_ne.mpr c12
                  have c12b1 : (((rd_T49 t175 1).f0) != 5) = true := bne_iff_ne.mpr c12
                  obtain rfl := Option.some.inj H
                  cases hr
              · rw [if_neg c11] at H
                exact absurd H (by simp)
            · rw [if_neg c10] at H
              have c10b0 : (((rd_T49 t175 0).f0) == 2) = false := beq_eq_false_iff_ne.mpr c10
              have c10b1 : (((rd_T49 t175 0).f0) != 2) = true := bne_iff_ne.mpr c10
              obtain rfl := Option.some.inj H
              cases hr
          · rw [if_neg c9] at H
            exact absurd H (by simp)
        · rw [if_neg c8] at H
          have c8b0 : ((t175.length : Int) == 2) = false := beq_eq_false_iff_ne.mpr c8
          have c8b1 : ((t175.length : Int) != 2) = true := bne_iff_ne.mpr c8
          obtain rfl := Option.some.inj H
          cases hr
      · rw [if_neg c7] at H
        have c7b0 : (t174 == 4) = false := beq_eq_false_iff_ne.mpr c7
        have c7b1 : (t174 != 4) = true := bne_iff_ne.mpr c7
        obtain rfl := Option.some.inj H
        cases hr
    · rw [if_neg c6] at H
      have c6b0 : (t171 == 9) = false := beq_eq_false_iff_ne.mpr c6
      have c6b1 : (t171 != 9) = true := bne_iff_ne.mpr c6
      obtain rfl := Option.some.inj H
      cases hr
  · rw [if_neg c5] at H
    have c5b0 : (t172 == 0) = false := beq_eq_false_iff_ne.mpr c5
    have c5b1 : (t172 != 0) = true := bne_iff_ne.mpr c5
    obtain rfl := Option.some.inj H
    cases hr
set_option maxRecDepth 100000 in
theorem shown07_val : assartlaw07_shown.g 60 = some true := by decide +kernel
def assartlaw07_shown.f : Option Bool := some true
theorem assartlaw07_shown.calls (r : Bool) (w : World) (h : assartlaw07_shown.f = some r) : Calls Try.prog 15 #[] w fun e w' => e = .returned (.bool r) ∧ Below w.heap.size w w' := by
  obtain rfl := Option.some.inj h
  exact assartlaw07_shown.walk 60 true w shown07_val rfl
end Go.Proofs.Yteiladccdenpbaa.P
end
section
namespace Go.Proofs.Yteiladccdenpbaa.P
open Go.RowKit Go.Proofs.YteiladccdenpbaaW.PrintWords Go.Proofs.YteiladccdenpbaaW.PrintLast Go.Proofs.YteiladccdenpbaaW.PrintMore
set_option linter.unusedVariables false
set_option linter.unusedSimpArgs false
def hHolds.T12 : Bool × List (List Nat × List Nat) := (true, [([], []), ([0], [0]), ([1], [1]), ([], []), ([3], [3]), ([4], [4]), ([2, 5], [2, 5]), ([6], [6]), ([7], [7]), ([8, 7], [7, 8]), ([7], [7]), ([9, 10, 7], [7, 9, 10]), ([11, 7], [7, 11]), ([12, 7], [7, 12]), ([7], [7]), ([14, 7], [7, 14]), ([7], [7]), ([15, 16, 7], [7, 15, 16]), ([17, 7], [7, 17]), ([18, 7], [7, 18]), ([7], [7]), ([20, 7], [7, 20]), ([21, 7], [7, 21]), ([19, 22, 7], [7, 19, 22]), ([13, 23, 7], [7, 13, 23]), ([7, 24], [7, 24]), ([25, 7], [25]), ([26], [26]), ([27, 26, 26], [26, 27]), ([28, 26], [26, 28]), ([26, 29], [26, 29])])
def hHolds.B12 : List Nat := [0, 1, 3, 0, 8, 24, 63, 127, 255, 511, 255, 2047, 4095, 8191, 255, 16639, 255, 114943, 246015, 508159, 255, 1048831, 3145983, 8372479, 16777215, 33554431, 67108863, 134217727, 268435455, 536870911, 1073741823]
theorem hHolds.tab12 : rtab .any (opsOf Try.f13 12) = hHolds.T12 := by kernel_rfl
theorem hHolds.bits12 : waitsOk hHolds.T12.2 hHolds.B12 = true := by kernel_rfl
end Go.Proofs.Yteiladccdenpbaa.P
end
section
namespace Go.Proofs.Yteiladccdenpbaa.P
open Go.RowKit Go.Proofs.YteiladccdenpbaaW.PrintWords Go.Proofs.YteiladccdenpbaaW.PrintLast Go.Proofs.YteiladccdenpbaaW.PrintMore
set_option linter.unusedVariables false
set_option linter.unusedSimpArgs false
theorem atF {w : World} {P : Nat → Prop} {A : Option Addr} {l : List S55} (hC : Kd.F k55 w P A l.length l) (i : Nat) (hi : i < l.length) : ∃ ad A3 c3, A = some ad ∧ w.cell? (ad.add (i * 4)) = some (.int .i64 (rd_T55 l (i : Nat)).f0) ∧ w.cell? ⟨(ad.add (i * 4)).block, (ad.add (i * 4)).off + 1, none⟩ = some (.bool (rd_T55 l (i : Nat)).f1) ∧
    w.cell? ⟨(ad.add (i * 4)).block, (ad.add (i * 4)).off + 2, none⟩ = some (.bool (rd_T55 l (i : Nat)).f2.f0) ∧ w.cell? ⟨(ad.add (i * 4)).block, (ad.add (i * 4)).off + 3, none⟩ = some (.slice A3 (rd_T55 l (i : Nat)).f2.f1.length c3) ∧ (rd_T55 l (i : Nat)).f2.f1.length ≤ c3 ∧ Kd.F k49 w P A3 (rd_T55 l (i : Nat)).f2.f1.length (rd_T55 l (i : Nat)).f2.f1 := by
  obtain ⟨ad, A4, c4, rfl, x0, x1, x2, x3, -⟩ := at_T55 (Kd.F_now hC) (i : Int) (by omega) (by omega)
  obtain ⟨ad', c, e, _, hK, hc0, _⟩ := Kd.F_get hC z55 (i : Int) (by omega) (by omega)
  obtain rfl : ad = ad' := by injection e
  obtain ⟨A3, c3, rfl, l3, g3⟩ := k55_openF hK
  rw [Int.toNat_natCast] at hc0 x0 x1 x2 x3
  have h3 : w.cell? (ad.add (i * 4 + 3)) = some (.slice A3 (rd_T55 l (i : Nat)).f2.f1.length c3) := hc0 3 _ rfl
  have e3 : (⟨(ad.add (i * 4)).block, (ad.add (i * 4)).off + 3, none⟩ : Addr) = ad.add (i * 4 + 3) := by
    rw [← add_sum]
    unfold Addr.add
    simp
  refine ⟨ad, A3, c3, rfl, x0, x1, x2, by rw [e3]; exact h3, l3, g3⟩
end Go.Proofs.Yteiladccdenpbaa.P
end
section
namespace Go.Proofs.Yteiladccdenpbaa.P
open Go.RowKit Go.Proofs.YteiladccdenpbaaW.PrintWords Go.Proofs.YteiladccdenpbaaW.PrintLast Go.Proofs.YteiladccdenpbaaW.PrintMore
set_option linter.unusedVariables false
set_option linter.unusedSimpArgs false
def hStay.T19 : Bool × List (List Nat × List Nat) := (true, [([], []), ([0], [0]), ([1], [1]), ([2, 1, 1], [1, 2]), ([1, 3], [1, 3]), ([4, 3], [4]), ([5], [5]), ([5], [5]), ([6, 7, 5, 5], [5, 6, 7]), ([5, 8], [5, 8]), ([9, 8], [9]), ([10], [10]), ([10], [10]), ([11, 12, 10], [10, 11, 12]), ([10, 13], [10, 13]), ([14, 10], [14]), ([15], [15]), ([15], [15]), ([16, 17, 15], [15, 16, 17]), ([15, 18], [15, 18]), ([19, 15], [19]), ([20], [20]), ([20], [20]), ([20], [20]), ([21, 22, 23, 20, 20], [20, 21, 22, 23]), ([20], [20]), ([20], [20]), ([20], [20]), ([25, 26, 27, 24, 20], [20, 25, 26, 27]), ([24, 28, 28, 20], [20, 24, 28]), ([20, 29], [20, 29]), ([30, 29], [30]), ([31], [31]), ([31], [31]), ([32, 33, 31, 31], [31, 32, 33]), ([31], [31]), ([31], [31]), ([35, 36, 34, 31], [31, 35, 36]), ([34, 37, 31], [31, 34, 37]), ([31, 38], [31, 38]), ([39, 37, 0, 1, 2, 3, 4, 5, 6, 7, 8, 9, 10, 11, 12, 13, 14, 15, 16, 17, 18, 19, 20, 21, 22, 23, 24, 25, 26, 27, 28, 29, 30, 31, 32, 33, 34, 35, 36, 37, 38, 39], [39])])
def hStay.B19 : List Nat := [0, 1, 3, 7, 15, 31, 63, 63, 255, 511, 1023, 2047, 2047, 8191, 16383, 32767, 65535, 65535, 262143, 524287, 1048575, 2097151, 2097151, 2097151, 16777215, 2097151, 2097151, 2097151, 268435455, 536870911, 1073741823, 2147483647, 4294967295, 4294967295, 17179869183, 4294967295, 4294967295, 137438953471, 274877906943, 549755813887, 1099511627775]
theorem hStay.tab19 : rtab .any (opsOf Try.f8 19) = hStay.T19 := by kernel_rfl
theorem hStay.bits19 : waitsOk hStay.T19.2 hStay.B19 = true := by kernel_rfl
theorem N_empty (W : World) (base : Nat) (hb : base ≤ W.heap.size) : Kd.N k55 55 (W.alloc (.cells #[] 55)) base (fun _ => True) (.slice (some ⟨W.heap.size, 0, none⟩) 0 0) [] := by
  refine Kd.R_N ⟨fun _ _ => trivial, [], ?_, Reps.none _ _⟩
  have h2 := World.ownsRow_lit (base := base) (e := 55) (size := k55.sz) W (#[] : Array Value) 0 hb (by simp [maxLen]) (by simp)
  simpa using h2
theorem wrap64_u8 {b : Int} (h0 : 0 ≤ b) (h1 : b ≤ 255) : wrap64 b = b := by unfold wrap64; omega
set_option maxHeartbeats 8000000 in
set_option maxRecDepth 100000 in
theorem assartlaw07_TreeStays.walk (A : Option Addr) (c : Nat) (l : List S55) (kp root b key : Int) (w : World) (hr : Kd.C k55 w A l.length l) (hc : l.length ≤ c) (hb0 : 0 ≤ b) (hb1 : b ≤ 255) :
    Calls Try.prog 8 #[.agg #[.slice A l.length c, .int .i64 kp, .int .i64 root, .int .u8 b, .int .i64 key]] w fun e w' => e = .returned (.bool true) ∧ Below w.heap.size w w' := by
  obtain ⟨wA, hwA⟩ : ∃ wA, (w.alloc (.cells #[.slice A l.length c, .int .i64 kp, .int .i64 root, .int .u8 b, .int .i64 key] 57)).alloc (.cells #[.slice A l.length c, .int .i64 kp] 24) = wA := ⟨_, rfl⟩
  have HB : Aside0 (Below w.heap.size w wA) := ⟨by rw [← hwA]; exact ((Below.refl _ w).alloc (Nat.le_refl _) _).alloc (by simp) _⟩
  have KXh : Aside0 (wA.heap[w.heap.size + 1]? = some (.cells #[.slice A l.length c, .int .i64 kp] 24 (0, 0))) := ⟨by
    rw [← hwA]
    have := alloc_new (w.alloc (.cells #[.slice A l.length c, .int .i64 kp, .int .i64 root, .int .u8 b, .int .i64 key] 57)) (.cells #[.slice A l.length c, .int .i64 kp] 24)
    rwa [World.size_alloc] at this⟩
  have KX0 : wA.heap[w.heap.size]? = some (.cells #[.slice A l.length c, .int .i64 kp, .int .i64 root, .int .u8 b, .int .i64 key] 57 (0, 0)) := by rw [← hwA]; exact blk_alloc (alloc_new w _) _
  have b0 : wA.cell? ⟨w.heap.size, 0, none⟩ = some (.slice A l.length c) := (blk_cell KX0 0).trans rfl
  have b1 : wA.cell? ⟨w.heap.size, 1, none⟩ = some (.int .i64 kp) := (blk_cell KX0 1).trans rfl
  have b2 : wA.cell? ⟨w.heap.size, 2, none⟩ = some (.int .i64 root) := (blk_cell KX0 2).trans rfl
  have b3 : wA.cell? ⟨w.heap.size, 3, none⟩ = some (.int .u8 b) := (blk_cell KX0 3).trans rfl
  have b4 : wA.cell? ⟨w.heap.size, 4, none⟩ = some (.int .i64 key) := (blk_cell KX0 4).trans rfl
  clear KX0
  have HFl : Aside0 (Kd.F k55 w (fun k => k < w.heap.size) A l.length l) := ⟨Kd.C_F k55_heap hr⟩
  have HVl : Aside0 (Kd.V k55 55 wA 0 (fun k => k < w.heap.size) (.slice A l.length c) l) := ⟨Kd.V_below (Kd.V_mk hc (Kd.C_F k55_heap hr)) HB.out⟩
  have HSZ := Aside0.mk (show w.heap.size + 1 < wA.heap.size from blk_lt KXh.out)
  obtain ⟨bm, hbm, hmay⟩ := may07_val l kp root (k := 10000) (by omega)
  have HM := Aside0.mk hbm
  have HCP := Aside0.mk hc
  have HMY := Aside0.mk hmay
  clear hr hc hbm hmay
  have hu24 := Try.underlying24
  have hu53 := Try.underlying53
  have hu55 := Try.underlying55
  have hu57 := Try.underlying57
  go_enter Try.func8, Try.ntmps8
  go_wp2_with fail
  refine (assartlaw07_shown.calls true wA rfl).mono ?_
  rintro e w1 ⟨rfl, hb⟩
  replace HB := Aside0.mk (HB.out.trans (hb.mono HB.out.size))
  replace KXh := Aside0.mk (blk_below KXh.out hb)
  replace HVl := Aside0.mk (Kd.V_below HVl.out hb)
  clear hb hwA HSZ b0 b1 b2 b3 b4
  have xh_0 : w1.cell? ⟨w.heap.size + 1, 0, none⟩ = some (.slice A l.length c) := (blk_cell KXh.out 0).trans rfl
  have xh_1 : w1.cell? ⟨w.heap.size + 1, 1, none⟩ = some (.int .i64 kp) := (blk_cell KXh.out 1).trans rfl
  have lh : w.heap.size + 1 < w1.heap.size := blk_lt KXh.out
  go_wp2_with fail
  clear xh_0 xh_1 lh
  refine (assartref07_May.calls 10000 A c l kp root 60 bm w1 (Kd.V_reads' HVl.out).2.2 (Kd.V_reads' HVl.out).2.1 HM.out).mono ?_
  rintro e w2 ⟨rfl, hb⟩
  replace HB := Aside0.mk (HB.out.trans (hb.mono HB.out.size))
  replace KXh := Aside0.mk (blk_below KXh.out hb)
  replace HVl := Aside0.mk (Kd.V_below HVl.out hb)
  clear hb HM
  cases bm with
  | false =>
    go_wp2
    go_ret
    exact ⟨rfl, HB.out⟩
  | true =>
    obtain ⟨hm1, HRl, HRt⟩ := HMY.out rfl
    have hl60 := hm1.1
    have HM1 := Aside0.mk hm1
    have HRL := Aside0.mk HRl
    have HRT := Aside0.mk HRt
    clear hm1 HRl HRt HMY
    have xh_0 : w2.cell? ⟨w.heap.size + 1, 0, none⟩ = some (.slice A l.length c) := (blk_cell KXh.out 0).trans rfl
    have xh_1 : w2.cell? ⟨w.heap.size + 1, 1, none⟩ = some (.int .i64 kp) := (blk_cell KXh.out 1).trans rfl
    have lh : w.heap.size + 1 < w2.heap.size := blk_lt KXh.out
    go_wp2
    clear xh_0 xh_1 lh
    have HN : Aside0 (Kd.N k55 55 (w2.alloc (.cells #[] 55)) w.heap.size (fun _ => True) (.slice (some ⟨w2.heap.size, 0, none⟩) 0 0) []) := ⟨N_empty w2 w.heap.size HB.out.size⟩
    have hpre : Below w2.heap.size w2 (w2.alloc (.cells #[] 55)) := (Below.refl w2.heap.size w2).alloc (Nat.le_refl _) _
    replace KXh := Aside0.mk (blk_below KXh.out hpre)
    replace HB := Aside0.mk (HB.out.trans (hpre.mono HB.out.size))
    clear hpre HVl
    go_loopg [8, 9, 10] l.length (fun kx s8 s9 s10 wr => ∃ (j : Nat) (v8 : Value), v8 = s8 ∧ s9 = .int .i64 j ∧ j ≤ l.length ∧ l.length - j ≤ kx ∧ Aside0 (Kd.N k55 55 wr w.heap.size (fun _ => True) v8 (stayL b (l.take j))) ∧ Aside0 (Below w.heap.size w wr) ∧ Aside0 (wr.heap[w.heap.size + 1]? = some (.cells #[.slice A l.length c, .int .i64 kp] 24 (0, 0))))
    case atStart => exact ⟨0, _, rfl, rfl, Nat.zero_le _, by omega, ⟨HN.out⟩, HB, KXh⟩
    case round =>
      clear HN HB KXh
      obtain ⟨j, v8, rfl, rfl, hj, hgk, HN, HB, KXh⟩ := hrel
      have bh0 : wr.cell? ⟨w.heap.size + 1, 0, none⟩ = some (.slice A l.length c) := (blk_cell KXh.out 0).trans rfl
      have bh1 : wr.cell? ⟨w.heap.size + 1, 1, none⟩ = some (.int .i64 kp) := (blk_cell KXh.out 1).trans rfl
      by_cases hlt : j < l.length
      · obtain ⟨ad, A3, c3, rfl, x0, x1, x2, x3, hl3, hf3⟩ := atF (Kd.F_below HFl.out HB.out) j hlt
        have HST := Aside0.mk (stay_step b hlt)
        have HLN := Aside0.mk (stay_take_len b hj)
        obtain ⟨xs, hxs⟩ : ∃ xs, stayL b (l.take j) = xs := ⟨_, rfl⟩
        rw [hxs] at HN HST HLN
        have HXL : Aside0 (xs.length ≤ 60) := ⟨by have := HLN.out; omega⟩
        clear HLN hxs
        obtain ⟨r0, hr0⟩ : ∃ r0, (rd_T55 l (j : Nat)).f0 = r0 := ⟨_, rfl⟩
        obtain ⟨pn, hpn⟩ : ∃ pn, (rd_T55 l (j : Nat)).f1 = pn := ⟨_, rfl⟩
        obtain ⟨nd, hnd⟩ : ∃ nd, (rd_T55 l (j : Nat)).f2 = nd := ⟨_, rfl⟩
        have HSC : Aside0 (stayC b (rd_T55 l (j : Nat)) = ⟨if 0 < r0 then r0 + b else r0, false, nd⟩) := ⟨by unfold stayC; rw [hr0, hnd]⟩
        have HR0 : Aside0 (r0 ≤ 1000000) := ⟨by rw [← hr0]; exact (HM1.out.2.1 j hlt (Nat.zero_le _)).2⟩
        rw [hr0] at x0
        rw [hpn] at x1
        rw [hnd] at x2 x3 hl3 hf3
        have p1 : (j : Int) < (l.length : Int) := by omega
        replace p1 := eq_true p1
        obtain ⟨wB, hwB⟩ : ∃ wB, wr.alloc (.cells #[.int .i64 r0, .bool pn, .bool nd.f0, .slice A3 nd.f1.length c3] 55) = wB := ⟨_, rfl⟩
        have hbB : Below wr.heap.size wr wB := by rw [← hwB]; exact (Below.refl _ wr).alloc (Nat.le_refl _) _
        have KZ := Aside0.mk (show wB.heap[wr.heap.size]? = some (.cells #[.int .i64 r0, .bool pn, .bool nd.f0, .slice A3 nd.f1.length c3] 55 (0, 0)) by rw [← hwB]; exact alloc_new wr _)
        have z0 : wB.cell? ⟨wr.heap.size, 0, none⟩ = some (.int .i64 r0) := (blk_cell KZ.out 0).trans rfl
        have z1 : wB.cell? ⟨wr.heap.size, 1, none⟩ = some (.bool pn) := (blk_cell KZ.out 1).trans rfl
        have z2 : wB.cell? ⟨wr.heap.size, 2, none⟩ = some (.bool nd.f0) := (blk_cell KZ.out 2).trans rfl
        have z3 : wB.cell? ⟨wr.heap.size, 3, none⟩ = some (.slice A3 nd.f1.length c3) := (blk_cell KZ.out 3).trans rfl
        have fz := blk_frozen KZ.out 0
        have HWS := Aside0.mk (show w.heap.size ≤ wr.heap.size from HB.out.size)
        have HWH := Aside0.mk (show w.heap.size + 1 < wr.heap.size from blk_lt KXh.out)
        have HNB : Aside0 (Kd.N k55 55 wB w.heap.size (fun k => k ≠ wr.heap.size) v8 xs) := ⟨Kd.N_mono (Kd.N_below (Kd.N_elderB HN.out wr.heap.size (Nat.le_refl _)) hbB) (fun k hk => hk.2)⟩
        have KXB := Aside0.mk (blk_below KXh.out hbB)
        have HBB := Aside0.mk (HB.out.trans (hbB.mono HB.out.size))
        have HFB := Aside0.mk (Kd.F_below hf3 hbB)
        have HL3 := Aside0.mk hl3
        have lz : wr.heap.size < wB.heap.size := blk_lt KZ.out
        have HLZ := Aside0.mk lz
        clear hbB hf3 hl3 hr0 hpn hnd HN HB KXh
        by_cases hz : 0 < r0
        · have hz1 : decide (r0 > 0) = true := decide_eq_true hz
          have hz2 : (0 < r0) = True := eq_true hz
          have hwb : wrap64 b = b := wrap64_u8 hb0 hb1
          have hwr : wrap64 (r0 + b) = r0 + b := wadd _ _ (by omega) (by have := HR0.out; omega) (by omega) (by omega)
          go_wp2_with ((with_reducible refine gate_builtin (b := .append) (xs := #[.tmp 52, .tmp 58]) rfl ?_); at_builtin; refine Kd.N_append k55 (w0 := w) w.heap.size rfl (.tmp 52) (.tmp 58) 22 55 (.agg #[(.int .i64 0), (.bool false), (.bool false), (.slice none 0 0)]) 48 rfl Try.underlying22 info55 rfl (by decide) (by omega) v8 xs (⟨r0 + b, false, nd⟩ : S55) [.int .i64 (r0 + b), .bool false, .bool nd.f0, .slice A3 nd.f1.length c3] (fun _ => True) (fun k => k < w.heap.size) rfl ?aX ?aP ?aK (fun _ _ => trivial) ?aO ?aB ?aS ?aL ?_; (case aX => (rw [World.size_setCell]; rfl)); (case aP => exact k55_mkF _ _ (⟨r0 + b, false, nd⟩ : S55) HL3.out (Kd.F_far (p := ⟨wr.heap.size, 0, none⟩) HFB.out (fun k hk => by have := HWS.out; show k ≠ wr.heap.size; omega) _)); (case aK => exact (fun k hk => ⟨trivial, fun e_ => by have := Kd.N_base HNB.out k e_.symm; omega⟩)); (case aO => exact (Kd.N_mono (Kd.N_far (p := ⟨wr.heap.size, 0, none⟩) HNB.out (fun _ hk => hk) _) (fun _ _ => trivial))); (case aB => exact (below_set HBB.out HWS.out)); (case aS => exact Nat.le_trans HWS.out (Nat.le_of_lt (by rw [World.size_setCell]; exact HLZ.out))); (case aL => have := HXL.out; omega); intro v5 w5 ho hb hg hat; replace KXB := Aside0.mk (blk_grown (blk_far (p := ⟨wr.heap.size, 0, none⟩) KXB.out (by have := HWH.out; show w.heap.size + 1 ≠ wr.heap.size; omega) _) hg (Kd.N_ne HNB.out KXB.out (by decide))); have HN5 := Aside0.mk ho; have HB5 := Aside0.mk hb; clear ho hb hg hat)
          go_roundg (l.length - (j + 1))
          case measure => omega
          case rel => exact ⟨j + 1, _, rfl, by simp, by omega, Nat.le_refl _, ⟨by rw [← HST.out, HSC.out, if_pos hz]; exact HN5.out⟩, HB5, KXB⟩
        · have hz1 : decide (r0 > 0) = false := decide_eq_false hz
          have hz2 : (0 < r0) = False := eq_false hz
          go_wp2_with ((with_reducible refine gate_builtin (b := .append) (xs := #[.tmp 52, .tmp 58]) rfl ?_); at_builtin; refine Kd.N_append k55 (w0 := w) w.heap.size rfl (.tmp 52) (.tmp 58) 22 55 (.agg #[(.int .i64 0), (.bool false), (.bool false), (.slice none 0 0)]) 48 rfl Try.underlying22 info55 rfl (by decide) (by omega) v8 xs (⟨r0, false, nd⟩ : S55) [.int .i64 (r0), .bool false, .bool nd.f0, .slice A3 nd.f1.length c3] (fun _ => True) (fun k => k < w.heap.size) rfl ?aX ?aP ?aK (fun _ _ => trivial) ?aO ?aB ?aS ?aL ?_; (case aX => rfl); (case aP => exact k55_mkF _ _ (⟨r0, false, nd⟩ : S55) HL3.out HFB.out); (case aK => exact (fun k hk => ⟨trivial, fun e_ => by have := Kd.N_base HNB.out k e_.symm; omega⟩)); (case aO => exact (Kd.N_mono HNB.out (fun _ _ => trivial))); (case aB => exact HBB.out); (case aS => exact Nat.le_trans HWS.out (Nat.le_of_lt HLZ.out)); (case aL => have := HXL.out; omega); intro v5 w5 ho hb hg hat; replace KXB := Aside0.mk (blk_grown KXB.out hg (Kd.N_ne HNB.out KXB.out (by decide))); have HN5 := Aside0.mk ho; have HB5 := Aside0.mk hb; clear ho hb hg hat)
          go_roundg (l.length - (j + 1))
          case measure => omega
          case rel => exact ⟨j + 1, _, rfl, by simp, by omega, Nat.le_refl _, ⟨by rw [← HST.out, HSC.out, if_neg (show ¬ 0 < r0 by omega)]; exact HN5.out⟩, HB5, KXB⟩
      · obtain rfl : j = l.length := by omega
        have p1 : ((l.length : Nat) : Int) < (l.length : Int) ↔ False := ⟨fun h => by omega, fun h => h.elim⟩
        replace p1 := propext p1
        rw [List.take_length] at HN
        obtain ⟨Ag, cg, rfl, hcg, hCg⟩ := Kd.N_reads HN.out
        obtain ⟨r1, r2, hh, L, s1, s2, s3, s4, s5, s6, s7, s8, s9⟩ := stay_says (kp := kp) (kg := b.tmod ((l.length : Int) + 1)) hb0 hb1 HM1.out HRL.out HRT.out (Int.tmod_nonneg _ hb0) (by have := Int.tmod_lt_of_pos b (show (0 : Int) < (l.length : Int) + 1 by omega); omega) key
        have HGL : Aside0 ((stayL b l).length = l.length) := ⟨stayL_len b l⟩
        obtain ⟨kg, hkg⟩ : ∃ kg, b.tmod ((l.length : Int) + 1) = kg := ⟨_, rfl⟩
        obtain ⟨lg, hlg⟩ : ∃ lg, stayL b l = lg := ⟨_, rfl⟩
        rw [hkg] at s2 s3 s4 s6 s9
        rw [hlg] at s2 s3 s4 s6 s9 hcg hCg HGL ⊢
        have HS1 := Aside0.mk s1
        have HS2 := Aside0.mk s2
        have HS3 := Aside0.mk s3
        have HS4 := Aside0.mk s4
        have HS5 := Aside0.mk s5
        have HS6 := Aside0.mk s6
        have HS7 := Aside0.mk s7
        have HS8 := Aside0.mk s8
        have HS9 := Aside0.mk s9
        have HCG := Aside0.mk hCg
        have HCC := Aside0.mk hcg
        have HVl : Aside0 (Kd.V k55 55 wr 0 (fun k => k < w.heap.size) (.slice A l.length c) l) := ⟨Kd.V_mk HCP.out (Kd.F_below HFl.out HB.out)⟩
        have HWL := Aside0.mk (show wrap64 ((l.length : Int) + 1) = (l.length : Int) + 1 from wadd _ _ (by omega) (by omega) (by decide) (by decide))
        clear HN hCg hcg hgk hj hlt hlg s1 s2 s3 s4 s5 s6 s7 s8 s9
        have hwb := wrap64_u8 hb0 hb1
        have hwl := HWL.out
        have hn0 : ((l.length : Int) + 1 == 0) = false := beq_eq_false_iff_ne.2 (by omega)
        have lh : w.heap.size + 1 < wr.heap.size := blk_lt KXh.out
        go_wp2_with fail
        clear hwb hwl hn0 lh bh0 bh1 p1 hkg
        have hpre : Below wr.heap.size wr (wr.alloc (.cells #[.slice Ag lg.length cg, .int .i64 kg] 24)) := (Below.refl wr.heap.size wr).alloc (Nat.le_refl _) _
        replace HB := Aside0.mk (HB.out.trans (hpre.mono HB.out.size))
        replace KXh := Aside0.mk (blk_below KXh.out hpre)
        replace HVl := Aside0.mk (Kd.V_below HVl.out hpre)
        replace HCG := Aside0.mk (Kd.C_below HCG.out hpre)
        have KXg : Aside0 ((wr.alloc (.cells #[.slice Ag lg.length cg, .int .i64 kg] 24)).heap[wr.heap.size]? = some (.cells #[.slice Ag lg.length cg, .int .i64 kg] 24 (0, 0))) := ⟨alloc_new wr _⟩
        clear hpre
        obtain ⟨w5, hw_⟩ : ∃ w_, (wr.alloc (.cells #[.slice Ag lg.length cg, .int .i64 kg] 24)) = w_ := ⟨_, rfl⟩
        rw [hw_]
        rw [hw_] at HB KXh HVl HCG KXg
        clear hw_
        refine (tree_Get.calls 10000 A c l kp root key r1 r2 w5 (Kd.V_reads' HVl.out).2.2 (Kd.V_reads' HVl.out).2.1 HS1.out).mono ?_
        rintro e w6 ⟨rfl, hb⟩
        replace HB := Aside0.mk (HB.out.trans (hb.mono HB.out.size))
        replace KXh := Aside0.mk (blk_below KXh.out hb)
        replace HVl := Aside0.mk (Kd.V_below HVl.out hb)
        replace HCG := Aside0.mk (Kd.C_below HCG.out hb)
        replace KXg := Aside0.mk (blk_below KXg.out hb)
        clear hb
        have xh_0 : w6.cell? ⟨w.heap.size + 1, 0, none⟩ = some (.slice A l.length c) := (blk_cell KXh.out 0).trans rfl
        have xh_1 : w6.cell? ⟨w.heap.size + 1, 1, none⟩ = some (.int .i64 kp) := (blk_cell KXh.out 1).trans rfl
        have lh : w.heap.size + 1 < w6.heap.size := blk_lt KXh.out
        have xg_0 : w6.cell? ⟨wr.heap.size, 0, none⟩ = some (.slice Ag lg.length cg) := (blk_cell KXg.out 0).trans rfl
        have xg_1 : w6.cell? ⟨wr.heap.size, 1, none⟩ = some (.int .i64 kg) := (blk_cell KXg.out 1).trans rfl
        have lg : wr.heap.size < w6.heap.size := blk_lt KXg.out
        go_wp2_with fail
        clear xh_0 xh_1 lh xg_0 xg_1 lg
        refine (tree_Get.calls 10000 Ag cg lg kg root key r1 r2 w6 HCG.out HCC.out HS2.out).mono ?_
        rintro e w7 ⟨rfl, hb⟩
        replace HB := Aside0.mk (HB.out.trans (hb.mono HB.out.size))
        replace KXh := Aside0.mk (blk_below KXh.out hb)
        replace HVl := Aside0.mk (Kd.V_below HVl.out hb)
        replace HCG := Aside0.mk (Kd.C_below HCG.out hb)
        replace KXg := Aside0.mk (blk_below KXg.out hb)
        clear hb
        have xh_0 : w7.cell? ⟨w.heap.size + 1, 0, none⟩ = some (.slice A l.length c) := (blk_cell KXh.out 0).trans rfl
        have xh_1 : w7.cell? ⟨w.heap.size + 1, 1, none⟩ = some (.int .i64 kp) := (blk_cell KXh.out 1).trans rfl
        have lh : w.heap.size + 1 < w7.heap.size := blk_lt KXh.out
        have xg_0 : w7.cell? ⟨wr.heap.size, 0, none⟩ = some (.slice Ag lg.length cg) := (blk_cell KXg.out 0).trans rfl
        have xg_1 : w7.cell? ⟨wr.heap.size, 1, none⟩ = some (.int .i64 kg) := (blk_cell KXg.out 1).trans rfl
        have lg : wr.heap.size < w7.heap.size := blk_lt KXg.out
        go_wp2_with fail
        clear xh_0 xh_1 lh xg_0 xg_1 lg
        have Zg0 : Aside0 (w7.cell? ⟨wr.heap.size, 0, none⟩ = some (.slice Ag lg.length cg)) := ⟨(blk_cell KXg.out 0).trans rfl⟩
        have Zg1 : Aside0 (w7.cell? ⟨wr.heap.size, 1, none⟩ = some (.int .i64 kg)) := ⟨(blk_cell KXg.out 1).trans rfl⟩
        have Zh0 : Aside0 (w7.cell? ⟨w.heap.size + 1, 0, none⟩ = some (.slice A l.length c)) := ⟨(blk_cell KXh.out 0).trans rfl⟩
        have Zh1 : Aside0 (w7.cell? ⟨w.heap.size + 1, 1, none⟩ = some (.int .i64 kp)) := ⟨(blk_cell KXh.out 1).trans rfl⟩
        replace Zg0 : Aside0 (w7.drew.cell? ⟨wr.heap.size, 0, none⟩ = some (.slice Ag lg.length cg)) := ⟨Zg0.out⟩
        replace Zg1 : Aside0 (w7.drew.cell? ⟨wr.heap.size, 1, none⟩ = some (.int .i64 kg)) := ⟨Zg1.out⟩
        replace Zh0 : Aside0 (w7.drew.cell? ⟨w.heap.size + 1, 0, none⟩ = some (.slice A l.length c)) := ⟨Zh0.out⟩
        replace Zh1 : Aside0 (w7.drew.cell? ⟨w.heap.size + 1, 1, none⟩ = some (.int .i64 kp)) := ⟨Zh1.out⟩
        replace HB := Aside0.mk (below_drew HB.out)
        replace KXh := Aside0.mk (blk_drew KXh.out)
        replace HVl := Aside0.mk (Kd.V_drew HVl.out)
        replace HCG := Aside0.mk (Kd.C_drew HCG.out)
        replace KXg := Aside0.mk (blk_drew KXg.out)
        refine start_ (n := 41) (S := fun w' => w'.cell? ⟨wr.heap.size, 0, none⟩ = some (.slice Ag lg.length cg) ∧ w'.cell? ⟨wr.heap.size, 1, none⟩ = some (.int .i64 kg) ∧ w'.cell? ⟨w.heap.size + 1, 0, none⟩ = some (.slice A l.length c) ∧ w'.cell? ⟨w.heap.size + 1, 1, none⟩ = some (.int .i64 kp)) (ds := []) #[false, false, false, false, false, false, false, false, false, false, false, false, false, false, false, false, false, false, false, false, false, false, false, false, false, false, false, false, false, false, false, false, false, false, false, false, false, false, false, false, false] (by kernel_rfl) rfl rfl ⟨Zg0.out, Zg1.out, Zh0.out, Zh1.out⟩ (fun hHeld => ?_)
        refine with_tabW hStay.tab19 hStay.bits19 (fun HT_ HW_ => ?_)
        generalize w7.drew = wdr19 at Zg0 Zg1 Zh0 Zh1 HB KXh HVl HCG KXg hHeld ⊢
        refine pure_ (i := 0) (N := some 83) (v := ?_) (a' := ?_) #[true, false, false, false, false, false, false, false, false, false, false, false, false, false, false, false, false, false, false, false, false, false, false, false, false, false, false, false, false, false, false, false, false, false, false, false, false, false, false, false, false] rfl rfl (any_of HT_.out (by kernel_rfl)) (fun _ _ _ h => h) (Or.inl ⟨by rfl, ?_⟩) ?_ ?_
        rotate_left
        · intro w'
          go_simp
          with_reducible rfl
        rotate_left
        · simp only [Act.put, List.setIfInBounds_toArray, List.set_cons_zero, List.set_cons_succ, i64_w, i32_w]
          rfl
        refine pure_ (i := 1) (N := some 84) (v := ?_) (a' := ?_) #[true, true, false, false, false, false, false, false, false, false, false, false, false, false, false, false, false, false, false, false, false, false, false, false, false, false, false, false, false, false, false, false, false, false, false, false, false, false, false, false, false] rfl rfl (any_of HT_.out (by kernel_rfl)) (fun _ _ _ h => h) (Or.inl ⟨by rfl, ?_⟩) ?_ ?_
        rotate_left
        · intro w'
          go_simp
          with_reducible rfl
        rotate_left
        · simp only [Act.put, List.setIfInBounds_toArray, List.set_cons_zero, List.set_cons_succ, i64_w, i32_w]
          rfl
        refine take_ (i := 2) (N := some 85) (v := ?_) (a' := ?_) #[true, true, true, false, false, false, false, false, false, false, false, false, false, false, false, false, false, false, false, false, false, false, false, false, false, false, false, false, false, false, false, false, false, false, false, false, false, false, false, false, false] rfl rfl (take_ofW HT_.out HW_.out (by kernel_rfl)) (fun _ _ _ h => h) (Or.inl ⟨by rfl, ?_⟩) hHeld ?_ ?_
        rotate_left
        · rintro w' ⟨s0, s1, s2, s3⟩
          go_simp
          with_reducible rfl
        rotate_left
        · simp only [Act.put, List.setIfInBounds_toArray, List.set_cons_zero, List.set_cons_succ, i64_w, i32_w]
          rfl
        refine one_ (i := 3) (N := some 86) #[true, true, true, true, false, false, false, false, false, false, false, false, false, false, false, false, false, false, false, false, false, false, false, false, false, false, false, false, false, false, false, false, false, false, false, false, false, false, false, false, false] rfl rfl (one_of HT_.out (by kernel_rfl)) (by decide) (fun K hK => ?_)
        refine goes_ Try.func32 (by kernel_rfl) rfl #[.agg #[.slice Ag lg.length cg, .int .i64 kg]] (by rfl) rfl rfl (by (try simp only [List.map_toArray, List.map_cons, List.map_nil]); first | done | rfl | (simp only [List.length_drop, List.length_take]; rfl)) ?_
        with_reducible refine (assartref05_Right.calls 10000 Ag cg lg kg true _ HCG.out HCC.out HS3.out).mono ?_
        rintro e wcr3 ⟨rfl, hb⟩
        refine ⟨_, rfl, ?_⟩
        replace Zg0 : Aside0 (wcr3.cell? ⟨wr.heap.size, 0, none⟩ = some (.slice Ag lg.length cg)) := ⟨(hb.cell (World.block_lt_of_cell? wdr19 _ Zg0.out)).trans Zg0.out⟩
        replace Zg1 : Aside0 (wcr3.cell? ⟨wr.heap.size, 1, none⟩ = some (.int .i64 kg)) := ⟨(hb.cell (World.block_lt_of_cell? wdr19 _ Zg1.out)).trans Zg1.out⟩
        replace Zh0 : Aside0 (wcr3.cell? ⟨w.heap.size + 1, 0, none⟩ = some (.slice A l.length c)) := ⟨(hb.cell (World.block_lt_of_cell? wdr19 _ Zh0.out)).trans Zh0.out⟩
        replace Zh1 : Aside0 (wcr3.cell? ⟨w.heap.size + 1, 1, none⟩ = some (.int .i64 kp)) := ⟨(hb.cell (World.block_lt_of_cell? wdr19 _ Zh1.out)).trans Zh1.out⟩
        replace HB := Aside0.mk (HB.out.trans (hb.mono HB.out.size))
        replace KXh := Aside0.mk (blk_below KXh.out hb)
        replace HVl := Aside0.mk (Kd.V_below HVl.out hb)
        replace HCG := Aside0.mk (Kd.C_below HCG.out hb)
        replace KXg := Aside0.mk (blk_below KXg.out hb)
        clear hb hHeld
        refine hK.out _ _ ⟨Zg0.out, Zg1.out, Zh0.out, Zh1.out⟩ (fun hHeld => ?_)
        clear hK K
        refine norm_ (a' := ?_) ?_ ?_
        rotate_left
        · show Act.put _ (some 86) _ = _
          simp only [Act.put, List.setIfInBounds_toArray, List.set_cons_zero, List.set_cons_succ, i64_w, i32_w]
          rfl
        refine pure_ (i := 4) (N := some 87) (v := ?_) (a' := ?_) #[true, true, true, true, true, false, false, false, false, false, false, false, false, false, false, false, false, false, false, false, false, false, false, false, false, false, false, false, false, false, false, false, false, false, false, false, false, false, false, false, false] rfl rfl (any_of HT_.out (by kernel_rfl)) (fun _ _ _ h => h) (Or.inl ⟨by rfl, ?_⟩) ?_ ?_
        rotate_left
        · intro w'
          go_simp
          with_reducible rfl
        rotate_left
        · simp only [Act.put, List.setIfInBounds_toArray, List.set_cons_zero, List.set_cons_succ, i64_w, i32_w]
          rfl
        refine pure_ (i := 5) (N := some 88) (v := ?_) (a' := ?_) #[true, true, true, true, true, true, false, false, false, false, false, false, false, false, false, false, false, false, false, false, false, false, false, false, false, false, false, false, false, false, false, false, false, false, false, false, false, false, false, false, false] rfl rfl (any_of HT_.out (by kernel_rfl)) (fun _ _ _ h => h) (Or.inl ⟨by rfl, ?_⟩) ?_ ?_
        rotate_left
        · intro w'
          go_simp
          with_reducible rfl
        rotate_left
        · simp only [Act.put, List.setIfInBounds_toArray, List.set_cons_zero, List.set_cons_succ, i64_w, i32_w]
          rfl
        refine take_ (i := 6) (N := some 89) (v := ?_) (a' := ?_) #[true, true, true, true, true, true, true, false, false, false, false, false, false, false, false, false, false, false, false, false, false, false, false, false, false, false, false, false, false, false, false, false, false, false, false, false, false, false, false, false, false] rfl rfl (take_ofW HT_.out HW_.out (by kernel_rfl)) (fun _ _ _ h => h) (Or.inl ⟨by rfl, ?_⟩) hHeld ?_ ?_
        rotate_left
        · rintro w' ⟨s0, s1, s2, s3⟩
          go_simp
          with_reducible rfl
        rotate_left
        · simp only [Act.put, List.setIfInBounds_toArray, List.set_cons_zero, List.set_cons_succ, i64_w, i32_w]
          rfl
        refine pure_ (i := 7) (N := some 90) (v := ?_) (a' := ?_) #[true, true, true, true, true, true, true, true, false, false, false, false, false, false, false, false, false, false, false, false, false, false, false, false, false, false, false, false, false, false, false, false, false, false, false, false, false, false, false, false, false] rfl rfl (any_of HT_.out (by kernel_rfl)) (fun _ _ _ h => h) (Or.inl ⟨by rfl, ?_⟩) ?_ ?_
        rotate_left
        · intro w'
          go_simp
          with_reducible rfl
        rotate_left
        · simp only [Act.put, List.setIfInBounds_toArray, List.set_cons_zero, List.set_cons_succ, i64_w, i32_w]
          rfl
        refine one_ (i := 8) (N := some 91) #[true, true, true, true, true, true, true, true, true, false, false, false, false, false, false, false, false, false, false, false, false, false, false, false, false, false, false, false, false, false, false, false, false, false, false, false, false, false, false, false, false] rfl rfl (one_of HT_.out (by kernel_rfl)) (by decide) (fun K hK => ?_)
        refine goes_ Try.func18 (by kernel_rfl) rfl #[.agg #[.slice Ag lg.length cg, .int .i64 kg], .int .i64 root] (by rfl) rfl rfl (by (try simp only [List.map_toArray, List.map_cons, List.map_nil]); first | done | rfl | (simp only [List.length_drop, List.length_take]; rfl)) ?_
        with_reducible refine (tree_Right.calls 10000 Ag cg lg kg root true _ HCG.out HCC.out HS4.out).mono ?_
        rintro e wcr8 ⟨rfl, hb⟩
        refine ⟨_, rfl, ?_⟩
        replace Zg0 : Aside0 (wcr8.cell? ⟨wr.heap.size, 0, none⟩ = some (.slice Ag lg.length cg)) := ⟨(hb.cell (World.block_lt_of_cell? wcr3 _ Zg0.out)).trans Zg0.out⟩
        replace Zg1 : Aside0 (wcr8.cell? ⟨wr.heap.size, 1, none⟩ = some (.int .i64 kg)) := ⟨(hb.cell (World.block_lt_of_cell? wcr3 _ Zg1.out)).trans Zg1.out⟩
        replace Zh0 : Aside0 (wcr8.cell? ⟨w.heap.size + 1, 0, none⟩ = some (.slice A l.length c)) := ⟨(hb.cell (World.block_lt_of_cell? wcr3 _ Zh0.out)).trans Zh0.out⟩
        replace Zh1 : Aside0 (wcr8.cell? ⟨w.heap.size + 1, 1, none⟩ = some (.int .i64 kp)) := ⟨(hb.cell (World.block_lt_of_cell? wcr3 _ Zh1.out)).trans Zh1.out⟩
        replace HB := Aside0.mk (HB.out.trans (hb.mono HB.out.size))
        replace KXh := Aside0.mk (blk_below KXh.out hb)
        replace HVl := Aside0.mk (Kd.V_below HVl.out hb)
        replace HCG := Aside0.mk (Kd.C_below HCG.out hb)
        replace KXg := Aside0.mk (blk_below KXg.out hb)
        clear hb hHeld
        refine hK.out _ _ ⟨Zg0.out, Zg1.out, Zh0.out, Zh1.out⟩ (fun hHeld => ?_)
        clear hK K
        refine norm_ (a' := ?_) ?_ ?_
        rotate_left
        · show Act.put _ (some 91) _ = _
          simp only [Act.put, List.setIfInBounds_toArray, List.set_cons_zero, List.set_cons_succ, i64_w, i32_w]
          rfl
        refine pure_ (i := 9) (N := some 92) (v := ?_) (a' := ?_) #[true, true, true, true, true, true, true, true, true, true, false, false, false, false, false, false, false, false, false, false, false, false, false, false, false, false, false, false, false, false, false, false, false, false, false, false, false, false, false, false, false] rfl rfl (any_of HT_.out (by kernel_rfl)) (fun _ _ _ h => h) (Or.inl ⟨by rfl, ?_⟩) ?_ ?_
        rotate_left
        · intro w'
          go_simp
          with_reducible rfl
        rotate_left
        · simp only [Act.put, List.setIfInBounds_toArray, List.set_cons_zero, List.set_cons_succ, i64_w, i32_w]
          rfl
        refine pure_ (i := 10) (N := some 93) (v := ?_) (a' := ?_) #[true, true, true, true, true, true, true, true, true, true, true, false, false, false, false, false, false, false, false, false, false, false, false, false, false, false, false, false, false, false, false, false, false, false, false, false, false, false, false, false, false] rfl rfl (any_of HT_.out (by kernel_rfl)) (fun _ _ _ h => h) (Or.inl ⟨by rfl, ?_⟩) ?_ ?_
        rotate_left
        · intro w'
          go_simp
          with_reducible rfl
        rotate_left
        · simp only [Act.put, List.setIfInBounds_toArray, List.set_cons_zero, List.set_cons_succ, i64_w, i32_w]
          rfl
        refine pure_ (i := 11) (N := some 94) (v := ?_) (a' := ?_) #[true, true, true, true, true, true, true, true, true, true, true, true, false, false, false, false, false, false, false, false, false, false, false, false, false, false, false, false, false, false, false, false, false, false, false, false, false, false, false, false, false] rfl rfl (any_of HT_.out (by kernel_rfl)) (fun _ _ _ h => h) (Or.inl ⟨by rfl, ?_⟩) ?_ ?_
        rotate_left
        · intro w'
          go_simp
          with_reducible rfl
        rotate_left
        · simp only [Act.put, List.setIfInBounds_toArray, List.set_cons_zero, List.set_cons_succ, i64_w, i32_w]
          rfl
        refine pure_ (i := 12) (N := some 95) (v := ?_) (a' := ?_) #[true, true, true, true, true, true, true, true, true, true, true, true, true, false, false, false, false, false, false, false, false, false, false, false, false, false, false, false, false, false, false, false, false, false, false, false, false, false, false, false, false] rfl rfl (any_of HT_.out (by kernel_rfl)) (fun _ _ _ h => h) (Or.inl ⟨by rfl, ?_⟩) ?_ ?_
        rotate_left
        · intro w'
          go_simp
          with_reducible rfl
        rotate_left
        · simp only [Act.put, List.setIfInBounds_toArray, List.set_cons_zero, List.set_cons_succ, i64_w, i32_w]
          rfl
        refine pure_ (i := 13) (N := some 96) (v := ?_) (a' := ?_) #[true, true, true, true, true, true, true, true, true, true, true, true, true, true, false, false, false, false, false, false, false, false, false, false, false, false, false, false, false, false, false, false, false, false, false, false, false, false, false, false, false] rfl rfl (any_of HT_.out (by kernel_rfl)) (fun _ _ _ h => h) (Or.inl ⟨by rfl, ?_⟩) ?_ ?_
        rotate_left
        · intro w'
          go_simp
          with_reducible rfl
        rotate_left
        · simp only [Act.put, List.setIfInBounds_toArray, List.set_cons_zero, List.set_cons_succ, i64_w, i32_w]
          rfl
        try rw [beq_self_eq_true]
        refine pure_ (i := 14) (N := some 97) (v := ?_) (a' := ?_) #[true, true, true, true, true, true, true, true, true, true, true, true, true, true, true, false, false, false, false, false, false, false, false, false, false, false, false, false, false, false, false, false, false, false, false, false, false, false, false, false, false] rfl rfl (any_of HT_.out (by kernel_rfl)) (fun _ _ _ h => h) (Or.inl ⟨by rfl, ?_⟩) ?_ ?_
        rotate_left
        · intro w'
          go_simp
          with_reducible rfl
        rotate_left
        · simp only [Act.put, List.setIfInBounds_toArray, List.set_cons_zero, List.set_cons_succ, i64_w, i32_w]
          rfl
        refine pure_ (i := 15) (N := some 98) (v := ?_) (a' := ?_) #[true, true, true, true, true, true, true, true, true, true, true, true, true, true, true, true, false, false, false, false, false, false, false, false, false, false, false, false, false, false, false, false, false, false, false, false, false, false, false, false, false] rfl rfl (any_of HT_.out (by kernel_rfl)) (fun _ _ _ h => h) (Or.inl ⟨by rfl, ?_⟩) ?_ ?_
        rotate_left
        · intro w'
          go_simp
          with_reducible rfl
        rotate_left
        · simp only [Act.put, List.setIfInBounds_toArray, List.set_cons_zero, List.set_cons_succ, i64_w, i32_w]
          rfl
        refine pure_ (i := 16) (N := some 99) (v := ?_) (a' := ?_) #[true, true, true, true, true, true, true, true, true, true, true, true, true, true, true, true, true, false, false, false, false, false, false, false, false, false, false, false, false, false, false, false, false, false, false, false, false, false, false, false, false] rfl rfl (any_of HT_.out (by kernel_rfl)) (fun _ _ _ h => h) (Or.inl ⟨by rfl, ?_⟩) ?_ ?_
        rotate_left
        · intro w'
          go_simp
          with_reducible rfl
        rotate_left
        · simp only [Act.put, List.setIfInBounds_toArray, List.set_cons_zero, List.set_cons_succ, i64_w, i32_w]
          rfl
        refine pure_ (i := 17) (N := some 100) (v := ?_) (a' := ?_) #[true, true, true, true, true, true, true, true, true, true, true, true, true, true, true, true, true, true, false, false, false, false, false, false, false, false, false, false, false, false, false, false, false, false, false, false, false, false, false, false, false] rfl rfl (any_of HT_.out (by kernel_rfl)) (fun _ _ _ h => h) (Or.inl ⟨by rfl, ?_⟩) ?_ ?_
        rotate_left
        · intro w'
          go_simp
          with_reducible rfl
        rotate_left
        · simp only [Act.put, List.setIfInBounds_toArray, List.set_cons_zero, List.set_cons_succ, i64_w, i32_w]
          rfl
        refine pure_ (i := 18) (N := some 101) (v := ?_) (a' := ?_) #[true, true, true, true, true, true, true, true, true, true, true, true, true, true, true, true, true, true, true, false, false, false, false, false, false, false, false, false, false, false, false, false, false, false, false, false, false, false, false, false, false] rfl rfl (any_of HT_.out (by kernel_rfl)) (fun _ _ _ h => h) (Or.inl ⟨by rfl, ?_⟩) ?_ ?_
        rotate_left
        · intro w'
          go_simp
          with_reducible rfl
        rotate_left
        · simp only [Act.put, List.setIfInBounds_toArray, List.set_cons_zero, List.set_cons_succ, i64_w, i32_w]
          rfl
        try rw [beq_self_eq_true]
        refine pure_ (i := 19) (N := some 102) (v := ?_) (a' := ?_) #[true, true, true, true, true, true, true, true, true, true, true, true, true, true, true, true, true, true, true, true, false, false, false, false, false, false, false, false, false, false, false, false, false, false, false, false, false, false, false, false, false] rfl rfl (any_of HT_.out (by kernel_rfl)) (fun _ _ _ h => h) (Or.inl ⟨by rfl, ?_⟩) ?_ ?_
        rotate_left
        · intro w'
          go_simp
          with_reducible rfl
        rotate_left
        · simp only [Act.put, List.setIfInBounds_toArray, List.set_cons_zero, List.set_cons_succ, i64_w, i32_w]
          rfl
        refine pure_ (i := 20) (N := some 103) (v := ?_) (a' := ?_) #[true, true, true, true, true, true, true, true, true, true, true, true, true, true, true, true, true, true, true, true, true, false, false, false, false, false, false, false, false, false, false, false, false, false, false, false, false, false, false, false, false] rfl rfl (any_of HT_.out (by kernel_rfl)) (fun _ _ _ h => h) (Or.inl ⟨by rfl, ?_⟩) ?_ ?_
        rotate_left
        · intro w'
          go_simp
          with_reducible rfl
        rotate_left
        · simp only [Act.put, List.setIfInBounds_toArray, List.set_cons_zero, List.set_cons_succ, i64_w, i32_w]
          rfl
        refine take_ (i := 21) (N := some 104) (v := ?_) (a' := ?_) #[true, true, true, true, true, true, true, true, true, true, true, true, true, true, true, true, true, true, true, true, true, true, false, false, false, false, false, false, false, false, false, false, false, false, false, false, false, false, false, false, false] rfl rfl (take_ofW HT_.out HW_.out (by kernel_rfl)) (fun _ _ _ h => h) (Or.inl ⟨by rfl, ?_⟩) hHeld ?_ ?_
        rotate_left
        · rintro w' ⟨s0, s1, s2, s3⟩
          go_simp
          with_reducible rfl
        rotate_left
        · simp only [Act.put, List.setIfInBounds_toArray, List.set_cons_zero, List.set_cons_succ, i64_w, i32_w]
          rfl
        refine pure_ (i := 22) (N := some 105) (v := ?_) (a' := ?_) #[true, true, true, true, true, true, true, true, true, true, true, true, true, true, true, true, true, true, true, true, true, true, true, false, false, false, false, false, false, false, false, false, false, false, false, false, false, false, false, false, false] rfl rfl (any_of HT_.out (by kernel_rfl)) (fun _ _ _ h => h) (Or.inl ⟨by rfl, ?_⟩) ?_ ?_
        rotate_left
        · intro w'
          go_simp
          with_reducible rfl
        rotate_left
        · simp only [Act.put, List.setIfInBounds_toArray, List.set_cons_zero, List.set_cons_succ, i64_w, i32_w]
          rfl
        refine pure_ (i := 23) (N := some 106) (v := ?_) (a' := ?_) #[true, true, true, true, true, true, true, true, true, true, true, true, true, true, true, true, true, true, true, true, true, true, true, true, false, false, false, false, false, false, false, false, false, false, false, false, false, false, false, false, false] rfl rfl (any_of HT_.out (by kernel_rfl)) (fun _ _ _ h => h) (Or.inl ⟨by rfl, ?_⟩) ?_ ?_
        rotate_left
        · intro w'
          go_simp
          with_reducible rfl
        rotate_left
        · simp only [Act.put, List.setIfInBounds_toArray, List.set_cons_zero, List.set_cons_succ, i64_w, i32_w]
          rfl
        refine take_ (i := 25) (N := some 108) (v := ?_) (a' := ?_) #[true, true, true, true, true, true, true, true, true, true, true, true, true, true, true, true, true, true, true, true, true, true, true, true, false, true, false, false, false, false, false, false, false, false, false, false, false, false, false, false, false] rfl rfl (take_ofW HT_.out HW_.out (by kernel_rfl)) (fun _ _ _ h => h) (Or.inl ⟨by rfl, ?_⟩) hHeld ?_ ?_
        rotate_left
        · rintro w' ⟨s0, s1, s2, s3⟩
          go_simp
          with_reducible rfl
        rotate_left
        · simp only [Act.put, List.setIfInBounds_toArray, List.set_cons_zero, List.set_cons_succ, i64_w, i32_w]
          rfl
        refine pure_ (i := 26) (N := some 109) (v := ?_) (a' := ?_) #[true, true, true, true, true, true, true, true, true, true, true, true, true, true, true, true, true, true, true, true, true, true, true, true, false, true, true, false, false, false, false, false, false, false, false, false, false, false, false, false, false] rfl rfl (any_of HT_.out (by kernel_rfl)) (fun _ _ _ h => h) (Or.inl ⟨by rfl, ?_⟩) ?_ ?_
        rotate_left
        · intro w'
          go_simp
          with_reducible rfl
        rotate_left
        · simp only [Act.put, List.setIfInBounds_toArray, List.set_cons_zero, List.set_cons_succ, i64_w, i32_w]
          rfl
        refine pure_ (i := 27) (N := some 110) (v := ?_) (a' := ?_) #[true, true, true, true, true, true, true, true, true, true, true, true, true, true, true, true, true, true, true, true, true, true, true, true, false, true, true, true, false, false, false, false, false, false, false, false, false, false, false, false, false] rfl rfl (any_of HT_.out (by kernel_rfl)) (fun _ _ _ h => h) (Or.inl ⟨by rfl, ?_⟩) ?_ ?_
        rotate_left
        · intro w'
          go_simp
          with_reducible rfl
        rotate_left
        · simp only [Act.put, List.setIfInBounds_toArray, List.set_cons_zero, List.set_cons_succ, i64_w, i32_w]
          rfl
        refine one_ (i := 24) (N := some 107) #[true, true, true, true, true, true, true, true, true, true, true, true, true, true, true, true, true, true, true, true, true, true, true, true, true, true, true, true, false, false, false, false, false, false, false, false, false, false, false, false, false] rfl rfl (one_of HT_.out (by kernel_rfl)) (by decide) (fun K hK => ?_)
        refine goes_ Try.func30 (by kernel_rfl) rfl #[.agg #[.slice Ag lg.length cg, .int .i64 kg], .int .i64 root, .int .i64 0, .int .i64 key] (by rfl) rfl rfl (by (try simp only [List.map_toArray, List.map_cons, List.map_nil]); first | done | rfl | (simp only [List.length_drop, List.length_take]; rfl)) ?_
        with_reducible refine (tree_Scan.calls Ag cg lg kg root 0 key L _ HCG.out HCC.out HS6.out).mono ?_
        rintro e wcr24 ⟨v_, rfl, hv, hb⟩
        obtain ⟨As, cs, ev, hc_, hC_⟩ := Kd.R_reads hv
        subst ev
        have HCs := Aside0.mk hC_
        have HEs := Aside0.mk hc_
        clear hv hC_ hc_
        refine ⟨_, rfl, ?_⟩
        replace Zg0 : Aside0 (wcr24.cell? ⟨wr.heap.size, 0, none⟩ = some (.slice Ag lg.length cg)) := ⟨(hb.cell (World.block_lt_of_cell? wcr8 _ Zg0.out)).trans Zg0.out⟩
        replace Zg1 : Aside0 (wcr24.cell? ⟨wr.heap.size, 1, none⟩ = some (.int .i64 kg)) := ⟨(hb.cell (World.block_lt_of_cell? wcr8 _ Zg1.out)).trans Zg1.out⟩
        replace Zh0 : Aside0 (wcr24.cell? ⟨w.heap.size + 1, 0, none⟩ = some (.slice A l.length c)) := ⟨(hb.cell (World.block_lt_of_cell? wcr8 _ Zh0.out)).trans Zh0.out⟩
        replace Zh1 : Aside0 (wcr24.cell? ⟨w.heap.size + 1, 1, none⟩ = some (.int .i64 kp)) := ⟨(hb.cell (World.block_lt_of_cell? wcr8 _ Zh1.out)).trans Zh1.out⟩
        replace HB := Aside0.mk (HB.out.trans (hb.mono HB.out.size))
        replace KXh := Aside0.mk (blk_below KXh.out hb)
        replace HVl := Aside0.mk (Kd.V_below HVl.out hb)
        replace HCG := Aside0.mk (Kd.C_below HCG.out hb)
        replace KXg := Aside0.mk (blk_below KXg.out hb)
        clear hb hHeld
        refine hK.out _ _ ⟨Zg0.out, Zg1.out, Zh0.out, Zh1.out⟩ (fun hHeld => ?_)
        clear hK K
        refine norm_ (a' := ?_) ?_ ?_
        rotate_left
        · show Act.put _ (some 107) _ = _
          simp only [Act.put, List.setIfInBounds_toArray, List.set_cons_zero, List.set_cons_succ, i64_w, i32_w]
          rfl
        refine one_ (i := 28) (N := some 111) #[true, true, true, true, true, true, true, true, true, true, true, true, true, true, true, true, true, true, true, true, true, true, true, true, true, true, true, true, true, false, false, false, false, false, false, false, false, false, false, false, false] rfl rfl (one_of HT_.out (by kernel_rfl)) (by decide) (fun K hK => ?_)
        refine goes_ Try.func30 (by kernel_rfl) rfl #[.agg #[.slice A l.length c, .int .i64 kp], .int .i64 root, .int .i64 0, .int .i64 key] (by rfl) rfl rfl (by (try simp only [List.map_toArray, List.map_cons, List.map_nil]); first | done | rfl | (simp only [List.length_drop, List.length_take]; rfl)) ?_
        with_reducible refine (tree_Scan.calls A c l kp root 0 key L _ (Kd.V_reads' HVl.out).2.2 (Kd.V_reads' HVl.out).2.1 HS5.out).mono ?_
        rintro e wcr28 ⟨v_, rfl, hv, hb⟩
        obtain ⟨At, ct, ev, hc_, hC_⟩ := Kd.R_reads hv
        subst ev
        have HCt := Aside0.mk hC_
        have HEt := Aside0.mk hc_
        clear hv hC_ hc_
        replace HCs := Aside0.mk (Kd.C_below HCs.out hb)
        refine ⟨_, rfl, ?_⟩
        replace Zg0 : Aside0 (wcr28.cell? ⟨wr.heap.size, 0, none⟩ = some (.slice Ag lg.length cg)) := ⟨(hb.cell (World.block_lt_of_cell? wcr24 _ Zg0.out)).trans Zg0.out⟩
        replace Zg1 : Aside0 (wcr28.cell? ⟨wr.heap.size, 1, none⟩ = some (.int .i64 kg)) := ⟨(hb.cell (World.block_lt_of_cell? wcr24 _ Zg1.out)).trans Zg1.out⟩
        replace Zh0 : Aside0 (wcr28.cell? ⟨w.heap.size + 1, 0, none⟩ = some (.slice A l.length c)) := ⟨(hb.cell (World.block_lt_of_cell? wcr24 _ Zh0.out)).trans Zh0.out⟩
        replace Zh1 : Aside0 (wcr28.cell? ⟨w.heap.size + 1, 1, none⟩ = some (.int .i64 kp)) := ⟨(hb.cell (World.block_lt_of_cell? wcr24 _ Zh1.out)).trans Zh1.out⟩
        replace HB := Aside0.mk (HB.out.trans (hb.mono HB.out.size))
        replace KXh := Aside0.mk (blk_below KXh.out hb)
        replace HVl := Aside0.mk (Kd.V_below HVl.out hb)
        replace HCG := Aside0.mk (Kd.C_below HCG.out hb)
        replace KXg := Aside0.mk (blk_below KXg.out hb)
        clear hb hHeld
        refine hK.out _ _ ⟨Zg0.out, Zg1.out, Zh0.out, Zh1.out⟩ (fun hHeld => ?_)
        clear hK K
        refine norm_ (a' := ?_) ?_ ?_
        rotate_left
        · show Act.put _ (some 111) _ = _
          simp only [Act.put, List.setIfInBounds_toArray, List.set_cons_zero, List.set_cons_succ, i64_w, i32_w]
          rfl
        refine one_ (i := 29) (N := some 112) #[true, true, true, true, true, true, true, true, true, true, true, true, true, true, true, true, true, true, true, true, true, true, true, true, true, true, true, true, true, true, false, false, false, false, false, false, false, false, false, false, false] rfl rfl (one_of HT_.out (by kernel_rfl)) (by decide) (fun K hK => ?_)
        refine goes_ Try.func29 (by kernel_rfl) rfl #[.slice As L.length cs, .slice At L.length ct] (by rfl) rfl rfl (by (try simp only [List.map_toArray, List.map_cons, List.map_nil]); first | done | rfl | (simp only [List.length_drop, List.length_take]; rfl)) ?_
        with_reducible refine (assartref04_Items.calls 10000 As cs L At ct L true _ HCs.out HEs.out HCt.out HEt.out HS7.out).mono ?_
        rintro e wcr29 ⟨rfl, hd⟩
        have hb := hd.below
        clear hd
        refine ⟨_, rfl, ?_⟩
        replace Zg0 : Aside0 (wcr29.cell? ⟨wr.heap.size, 0, none⟩ = some (.slice Ag lg.length cg)) := ⟨(hb.cell (World.block_lt_of_cell? wcr28 _ Zg0.out)).trans Zg0.out⟩
        replace Zg1 : Aside0 (wcr29.cell? ⟨wr.heap.size, 1, none⟩ = some (.int .i64 kg)) := ⟨(hb.cell (World.block_lt_of_cell? wcr28 _ Zg1.out)).trans Zg1.out⟩
        replace Zh0 : Aside0 (wcr29.cell? ⟨w.heap.size + 1, 0, none⟩ = some (.slice A l.length c)) := ⟨(hb.cell (World.block_lt_of_cell? wcr28 _ Zh0.out)).trans Zh0.out⟩
        replace Zh1 : Aside0 (wcr29.cell? ⟨w.heap.size + 1, 1, none⟩ = some (.int .i64 kp)) := ⟨(hb.cell (World.block_lt_of_cell? wcr28 _ Zh1.out)).trans Zh1.out⟩
        replace HB := Aside0.mk (HB.out.trans (hb.mono HB.out.size))
        replace KXh := Aside0.mk (blk_below KXh.out hb)
        replace HVl := Aside0.mk (Kd.V_below HVl.out hb)
        replace HCG := Aside0.mk (Kd.C_below HCG.out hb)
        replace KXg := Aside0.mk (blk_below KXg.out hb)
        clear hb hHeld
        refine hK.out _ _ ⟨Zg0.out, Zg1.out, Zh0.out, Zh1.out⟩ (fun hHeld => ?_)
        clear hK K
        refine norm_ (a' := ?_) ?_ ?_
        rotate_left
        · show Act.put _ (some 112) _ = _
          simp only [Act.put, List.setIfInBounds_toArray, List.set_cons_zero, List.set_cons_succ, i64_w, i32_w]
          rfl
        refine pure_ (i := 30) (N := some 113) (v := ?_) (a' := ?_) #[true, true, true, true, true, true, true, true, true, true, true, true, true, true, true, true, true, true, true, true, true, true, true, true, true, true, true, true, true, true, true, false, false, false, false, false, false, false, false, false, false] rfl rfl (any_of HT_.out (by kernel_rfl)) (fun _ _ _ h => h) (Or.inl ⟨by rfl, ?_⟩) ?_ ?_
        rotate_left
        · intro w'
          go_simp
          with_reducible rfl
        rotate_left
        · simp only [Act.put, List.setIfInBounds_toArray, List.set_cons_zero, List.set_cons_succ, i64_w, i32_w]
          rfl
        refine pure_ (i := 31) (N := some 114) (v := ?_) (a' := ?_) #[true, true, true, true, true, true, true, true, true, true, true, true, true, true, true, true, true, true, true, true, true, true, true, true, true, true, true, true, true, true, true, true, false, false, false, false, false, false, false, false, false] rfl rfl (any_of HT_.out (by kernel_rfl)) (fun _ _ _ h => h) (Or.inl ⟨by rfl, ?_⟩) ?_ ?_
        rotate_left
        · intro w'
          go_simp
          with_reducible rfl
        rotate_left
        · simp only [Act.put, List.setIfInBounds_toArray, List.set_cons_zero, List.set_cons_succ, i64_w, i32_w]
          rfl
        refine take_ (i := 32) (N := some 115) (v := ?_) (a' := ?_) #[true, true, true, true, true, true, true, true, true, true, true, true, true, true, true, true, true, true, true, true, true, true, true, true, true, true, true, true, true, true, true, true, true, false, false, false, false, false, false, false, false] rfl rfl (take_ofW HT_.out HW_.out (by kernel_rfl)) (fun _ _ _ h => h) (Or.inl ⟨by rfl, ?_⟩) hHeld ?_ ?_
        rotate_left
        · rintro w' ⟨s0, s1, s2, s3⟩
          go_simp
          with_reducible rfl
        rotate_left
        · simp only [Act.put, List.setIfInBounds_toArray, List.set_cons_zero, List.set_cons_succ, i64_w, i32_w]
          rfl
        refine pure_ (i := 33) (N := some 116) (v := ?_) (a' := ?_) #[true, true, true, true, true, true, true, true, true, true, true, true, true, true, true, true, true, true, true, true, true, true, true, true, true, true, true, true, true, true, true, true, true, true, false, false, false, false, false, false, false] rfl rfl (any_of HT_.out (by kernel_rfl)) (fun _ _ _ h => h) (Or.inl ⟨by rfl, ?_⟩) ?_ ?_
        rotate_left
        · intro w'
          go_simp
          with_reducible rfl
        rotate_left
        · simp only [Act.put, List.setIfInBounds_toArray, List.set_cons_zero, List.set_cons_succ, i64_w, i32_w]
          rfl
        refine take_ (i := 35) (N := some 118) (v := ?_) (a' := ?_) #[true, true, true, true, true, true, true, true, true, true, true, true, true, true, true, true, true, true, true, true, true, true, true, true, true, true, true, true, true, true, true, true, true, true, false, true, false, false, false, false, false] rfl rfl (take_ofW HT_.out HW_.out (by kernel_rfl)) (fun _ _ _ h => h) (Or.inl ⟨by rfl, ?_⟩) hHeld ?_ ?_
        rotate_left
        · rintro w' ⟨s0, s1, s2, s3⟩
          go_simp
          with_reducible rfl
        rotate_left
        · simp only [Act.put, List.setIfInBounds_toArray, List.set_cons_zero, List.set_cons_succ, i64_w, i32_w]
          rfl
        refine pure_ (i := 36) (N := some 119) (v := ?_) (a' := ?_) #[true, true, true, true, true, true, true, true, true, true, true, true, true, true, true, true, true, true, true, true, true, true, true, true, true, true, true, true, true, true, true, true, true, true, false, true, true, false, false, false, false] rfl rfl (any_of HT_.out (by kernel_rfl)) (fun _ _ _ h => h) (Or.inl ⟨by rfl, ?_⟩) ?_ ?_
        rotate_left
        · intro w'
          go_simp
          with_reducible rfl
        rotate_left
        · simp only [Act.put, List.setIfInBounds_toArray, List.set_cons_zero, List.set_cons_succ, i64_w, i32_w]
          rfl
        refine one_ (i := 34) (N := some 117) #[true, true, true, true, true, true, true, true, true, true, true, true, true, true, true, true, true, true, true, true, true, true, true, true, true, true, true, true, true, true, true, true, true, true, true, true, true, false, false, false, false] rfl rfl (one_of HT_.out (by kernel_rfl)) (by decide) (fun K hK => ?_)
        refine goes_ Try.func21 (by kernel_rfl) rfl #[.agg #[.slice Ag lg.length cg, .int .i64 kg], .int .i64 root] (by rfl) rfl rfl (by (try simp only [List.map_toArray, List.map_cons, List.map_nil]); first | done | rfl | (simp only [List.length_drop, List.length_take]; rfl)) ?_
        with_reducible refine (tree_High.calls 10000 Ag cg lg kg root hh _ HCG.out HCC.out HS9.out).mono ?_
        rintro e wcr34 ⟨rfl, hb⟩
        refine ⟨_, rfl, ?_⟩
        replace Zg0 : Aside0 (wcr34.cell? ⟨wr.heap.size, 0, none⟩ = some (.slice Ag lg.length cg)) := ⟨(hb.cell (World.block_lt_of_cell? wcr29 _ Zg0.out)).trans Zg0.out⟩
        replace Zg1 : Aside0 (wcr34.cell? ⟨wr.heap.size, 1, none⟩ = some (.int .i64 kg)) := ⟨(hb.cell (World.block_lt_of_cell? wcr29 _ Zg1.out)).trans Zg1.out⟩
        replace Zh0 : Aside0 (wcr34.cell? ⟨w.heap.size + 1, 0, none⟩ = some (.slice A l.length c)) := ⟨(hb.cell (World.block_lt_of_cell? wcr29 _ Zh0.out)).trans Zh0.out⟩
        replace Zh1 : Aside0 (wcr34.cell? ⟨w.heap.size + 1, 1, none⟩ = some (.int .i64 kp)) := ⟨(hb.cell (World.block_lt_of_cell? wcr29 _ Zh1.out)).trans Zh1.out⟩
        replace HB := Aside0.mk (HB.out.trans (hb.mono HB.out.size))
        replace KXh := Aside0.mk (blk_below KXh.out hb)
        replace HVl := Aside0.mk (Kd.V_below HVl.out hb)
        replace HCG := Aside0.mk (Kd.C_below HCG.out hb)
        replace KXg := Aside0.mk (blk_below KXg.out hb)
        clear hb hHeld
        refine hK.out _ _ ⟨Zg0.out, Zg1.out, Zh0.out, Zh1.out⟩ (fun hHeld => ?_)
        clear hK K
        refine norm_ (a' := ?_) ?_ ?_
        rotate_left
        · show Act.put _ (some 117) _ = _
          simp only [Act.put, List.setIfInBounds_toArray, List.set_cons_zero, List.set_cons_succ, i64_w, i32_w]
          rfl
        refine one_ (i := 37) (N := some 120) #[true, true, true, true, true, true, true, true, true, true, true, true, true, true, true, true, true, true, true, true, true, true, true, true, true, true, true, true, true, true, true, true, true, true, true, true, true, true, false, false, false] rfl rfl (one_of HT_.out (by kernel_rfl)) (by decide) (fun K hK => ?_)
        refine goes_ Try.func21 (by kernel_rfl) rfl #[.agg #[.slice A l.length c, .int .i64 kp], .int .i64 root] (by rfl) rfl rfl (by (try simp only [List.map_toArray, List.map_cons, List.map_nil]); first | done | rfl | (simp only [List.length_drop, List.length_take]; rfl)) ?_
        with_reducible refine (tree_High.calls 10000 A c l kp root hh _ (Kd.V_reads' HVl.out).2.2 (Kd.V_reads' HVl.out).2.1 HS8.out).mono ?_
        rintro e wcr37 ⟨rfl, hb⟩
        refine ⟨_, rfl, ?_⟩
        replace Zg0 : Aside0 (wcr37.cell? ⟨wr.heap.size, 0, none⟩ = some (.slice Ag lg.length cg)) := ⟨(hb.cell (World.block_lt_of_cell? wcr34 _ Zg0.out)).trans Zg0.out⟩
        replace Zg1 : Aside0 (wcr37.cell? ⟨wr.heap.size, 1, none⟩ = some (.int .i64 kg)) := ⟨(hb.cell (World.block_lt_of_cell? wcr34 _ Zg1.out)).trans Zg1.out⟩
        replace Zh0 : Aside0 (wcr37.cell? ⟨w.heap.size + 1, 0, none⟩ = some (.slice A l.length c)) := ⟨(hb.cell (World.block_lt_of_cell? wcr34 _ Zh0.out)).trans Zh0.out⟩
        replace Zh1 : Aside0 (wcr37.cell? ⟨w.heap.size + 1, 1, none⟩ = some (.int .i64 kp)) := ⟨(hb.cell (World.block_lt_of_cell? wcr34 _ Zh1.out)).trans Zh1.out⟩
        replace HB := Aside0.mk (HB.out.trans (hb.mono HB.out.size))
        replace KXh := Aside0.mk (blk_below KXh.out hb)
        replace HVl := Aside0.mk (Kd.V_below HVl.out hb)
        replace HCG := Aside0.mk (Kd.C_below HCG.out hb)
        replace KXg := Aside0.mk (blk_below KXg.out hb)
        clear hb hHeld
        refine hK.out _ _ ⟨Zg0.out, Zg1.out, Zh0.out, Zh1.out⟩ (fun hHeld => ?_)
        clear hK K
        refine norm_ (a' := ?_) ?_ ?_
        rotate_left
        · show Act.put _ (some 120) _ = _
          simp only [Act.put, List.setIfInBounds_toArray, List.set_cons_zero, List.set_cons_succ, i64_w, i32_w]
          rfl
        refine pure_ (i := 38) (N := some 121) (v := ?_) (a' := ?_) #[true, true, true, true, true, true, true, true, true, true, true, true, true, true, true, true, true, true, true, true, true, true, true, true, true, true, true, true, true, true, true, true, true, true, true, true, true, true, true, false, false] rfl rfl (any_of HT_.out (by kernel_rfl)) (fun _ _ _ h => h) (Or.inl ⟨by rfl, ?_⟩) ?_ ?_
        rotate_left
        · intro w'
          go_simp
          with_reducible rfl
        rotate_left
        · simp only [Act.put, List.setIfInBounds_toArray, List.set_cons_zero, List.set_cons_succ, i64_w, i32_w]
          rfl
        try rw [beq_self_eq_true]
        refine pure_ (i := 39) (N := some 122) (v := ?_) (a' := ?_) #[true, true, true, true, true, true, true, true, true, true, true, true, true, true, true, true, true, true, true, true, true, true, true, true, true, true, true, true, true, true, true, true, true, true, true, true, true, true, true, true, false] rfl rfl (any_of HT_.out (by kernel_rfl)) (fun _ _ _ h => h) (Or.inl ⟨by rfl, ?_⟩) ?_ ?_
        rotate_left
        · intro w'
          go_simp
          with_reducible rfl
        rotate_left
        · simp only [Act.put, List.setIfInBounds_toArray, List.set_cons_zero, List.set_cons_succ, i64_w, i32_w]
          rfl
        refine pure_ (i := 40) (N := some 2) (v := ?_) (a' := ?_) #[true, true, true, true, true, true, true, true, true, true, true, true, true, true, true, true, true, true, true, true, true, true, true, true, true, true, true, true, true, true, true, true, true, true, true, true, true, true, true, true, true] rfl rfl (any_of HT_.out (by kernel_rfl)) (fun _ _ _ h => h) (Or.inl ⟨by rfl, ?_⟩) ?_ ?_
        rotate_left
        · intro w'
          go_simp
          with_reducible rfl
        rotate_left
        · simp only [Act.put, List.setIfInBounds_toArray, List.set_cons_zero, List.set_cons_succ, i64_w, i32_w]
          rfl
        refine done_ (done_of HT_.out (by kernel_rfl)) ?_
        clear hHeld HT_ HW_
        clear Zg0 Zg1 Zh0 Zh1
        go_wp2
        go_ret
        exact ⟨rfl, HB.out⟩
end Go.Proofs.Yteiladccdenpbaa.P
end
section
namespace Go.Proofs.Yteiladccdenpbaa.P
open Go.RowKit Go.Proofs.YteiladccdenpbaaW.PrintWords Go.Proofs.YteiladccdenpbaaW.PrintLast Go.Proofs.YteiladccdenpbaaW.PrintMore
set_option linter.unusedVariables false
set_option linter.unusedSimpArgs false
structure Opens {α : Type} (P : Program) (t : TypeId) (d : Kd α) (ok : α → Prop) : Prop where
  sz : P.cellsOf t = d.sz
  op : ∀ {H : Type} {enc : TypeId × Value → H} {W : World} {base : Nat} {spare : Nat → Bool} {held : Bool} {fuel : Nat} {cs : List Value} {y : DataW H × List MemPlace}, DataW.trod enc P W base spare held fuel t cs = some y → (DataW.weights P t y.1).all (· ≤ reachBytes) = true → ∃ x, d.K W x cs ∧ ok x
theorem Opens.int {P : Program} {t : TypeId} {k : IntKind} (h : P.underlying t = some (.int k)) (hs : P.cellsOf t = 1) : Opens P t (Kd.int k) (fun n => (Lit.int k n).wf = true) :=
  ⟨hs, fun hy _ => by
    obtain ⟨n, rfl, _, hw⟩ := DataW.trod_int h hy
    exact ⟨n, rfl, hw⟩⟩
theorem Opens.bool {P : Program} {t : TypeId} (h : P.underlying t = some .bool) (hs : P.cellsOf t = 1) : Opens P t Kd.bool (fun _ => True) :=
  ⟨hs, fun hy _ => by
    obtain ⟨b, rfl, _⟩ := DataW.trod_bool h hy
    exact ⟨b, rfl, trivial⟩⟩
theorem choose_row {α : Type} {R : Nat → α → Prop} : ∀ n, (∀ i, i < n → ∃ x, R i x) → ∃ xs : List α, xs.length = n ∧ ∀ i x, xs[i]? = some x → R i x
  | 0, _ => ⟨[], rfl, fun i x h => by simp at h⟩
  | n + 1, h => by
    obtain ⟨xs, hl, hx⟩ := choose_row n (fun i hi => h i (by omega))
    obtain ⟨x, hr⟩ := h n (by omega)
    refine ⟨xs ++ [x], by simp [hl], fun i z hz => ?_⟩
    by_cases hi : i < n
    · rw [List.getElem?_append_left (by omega)] at hz
      exact hx i z hz
    · rw [List.getElem?_append_right (by omega)] at hz
      have : i - xs.length = 0 := by
        rcases Nat.eq_zero_or_pos (i - xs.length) with h0 | h0
        · exact h0
        · rw [List.getElem?_eq_none (by simp; omega)] at hz; cases hz
      rw [this] at hz
      simp at hz
      subst hz
      have : i = n := by omega
      rw [this]; exact hr
theorem weightsAll_mem {H : Type} {P : Program} {e : TypeId} : ∀ {ds : List (DataW H)}, (DataW.weightsAll P e ds).all (· ≤ reachBytes) = true → ∀ d ∈ ds, (DataW.weights P e d).all (· ≤ reachBytes) = true
  | [], _, d, hd => by cases hd
  | a :: ds, h, d, hd => by
    simp only [DataW.weightsAll, List.all_append, Bool.and_eq_true] at h
    rcases List.mem_cons.1 hd with rfl | hd
    · exact h.1
    · exact weightsAll_mem h.2 d hd
theorem Opens.slice {α : Type} {P : Program} {t e : TypeId} {d : Kd α} {ok : α → Prop} {B : Nat} (h : P.underlying t = some (.slice e)) (hs : P.cellsOf t = 1) (hB : P.bytesOf e = B) (he : Opens P e d ok) : Opens P t (Kd.slice e d) (fun xs => xs.length * B ≤ 140737488351232 ∧ ∀ x ∈ xs, ok x) :=
  ⟨hs, fun {H enc W base spare held fuel cs y} hy hw => by
    rcases DataW.trod_slice h hy with ⟨rfl, rfl⟩ | ⟨a, len, cap, elems, rest, n, rfl, rfl, rfl, hb, hl, hc, hel, hi, _, _⟩
    · exact ⟨[], ⟨none, 0, rfl, Nat.le_refl _, Kd.C_nil _ _⟩, by simp⟩
    · unfold DataW.weights at hw
      rw [h] at hw
      simp only [List.all_cons, List.all_append, Bool.and_eq_true, decide_eq_true_eq, hB, List.length_map] at hw
      obtain ⟨hw0, hw1, _⟩ := hw
      have hx : ∀ i, i < len → ∃ x, ok x ∧ ∃ c, c.length = d.sz ∧ d.K W x c ∧ W.cells? base (a.add (i * d.sz)) d.sz = some c := by
        intro i hlt
        have h1 := hi i hlt
        rw [List.getElem?_eq_getElem (by omega)] at h1
        obtain ⟨c, hc1, hc2⟩ := Option.bind_eq_some_iff.1 h1
        obtain ⟨x, hK, hok⟩ := he.op hc2 (weightsAll_mem hw1 _ (List.mem_map_of_mem (List.getElem_mem _)))
        rw [he.sz] at hc1
        exact ⟨x, hok, c, d.K_len hK, hK, hc1⟩
      obtain ⟨xs, hxl, hxs⟩ := choose_row len hx
      refine ⟨xs, ⟨some a, cap, by rw [hxl], by omega, rfl, ?_, fun hpos => ⟨a, rfl, fun j p hj => ?_⟩⟩, ?_, ?_⟩
      · simp only [maxLen] at hc; omega
      · obtain ⟨_, c, hcl, hK, hcc⟩ := hxs j p hj
        refine ⟨c, hcl, hK, fun i u hu => ?_⟩
        obtain ⟨_, _, hcell⟩ := World.cells?_some hcc
        have hi : i < d.sz := by rw [← hcl]; exact (List.getElem?_eq_some_iff.1 hu).1
        have := hcell i hi
        rw [Addr.add_add] at this
        rw [this, hu]
      · rw [hxl, ← hel]
        refine Nat.le_trans (Nat.mul_le_mul_right _ (Nat.le_add_right _ _)) hw0
      · intro x hx
        obtain ⟨i, hlt, rfl⟩ := List.getElem_of_mem hx
        exact (hxs i _ (List.getElem?_eq_getElem hlt)).1⟩
theorem weights_at {H : Type} {P : Program} : ∀ {ts : List TypeId} {ds : List (DataW H)} {j : Nat} {t : TypeId} {d : DataW H}, (DataW.weightsEach P ts ds).all (· ≤ reachBytes) = true → ts[j]? = some t → ds[j]? = some d → (DataW.weights P t d).all (· ≤ reachBytes) = true
  | [], _, _, _, _, _, ht, _ => by simp at ht
  | _ :: _, [], _, _, _, _, _, hd => by simp at hd
  | t0 :: ts, d0 :: ds, 0, _, _, h, ht, hd => by
    simp only [List.getElem?_cons_zero, Option.some.injEq] at ht hd
    subst ht; subst hd
    simp only [DataW.weightsEach, List.all_append, Bool.and_eq_true] at h
    exact h.1
  | t0 :: ts, d0 :: ds, j + 1, _, _, h, ht, hd => by
    simp only [List.getElem?_cons_succ] at ht hd
    simp only [DataW.weightsEach, List.all_append, Bool.and_eq_true] at h
    exact weights_at h.2 ht hd
structure OpensFs {α : Type} (P : Program) (fs : List Field) (off : Nat) (d : Kd α) (ok : α → Prop) : Prop where
  op : ∀ {H : Type} {enc : TypeId × Value → H} {W : World} {base : Nat} {spare : Nat → Bool} {held : Bool} {fuel : Nat} {cs : List Value} {ys : List (DataW H × List MemPlace)},
    (∀ (i : Nat) (f : Field), fs[i]? = some f → DataW.trod enc P W base spare held fuel f.type ((cs.drop f.offset).take (P.cellsOf f.type)) = ys[i]?) → ys.length = fs.length →
    (DataW.weightsEach P (fs.map (·.type)) (ys.map (·.1))).all (· ≤ reachBytes) = true → cs.length = off + d.sz → ∃ x, d.K W x (cs.drop off) ∧ ok x
theorem OpensFs.one {α : Type} {P : Program} {f : Field} {t : TypeId} {off : Nat} {d : Kd α} {ok : α → Prop} (ht : f.type = t) (hoff : f.offset = off) (h : Opens P t d ok) : OpensFs P [f] off d ok :=
  ⟨fun {H enc W base spare held fuel cs ys} hy hl hw hcs => by
    obtain ⟨y, rfl⟩ : ∃ y, ys = [y] := by
      cases ys with
      | nil => simp at hl
      | cons y ys => cases ys with
        | nil => exact ⟨y, rfl⟩
        | cons => simp at hl
    have h0 := hy 0 f rfl
    simp only [List.getElem?_cons_zero] at h0
    simp only [List.map_cons, List.map_nil, DataW.weightsEach, List.append_nil] at hw
    rw [ht] at h0 hw
    obtain ⟨x, hK, hok⟩ := h.op h0 hw
    rw [hoff, List.take_of_length_le (by rw [List.length_drop, h.sz]; omega)] at hK
    exact ⟨x, hK, hok⟩⟩
theorem OpensFs.cons {α β : Type} {P : Program} {f : Field} {fs : List Field} {t : TypeId} {off n : Nat} {d : Kd α} {d' : Kd β} {ok : α → Prop} {ok' : β → Prop} (ht : f.type = t) (hoff : f.offset = off) (h : Opens P t d ok) (hn : off + d.sz = n) (hr : OpensFs P fs n d' ok') :
    OpensFs P (f :: fs) off (Kd.pair d d') (fun x => ok x.1 ∧ ok' x.2) :=
  ⟨fun {H enc W base spare held fuel cs ys} hy hl hw hcs => by
    cases ys with
    | nil => simp at hl
    | cons y ys =>
      have h0 := hy 0 f rfl
      simp only [List.getElem?_cons_zero] at h0
      simp only [List.map_cons, DataW.weightsEach, List.all_append, Bool.and_eq_true] at hw
      have hw0 := hw.1
      rw [ht] at h0 hw0
      obtain ⟨x, hK, hok⟩ := h.op h0 hw0
      have hsz : (Kd.pair d d').sz = d.sz + d'.sz := rfl
      rw [hsz] at hcs
      obtain ⟨x', hK', hok'⟩ := hr.op (fun i g hg => hy (i + 1) g (by simpa using hg)) (by simpa using hl) hw.2 (by omega)
      refine ⟨(x, x'), ⟨_, _, ?_, hK, hK'⟩, hok, hok'⟩
      rw [hoff, h.sz, ← hn, ← List.drop_drop]
      exact (List.take_append_drop _ _).symm⟩
theorem Opens.struct {α β : Type} {P : Program} {t : TypeId} {fs : Array Field} {fl : List Field} {d : Kd α} {ok : α → Prop} (f : β → α) (g : α → β) (hfg : ∀ x, f (g x) = x) (h : P.underlying t = some (.struct fs)) (hfl : fs.toList = fl) (hs : P.cellsOf t = d.sz) (ho : OpensFs P fl 0 d ok) :
    Opens P t (Kd.iso d f) (fun x => ok (f x)) :=
  ⟨hs, fun {H enc W base spare held fuel cs y} hy hw => by
    obtain ⟨xs, n, rfl, rfl, hcl, hxl, hx⟩ := DataW.trod_struct h hy
    unfold DataW.weights at hw
    rw [h] at hw
    simp only [hfl] at hw
    subst hfl
    obtain ⟨x, hK, hok⟩ := ho.op (ys := xs) (fun i f hf => hx i f (by simpa using hf)) (by simpa using hxl) hw (by omega)
    rw [List.drop_zero] at hK
    refine ⟨g x, ?_, ?_⟩
    · show d.K W (f (g x)) cs
      rw [hfg]; exact hK
    · rw [hfg]; exact hok⟩
end Go.Proofs.Yteiladccdenpbaa.P
end
section
namespace Go.Proofs.Yteiladccdenpbaa.treeStays
open Go.ChangeShapes Go.WideShapes Go.ChangeAt Go.RowKit Go.Proofs.Yteiladccdenpbaa.P Go.Proofs.YteiladccdenpbaaW.PrintWords Go.Proofs.YteiladccdenpbaaW.PrintLast Go.Proofs.YteiladccdenpbaaW.PrintMore
open Go.ChangeMaps (open_string shut_string)
set_option linter.unusedVariables false
set_option linter.unusedSimpArgs false
def ok49 (x : S49) : Prop := (fun x => (Lit.int .i64 x).wf = true) x.f0 ∧ (fun x => (Lit.int .i64 x).wf = true) x.f1
theorem opens49 : Opens Try.prog 49 k49 ok49 := Opens.struct (fs := _) (fun x : S49 => (x.f0, x.f1)) (fun p => ⟨p.1, p.2⟩) (fun _ => rfl) Try.underlying49 rfl (by kernel_rfl) (OpensFs.cons rfl rfl (Opens.int Try.underlying3 (by kernel_rfl)) rfl (OpensFs.one rfl rfl (Opens.int Try.underlying3 (by kernel_rfl))))
def ok53 (x : S53) : Prop := (fun x => True) x.f0 ∧ (fun x => x.length * 16 ≤ 140737488351232 ∧ ∀ y ∈ x, (ok49) y) x.f1
theorem opens53 : Opens Try.prog 53 k53 ok53 := Opens.struct (fs := _) (fun x : S53 => (x.f0, x.f1)) (fun p => ⟨p.1, p.2⟩) (fun _ => rfl) Try.underlying53 rfl (by kernel_rfl) (OpensFs.cons rfl rfl (Opens.bool Try.underlying4 (by kernel_rfl)) rfl (OpensFs.one rfl rfl (Opens.slice (B := 16) Try.underlying43 (by kernel_rfl) (by kernel_rfl) opens49)))
def ok55 (x : S55) : Prop := (fun x => (Lit.int .i64 x).wf = true) x.f0 ∧ (fun x => True) x.f1 ∧ (ok53) x.f2
theorem opens55 : Opens Try.prog 55 k55 ok55 := Opens.struct (fs := _) (fun x : S55 => (x.f0, x.f1, x.f2)) (fun p => ⟨p.1, p.2.1, p.2.2⟩) (fun _ => rfl) Try.underlying55 rfl (by kernel_rfl) (OpensFs.cons rfl rfl (Opens.int Try.underlying3 (by kernel_rfl)) rfl (OpensFs.cons rfl rfl (Opens.bool Try.underlying4 (by kernel_rfl)) rfl (OpensFs.one rfl rfl opens53)))
theorem own : ownKnob Try.prog.godebug = none := by kernel_rfl
theorem laidOut : laidOutB Try.prog = true := by kernel_rfl
set_option maxHeartbeats 1000000 in
set_option maxRecDepth 100000 in
theorem lifted (os : Os) (started : os.Started) (H : Type) (enc : TypeId × Value → H) :
  ReturnsInHanded {} Try.checked os 8 .any (Rows.treeStaysSpec.pre6 enc Try.prog Try.f8 Rows.treeStaysRow.domain false) (Rows.treeStaysSpec.post enc Try.prog Try.f8 false true false false) := by
 refine returnsInHanded_of_change_sized (C := Try.checked) own started (by kernel_rfl) Try.func8
  (ChangeSpec.witness6 (enc := enc) (C := Try.checked) false ⟨#[], #[.agg #[.slice none 0 0, .int .i64 0, .int .i64 0, .int .u8 0, .int .i64 0]], []⟩ 8 (by kernel_rfl) (by kernel_rfl) (by kernel_rfl) (by kernel_rfl)) ?_
 intro W base args ds gs before hval0 hW hcnd hsz0 _
 have hsz : (DataW.weightsEach Try.prog (Try.f8.params.toList ++ Rows.treeStaysSpec.plain.varTypes Try.prog) (ds ++ gs)).all (· ≤ reachBytes) = true := hsz0
 have hval : ∀ (j : Nat) t v, Try.f8.params[j]? = some t → args[j]? = some v → Value.okWide Try.prog W .any base t v := hval0
 have hW' := hW
 obtain ⟨p, q, hA0, hV, rfl, hfz, hnd⟩ := hW
 have hA : DataW.TrodAll enc Try.prog W 0 (fun _ => true) true Try.f8.params.toList args.toList ds p := hA0
 rw [Try.params8] at hA hval hsz
 obtain ⟨v0, vs0, d0, ds0, p0, q0, hargs, rfl, rfl, h0, r0⟩ := trodAll_cons hA
 obtain ⟨rfl, rfl, rfl⟩ := trodAll_nil r0
 obtain rfl : args = #[v0] := by cases args; simp_all
 obtain ⟨rfl, rfl⟩ := trodVars_none hV
 have k0 := h0
 have lt0 : ∀ x ∈ p0, x.block < W.heap.size := by obtain ⟨m, hm⟩ := k0; exact DataW.trod_lt m _ _ _ hm
 have wt0 := weights_at hsz (j := 0) (t := 57) (d := d0) rfl rfl
 obtain ⟨fuel0, hf0⟩ := h0
 obtain ⟨x0, hK0, hok0⟩ := (Opens.struct (f := id) (g := id) (fun _ => rfl) Try.underlying57 rfl (by kernel_rfl) (OpensFs.cons rfl rfl (Opens.struct (f := id) (g := id) (fun _ => rfl) Try.underlying24 rfl (by kernel_rfl) (OpensFs.cons rfl rfl (Opens.slice (B := 48) Try.underlying22 (by kernel_rfl) (by kernel_rfl) opens55) rfl (OpensFs.one rfl rfl (Opens.int Try.underlying3 (by kernel_rfl))))) rfl (OpensFs.cons rfl rfl (Opens.int Try.underlying3 (by kernel_rfl)) rfl (OpensFs.cons rfl rfl (Opens.int Try.underlying5 (by kernel_rfl)) rfl (OpensFs.one rfl rfl (Opens.int Try.underlying3 (by kernel_rfl))))))).op hf0 wt0
 obtain ⟨cs0, rfl, hsz0⟩ := okWide_struct Try.underlying57 (hval 0 57 v0 rfl rfl)
 obtain ⟨⟨l0_0, a0_1⟩, a0_2, a0_3, a0_4⟩ := x0
 obtain ⟨L0, hL0⟩ : ∃ L, (Value.agg cs0).cells.toList = L := ⟨_, rfl⟩
 rw [hL0] at hK0
 obtain ⟨_, _, rfl, ⟨_, _, rfl, ⟨A0_0, c0_0, rfl, hc0_0, hr0_0⟩, rfl⟩, ⟨_, _, rfl, rfl, ⟨_, _, rfl, rfl, rfl⟩⟩⟩ := hK0
 obtain rfl : cs0 = #[.slice A0_0 l0_0.length c0_0, .int .i64 a0_1, .int .i64 a0_2, .int .u8 a0_3, .int .i64 a0_4] := by have h := hL0; simp [Value.cells] at h; cases cs0; simp_all
 obtain ⟨⟨o0_0, o0_1⟩, o0_2, o0_3, o0_4⟩ := hok0
 clear hA0 hval0 hsz0 hsz
 refine (assartlaw07_TreeStays.walk A0_0 c0_0 l0_0 a0_1 a0_2 a0_3 a0_4 W hr0_0 hc0_0 (by have := (of_decide_eq_true ((Bool.and_eq_true _ _ ▸ o0_3 : _ ∧ _).1) : (0 : Int) ≤ a0_3); exact this) (by have := (of_decide_eq_true ((Bool.and_eq_true _ _ ▸ o0_3 : _ ∧ _).2) : a0_3 ≤ (255 : Int)); exact this)).mono fun e W' ⟨he, bel0⟩ => ?_
 have bel := bel0
 subst he
 exact ⟨_, rfl, _, _, _, [], _, [], hW', trodAll_mk1 (shut_bool Try.underlying4 _), (trodAll_cons_mk (Below.trod laidOut (by kernel_rfl) (of_decide_eq_true (by kernel_rfl)) k0 bel lt0) trodAll_mk0), rfl, bel.frame _, fun h => by cases h⟩
theorem over : Rows.treeStaysRow.holds Try.pinned (OpenSpec.ofChange Rows.treeStaysSpec) :=
 OpenClaim.holds_of_wide 8 Try.f8 rfl rfl rfl rfl rfl rfl rfl ⟨rfl, rfl, rfl, rfl, rfl⟩ rfl rfl rfl rfl rfl (by kernel_rfl) Try.func8 (by kernel_rfl)
  (of_decide_eq_true (by kernel_rfl)) (by unfold Func.isWrapper; first | (rw [if_pos (by decide +kernel)]; kernel_rfl) | (rw [if_neg (by decide +kernel)]; exact ⟨rfl, rfl⟩))
  (fun os started H enc _ => lifted os started H enc)
theorem proved : Rows.TreeStaysSaid := over
#print axioms proved
end Go.Proofs.Yteiladccdenpbaa.treeStays
namespace Go.Proofs.Yteiladccdenpbaa
theorem treeStays_holds : Rows.TreeStaysSaid := treeStays.proved
end Go.Proofs.Yteiladccdenpbaa
end
