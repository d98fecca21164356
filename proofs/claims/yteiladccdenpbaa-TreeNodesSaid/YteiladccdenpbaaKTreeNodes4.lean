/- Texts of this claim's proof put together: PTrB, F19, F56, HShown7. -/
import Derived.Below
import Derived.Deep.Draws
import Derived.Deep.AppendLies
import Derived.Maps.AppendAt
import Derived.OwnWalk
import Derived.Laws.BytesArg
import Derived.Laws.MakeOwn
import Derived.Laws.OwnMore
import Derived.Deep.OwnRows
import Derived.Tactics
import Derived.Lib.ConvBytes
import Derived.Laws.Slices
import Derived.WalkKit
import Derived.KernelRfl
import Derived.RowKit3
import Derived.Deep.LoopGhost
import Derived.Deep.QuietTactic
import Derived.BigQuiet
import Derived.WideLaws
import Derived.Deep.DeepCutAuto
import Derived.Deep.CutBlock
import Derived.Deep.RegionHeld3
import Derived.Laws.Rows
import Derived.Lib.AppendStr
import Derived.ArgAppend
import Derived.Laws.IdiomCopy
import Derived.RowKit
import Derived.OrdersHeld
import Derived.Laws.BitsLemmas
import Derived.Laws.StructEq
import Derived.Test.YteiladccdenpbaaProg
import Derived.Shelf.RegionOpenPlain
import Derived.Shelf.Abstract
import Derived.RangeFuncNested
import Derived.RangeFuncBound
import Derived.RangeFuncCalls
import Derived.RangeFuncLeaves
import Derived.Shelf.RegionOpen
import Derived.OwnWalkIn
import Derived.TacticsInMore
import Derived.LoopNIn
import Derived.LoopIn
import Derived.Laws.EntriesVeiled
import Derived.RangeFuncBox
import Derived.ChangeArms
import Derived.DataReads
import Derived.DataElems
import Derived.SizedLaws
import Derived.Test.YteiladccdenpbaaRows
import Derived.ProofKit
import Derived.OpenShut
import Derived.ShutString
import Derived.ChangeOld
import Derived.Test.YteiladccdenpbaaKTreeNodes0
import Derived.Test.YteiladccdenpbaaKTreeNodes1
import Derived.Test.YteiladccdenpbaaKTreeNodes2
import Derived.Test.YteiladccdenpbaaKTreeNodes3
namespace Foot
end Foot
namespace Go.Proofs.Yteiladccdenpbaa
end Go.Proofs.Yteiladccdenpbaa
namespace Go.Proofs.Yteiladccdenpbaa.P
end Go.Proofs.Yteiladccdenpbaa.P
namespace Go.Proofs.Yteiladccdenpbaa.Pure
end Go.Proofs.Yteiladccdenpbaa.Pure
namespace Go.Proofs.Yteiladccdenpbaa.treeNodes
end Go.Proofs.Yteiladccdenpbaa.treeNodes
namespace Go.Proofs.YteiladccdenpbaaW.PrintLast
end Go.Proofs.YteiladccdenpbaaW.PrintLast
namespace Go.Proofs.YteiladccdenpbaaW.PrintMore
end Go.Proofs.YteiladccdenpbaaW.PrintMore
namespace Go.Proofs.YteiladccdenpbaaW.PrintWords
end Go.Proofs.YteiladccdenpbaaW.PrintWords
namespace Kd
end Kd
section
namespace Go.Proofs.Yteiladccdenpbaa.P
open Go.RowKit Go.Proofs.YteiladccdenpbaaW.PrintWords Go.Proofs.YteiladccdenpbaaW.PrintLast Go.Proofs.YteiladccdenpbaaW.PrintMore
set_option linter.unusedVariables false
set_option linter.unusedSimpArgs false
def Pre (l : List S55) (it : List S49) (c j : Nat) : Prop := ∀ i, i < j → Tr l c (vAt it i) ∧ lo l (vAt it i) = kAt it i ∧ (i + 1 < j → Hi l c (vAt it i) < kAt it (i + 1))
theorem Pre.snoc {l : List S55} {it : List S49} {c j : Nat} (h : Pre l it c j) (t : Tr l c (vAt it j)) (k : lo l (vAt it j) = kAt it j) (g : 0 < j → Hi l c (vAt it (j - 1)) < kAt it j) : Pre l it c (j + 1) := fun i hi => by
  by_cases e : i = j
  · subst e; exact ⟨t, k, fun h => by omega⟩
  · refine ⟨(h i (by omega)).1, (h i (by omega)).2.1, fun h2 => ?_⟩
    by_cases e2 : i + 1 = j
    · have := g (by omega)
      rw [show j - 1 = i by omega] at this
      rw [e2]
      exact this
    · exact (h i (by omega)).2.2 (by omega)
theorem pre_tr {l : List S55} {p : Int} (h0 : 0 ≤ p) (h1 : p < (l.length : Int)) (hr : 0 < Rf l p) (hl : Lf l p = false) {c : Nat} (hc : 1 ≤ c) : Tr l (c + 1) p ↔ Pre l (It l p) c (It l p).length := by
  obtain ⟨c, rfl⟩ : ∃ m, c = m + 1 := ⟨c - 1, by omega⟩
  exact ⟨fun t i hi => t.2.2.2.2 i hi, fun h => ⟨h0, h1, hr, hl, fun i hi => h i hi⟩⟩
abbrev BS (l : List S55) (p : Int) (m : Nat) (r : Int × Int × Int × Bool) : Prop :=
  (r.2.2.2 = true → ∃ h, h ≤ m ∧ Tr l h p ∧ r.1 = lo l p ∧ r.2.1 = Hi l h p ∧ r.2.2.1 = (h : Int)) ∧ (r.2.2.2 = false → ∀ h, h ≤ m → ¬ Tr l h p)
abbrev BL (l : List S55) (it : List S49) (m : Nat) (r : Int × Int × Int × Bool) : Prop :=
  (r.2.2.2 = true → ∃ c, 1 ≤ c ∧ c ≤ m ∧ Pre l it c it.length ∧ r.1 = kAt it 0 ∧ r.2.1 = Hi l c (vAt it (it.length - 1)) ∧ r.2.2.1 = (c : Int) + 1) ∧ (r.2.2.2 = false → ∀ c, c ≤ m → ¬ Pre l it c it.length)
theorem below_loop {l : List S55} {kp : Int} (H : HR l) (it : List S49) (lf : Bool) (hl0 : 0 < it.length) (hl : it.length ≤ 1000) (m : Nat) (hm : m ≤ 1000)
    (hF : ∀ i, i < it.length → ∀ k, 10 * m + 10 ≤ k → ∃ r, assartref07_below.f k l kp (vAt it i) (m : Int) = some r ∧ BS l (vAt it i) m r) :
    ∀ (d k j : Nat) (a b c : Int) (is : Bool), j + d = it.length → 10 * m + 10 + 2 * d + 1 ≤ k →
      (0 < j → ∃ h : Nat, 1 ≤ h ∧ h ≤ m ∧ Pre l it h j ∧ a = kAt it 0 ∧ b = Hi l h (vAt it (j - 1)) ∧ c = (h : Int) + 1) →
      ∃ r, assartref07_below.l0 k ((m + 1 : Nat) : Int) (j : Int) l kp lf it a b c is = some r ∧ BL l it m r := by
  intro d
  induction d with
  | zero =>
    intro k j a b c is hj hk hI
    obtain ⟨k, rfl⟩ : ∃ m, k = m + 1 := ⟨k - 1, by omega⟩
    obtain rfl : j = it.length := by omega
    simp only [assartref07_below.l0]
    rw [if_neg (by omega)]
    exact ⟨_, rfl, fun _ => hI hl0, fun h => by cases h⟩
  | succ d ih =>
    intro k j a b c is hj hk hI
    obtain ⟨k, rfl⟩ : ∃ m, k = m + 2 := ⟨k - 2, by omega⟩
    obtain ⟨x, hx, hs⟩ := hF j (by omega) (k + 1) (by omega)
    simp only [assartref07_below.l0]
    have hw : wrap64 (((m + 1 : Nat) : Int) - 1) = (m : Int) := by unfold wrap64; omega
    rw [if_pos (by omega), if_pos (by omega), hw, show (rd_T49 it (j : Nat)).f1 = vAt it j from rfl, show (rd_T49 it (j : Nat)).f0 = kAt it j from rfl, hx, Option.bind_some]
    have no : ∀ r : Int × Int × Int × Bool, r = (0, 0, 0, false) → (∀ c, c ≤ m → Pre l it c it.length → False) → ∃ r', (some r : Option (Int × Int × Int × Bool)) = some r' ∧ BL l it m r' :=
      fun r e h => ⟨r, rfl, fun hh => (by rw [e] at hh; cases hh), fun _ c hc hp => h c hc hp⟩
    by_cases h1 : x.2.2.2 = true
    · rw [if_pos h1]
      obtain ⟨h, hhm, ht, hlo, hhi, hhg⟩ := hs.1 h1
      have hh1 := ht.pos
      by_cases h2 : x.1 = kAt it j
      · rw [if_pos h2]
        by_cases h3 : (j : Int) > 0
        · obtain ⟨c', c1, c2, hp, rfl, rfl, rfl⟩ := hI (by omega)
          rw [if_pos h3]
          by_cases h4 : Hi l c' (vAt it (j - 1)) ≥ x.1
          · rw [if_pos h4]
            simp only [assartref07_below.j1]
            rw [if_pos trivial]
            refine no _ rfl fun c hc hq => ?_
            have e := tr_uniq H (hp (j - 1) (by omega)).1 (hq (j - 1) (by omega)).1
            subst e
            have := (hq (j - 1) (by omega)).2.2 (by omega)
            rw [show j - 1 + 1 = j by omega] at this
            omega
          · rw [if_neg h4]
            have hw2 : wrap64 (x.2.2.1 + 1) = (h : Int) + 1 := by rw [hhg]; unfold wrap64; omega
            rw [hw2]
            by_cases h5 : c' = h
            · subst h5
              simp only [assartref07_below.j1]
              rw [if_neg (by simp), if_neg (by omega), wsucc j (by omega)]
              exact ih k (j + 1) _ _ _ _ (by omega) (by omega) (fun _ => ⟨c', c1, c2, hp.snoc ht (by rw [← hlo, h2]) (fun _ => by omega), rfl, by rw [hhi]; rfl, rfl⟩)
            · simp only [assartref07_below.j1]
              rw [if_pos (by rw [bne_iff_ne]; omega)]
              refine no _ rfl fun c hc hq => ?_
              have e := tr_uniq H (hp (j - 1) (by omega)).1 (hq (j - 1) (by omega)).1
              have e2 := tr_uniq H ht (hq j (by omega)).1
              omega
        · obtain rfl : j = 0 := by omega
          rw [if_neg h3]
          simp only [assartref07_below.j1]
          have hw2 : wrap64 (x.2.2.1 + 1) = (h : Int) + 1 := by rw [hhg]; unfold wrap64; omega
          rw [if_neg (by simp), if_pos (show ((0 : Nat) : Int) = 0 from rfl), wsucc 0 (by omega), hw2]
          exact ih k (0 + 1) _ _ _ _ (by omega) (by omega) (fun _ => ⟨h, hh1, hhm, Pre.snoc (fun i hi => by omega) ht (by rw [← hlo, h2]) (fun h => by omega), h2, hhi, rfl⟩)
      · rw [if_neg h2]
        simp only [assartref07_below.j1]
        rw [if_pos trivial]
        refine no _ rfl fun c hc hq => ?_
        have := (hq j (by omega)).2.1
        omega
    · rw [if_neg h1]
      simp only [assartref07_below.j1]
      rw [if_pos trivial]
      rw [Bool.not_eq_true] at h1
      exact no _ rfl fun c hc hq => hs.2 h1 c hc (hq j (by omega)).1
theorem below_val {l : List S55} {kp : Int} (H : HR l) : ∀ (m k : Nat) (p : Int), m ≤ 1000 → 0 ≤ p → p < (l.length : Int) → 10 * m + 10 ≤ k → ∃ r, assartref07_below.f k l kp p (m : Int) = some r ∧ BS l p m r := by
  intro m
  induction m with
  | zero =>
    intro k p hm h0 h1 hk
    obtain ⟨k, rfl⟩ : ∃ m, k = m + 1 := ⟨k - 1, by omega⟩
    have none : ∀ h, h ≤ 0 → ¬ Tr l h p := fun h hh t => by have := t.pos; omega
    simp only [assartref07_below.f]
    rw [if_pos h0, if_pos h1]
    by_cases hr : Rf l p < 1
    · rw [if_pos hr]
      exact ⟨_, rfl, fun h => (by cases h), fun _ => none⟩
    · rw [if_neg hr]
      have hn := H.rn h0 h1 (by omega)
      have := hn.1
      have := hn.2.1
      by_cases hl : (rd_T55 l p).f2.f0 = true
      · have hw : wrap64 (((rd_T55 l p).f2.f1.length : Int) - 1) = (((It l p).length - 1 : Nat) : Int) := by
          show wrap64 (((It l p).length : Int) - 1) = _
          unfold wrap64; omega
        rw [if_pos hl, if_pos (show (0 : Int) < ((It l p).length : Int) by omega), hw, if_pos (by omega), if_pos (show (((It l p).length - 1 : Nat) : Int) < ((It l p).length : Int) by omega)]
        exact ⟨_, rfl, fun h => by simp at h, fun _ => none⟩
      · rw [if_neg hl, if_pos (by omega)]
        exact ⟨_, rfl, fun h => (by cases h), fun _ => none⟩
  | succ m ih =>
    intro k p hm h0 h1 hk
    obtain ⟨k, rfl⟩ : ∃ m, k = m + 1 := ⟨k - 1, by omega⟩
    simp only [assartref07_below.f]
    rw [if_pos h0, if_pos h1]
    by_cases hr : Rf l p < 1
    · rw [if_pos hr]
      exact ⟨_, rfl, fun h => (by cases h), fun _ h _ t => (by have := t.base.2.2; omega)⟩
    · rw [if_neg hr]
      have hn := H.rn h0 h1 (by omega)
      have := hn.1
      have := hn.2.1
      by_cases hl : (rd_T55 l p).f2.f0 = true
      · have hw : wrap64 (((rd_T55 l p).f2.f1.length : Int) - 1) = (((It l p).length - 1 : Nat) : Int) := by
          show wrap64 (((It l p).length : Int) - 1) = _
          unfold wrap64; omega
        rw [if_pos hl, if_pos (show (0 : Int) < ((It l p).length : Int) by omega), hw, if_pos (by omega), if_pos (show (((It l p).length - 1 : Nat) : Int) < ((It l p).length : Int) by omega)]
        refine ⟨_, rfl, fun _ => ⟨1, by omega, ⟨h0, h1, by omega, hl⟩, rfl, rfl, rfl⟩, fun h => ?_⟩
        have := of_decide_eq_false h
        omega
      · rw [if_neg hl]
        rw [Bool.not_eq_true] at hl
        have hlf : Lf l p = false := hl
        by_cases hm1 : m = 0
        · subst hm1
          rw [if_pos (by omega)]
          refine ⟨_, rfl, fun h => (by cases h), fun _ h hh t => ?_⟩
          have a := t.leaf
          rw [hlf] at a
          have := t.pos
          have := of_decide_eq_false a.symm
          omega
        · rw [if_neg (by omega)]
          obtain ⟨r, hr', hs⟩ := below_loop (kp := kp) H (It l p) (Lf l p) (by omega) (by omega) m (by omega) (fun i hi k hk => by
            have := H.ch h0 h1 (by omega) hlf hi
            exact ih k _ (by omega) this.1 this.2 hk) _ k 0 0 0 0 false (Nat.zero_add _) (by omega) (fun h => by omega)
          refine ⟨r, hr', fun h => ?_, fun h h' hh t => ?_⟩
          · obtain ⟨c, c1, c2, hp, e1, e2, e3⟩ := hs.1 h
            refine ⟨c + 1, by omega, (pre_tr h0 h1 (by omega) hlf c1).2 hp, e1, ?_, by rw [e3]; rfl⟩
            obtain ⟨c, rfl⟩ : ∃ m, c = m + 1 := ⟨c - 1, by omega⟩
            exact e2
          · have a := t.leaf
            rw [hlf] at a
            have a := of_decide_eq_false a.symm
            have := t.pos
            obtain ⟨c, rfl⟩ : ∃ c, h' = c + 1 := ⟨h' - 1, by omega⟩
            exact hs.2 h c (by omega) ((pre_tr h0 h1 (by omega) hlf (by omega)).1 t)
def RightP (l : List S55) (root : Int) : Prop := root = -1 ∨ ∃ h, h ≤ 20 ∧ Tr l h root
theorem refRight_val {l : List S55} {kp : Int} (H : HR l) (root : Int) {k : Nat} (hk : 300 ≤ k) : ∃ b, assartref07_Right.f k l kp root = some b ∧ (b = true ↔ RightP l root) := by
  unfold assartref07_Right.f assartref05_Used.f
  by_cases h : root = -1
  · rw [if_pos h]
    exact ⟨true, rfl, fun _ => .inl h, fun _ => rfl⟩
  · rw [if_neg h]
    have none : (root < 0 ∨ (l.length : Int) ≤ root ∨ Rf l root ≤ 0) → ¬ RightP l root := by
      rintro hh (e | ⟨c, _, t⟩)
      · exact h e
      · have := t.base; omega
    by_cases h0 : root ≥ 0
    · rw [if_pos h0]
      by_cases h1 : root < (l.length : Int)
      · rw [if_pos h1, if_pos h0, Option.bind_some]
        by_cases h2 : (rd_T55 l root).f0 > 0
        · rw [if_pos (decide_eq_true h2)]
          obtain ⟨r, hr, hs⟩ := below_val (kp := kp) H 20 k root (by omega) h0 h1 (by omega)
          rw [show ((20 : Nat) : Int) = 20 from rfl] at hr
          rw [hr, Option.bind_some]
          refine ⟨_, rfl, fun hb => ?_, fun hb => ?_⟩
          · obtain ⟨c, hc, t, _⟩ := hs.1 hb
            exact .inr ⟨c, hc, t⟩
          · rcases hb with hb | ⟨c, hc, t⟩
            · exact absurd hb h
            · cases hb : r.2.2.2 with
              | true => rfl
              | false => exact absurd t (hs.2 hb c hc)
        · rw [if_neg (by simpa using h2)]
          exact ⟨_, rfl, fun h => (by cases h), fun hb => absurd hb (none (by simp only [Rf]; omega))⟩
      · rw [if_neg h1, Option.bind_some, if_neg (by simp)]
        exact ⟨_, rfl, fun h => (by cases h), fun hb => absurd hb (none (by omega))⟩
    · rw [if_neg h0, Option.bind_some, if_neg (by simp)]
      exact ⟨_, rfl, fun h => (by cases h), fun hb => absurd hb (none (by omega))⟩
abbrev WS (l : List S55) (p : Int) (c : Nat) (r : Int × Int × Bool) : Prop := (r.2.2 = true ↔ Tr l c p) ∧ (r.2.2 = true → r.1 = lo l p ∧ r.2.1 = Hi l c p)
theorem whole_loop {l : List S55} {kp : Int} (H : HR l) (it : List S49) (hl0 : 0 < it.length) (hl : it.length ≤ 1000) (c : Nat) (hc : 1 ≤ c) (hm : c ≤ 1000)
    (hF : ∀ i, i < it.length → ∀ k, 8 * c + 8 ≤ k → ∃ r, tree_whole.f k l kp (vAt it i) (c : Int) = some r ∧ WS l (vAt it i) c r) :
    ∀ (d k j : Nat) (a b : Int), j + d = it.length → 8 * c + 8 + d + 1 ≤ k → Pre l it c j → (0 < j → b = Hi l c (vAt it (j - 1))) →
      ∃ r, tree_whole.l0 k ((c + 1 : Nat) : Int) it (it.length : Int) (j : Int) l kp a b = some r ∧ (r.2.2 = true ↔ Pre l it c it.length) ∧ (r.2.2 = true → r.1 = a ∧ r.2.1 = Hi l c (vAt it (it.length - 1))) := by
  intro d
  induction d with
  | zero =>
    intro k j a b hj hk hp hb
    obtain ⟨k, rfl⟩ : ∃ m, k = m + 1 := ⟨k - 1, by omega⟩
    obtain rfl : j = it.length := by omega
    simp only [tree_whole.l0]
    rw [if_neg (by omega)]
    exact ⟨_, rfl, ⟨fun _ => hp, fun _ => rfl⟩, fun _ => ⟨rfl, hb hl0⟩⟩
  | succ d ih =>
    intro k j a b hj hk hp hb
    obtain ⟨k, rfl⟩ : ∃ m, k = m + 1 := ⟨k - 1, by omega⟩
    obtain ⟨x, hx, hs1, hs2⟩ := hF j (by omega) k (by omega)
    simp only [tree_whole.l0]
    have hw : wrap64 (((c + 1 : Nat) : Int) - 1) = (c : Int) := by unfold wrap64; omega
    rw [if_pos (by omega), if_pos (by omega), if_pos (by omega), hw, show (rd_T49 it (j : Nat)).f1 = vAt it j from rfl, show (rd_T49 it (j : Nat)).f0 = kAt it j from rfl, hx, Option.bind_some, wsucc j (by omega)]
    have no : ∀ u v : Int, (Pre l it c it.length → False) → ∃ r, some (u, v, false) = some r ∧ (r.2.2 = true ↔ Pre l it c it.length) ∧ (r.2.2 = true → r.1 = a ∧ r.2.1 = Hi l c (vAt it (it.length - 1))) :=
      fun u v h => ⟨_, rfl, ⟨fun h => (by cases h), fun hh => (h hh).elim⟩, fun h => by cases h⟩
    by_cases h1 : x.2.2 = true
    · rw [if_pos h1]
      have ht := hs1.1 h1
      obtain ⟨hlo, hhi⟩ := hs2 h1
      by_cases h2 : x.1 = kAt it j
      · rw [if_pos h2]
        by_cases h3 : (j : Int) > 0
        · rw [if_pos h3]
          have hb := hb (by omega)
          by_cases h4 : b ≥ kAt it j
          · rw [if_pos h4]
            refine no _ _ fun hq => ?_
            have := (hq (j - 1) (by omega)).2.2 (by omega)
            rw [show j - 1 + 1 = j by omega] at this
            omega
          · rw [if_neg h4]
            exact ih k (j + 1) _ _ (by omega) (by omega) (hp.snoc ht (by rw [← hlo, h2]) (fun _ => by omega)) (fun _ => by rw [hhi]; rfl)
        · rw [if_neg h3]
          exact ih k (j + 1) _ _ (by omega) (by omega) (hp.snoc ht (by rw [← hlo, h2]) (fun h => by omega)) (fun _ => by rw [hhi]; rfl)
      · rw [if_neg h2]
        refine no _ _ fun hq => ?_
        have := (hq j (by omega)).2.1
        omega
    · rw [if_neg h1]
      exact no _ _ fun hq => h1 (hs1.2 (hq j (by omega)).1)
theorem whole_val {l : List S55} {kp : Int} (H : HR l) : ∀ (c k : Nat) (p : Int), 1 ≤ c → c ≤ 1000 → 0 ≤ p → p < (l.length : Int) → 8 * c + 8 ≤ k → ∃ r, tree_whole.f k l kp p (c : Int) = some r ∧ WS l p c r := by
  intro c
  induction c with
  | zero => intro k p h; omega
  | succ c ih =>
    intro k p _ hc h0 h1 hk
    obtain ⟨k, rfl⟩ : ∃ m, k = m + 2 := ⟨k - 2, by omega⟩
    have no : ∀ u v : Int, ¬ Tr l (c + 1) p → ∃ r, some (u, v, false) = some r ∧ WS l p (c + 1) r :=
      fun u v h => ⟨_, rfl, ⟨fun h => (by cases h), fun hh => (h hh).elim⟩, fun h => by cases h⟩
    simp only [tree_whole.f]
    rw [if_pos h0, if_pos h1]
    have hrf := (H.rf h0 h1).1
    by_cases hr : (rd_T55 l p).f0 = 0
    · rw [if_pos hr]
      exact no _ _ fun t => by have := t.base.2.2; simp only [Rf] at this; omega
    · rw [if_neg hr]
      have hr : 0 < Rf l p := by simp only [Rf] at hrf ⊢; omega
      have hn := H.rn h0 h1 hr
      have := hn.1
      have := hn.2.1
      have hw : wrap64 (((rd_T55 l p).f2.f1.length : Int) - 1) = (((It l p).length - 1 : Nat) : Int) := by
        show wrap64 (((It l p).length : Int) - 1) = _
        unfold wrap64; omega
      by_cases hl : (rd_T55 l p).f2.f0 = true
      · rw [if_pos hl]
        simp only [tree_whole.j0]
        rw [if_pos trivial, if_pos (show (0 : Int) < ((It l p).length : Int) by omega), hw, if_pos (by omega), if_pos (show (((It l p).length - 1 : Nat) : Int) < ((It l p).length : Int) by omega), if_pos hl]
        by_cases e : c = 0
        · subst e
          exact ⟨_, rfl, ⟨fun _ => ⟨h0, h1, hr, hl⟩, fun _ => rfl⟩, fun _ => ⟨rfl, rfl⟩⟩
        · rw [show (((c + 1 : Nat) : Int) == 1) = false from beq_eq_false_iff_ne.2 (by omega)]
          refine no _ _ fun t => ?_
          have a := t.leaf
          simp only [Lf] at a
          rw [hl] at a
          have := of_decide_eq_true a.symm
          omega
      · rw [if_neg hl]
        rw [Bool.not_eq_true] at hl
        simp only [tree_whole.j0]
        by_cases e : c = 0
        · subst e
          rw [if_pos (by rfl), if_pos (show (0 : Int) < ((It l p).length : Int) by omega), hw, if_pos (by omega), if_pos (show (((It l p).length - 1 : Nat) : Int) < ((It l p).length : Int) by omega), if_neg (by rw [hl]; simp)]
          refine no _ _ fun t => ?_
          have a := t.leaf
          simp only [Lf] at a
          rw [hl] at a
          cases a
        · rw [if_neg (by rw [beq_iff_eq]; omega), if_pos (show (0 : Int) < ((It l p).length : Int) by omega)]
          obtain ⟨r, hr', hs1, hs2⟩ := whole_loop (kp := kp) H (It l p) (by omega) (by omega) c (by omega) (by omega) (fun i hi k hk => by
            have := H.ch h0 h1 hr hl hi
            exact ih k _ (by omega) (by omega) this.1 this.2 hk) _ k 0 (kAt (It l p) 0) 0 (Nat.zero_add _) (by omega) (fun i hi => by omega) (fun h => by omega)
          refine ⟨r, hr', hs1.trans (pre_tr h0 h1 hr hl (by omega)).symm, fun h => ⟨(hs2 h).1, ?_⟩⟩
          obtain ⟨c, rfl⟩ : ∃ m, c = m + 1 := ⟨c - 1, by omega⟩
          exact (hs2 h).2
def LD (l : List S55) : Nat → Int → Prop
  | 0, p => Lf l p = true
  | m + 1, p => Lf l p = false ∧ 0 < Rf l (vAt (It l p) 0) ∧ LD l m (vAt (It l p) 0)
theorem tr_ld {l : List S55} (H : HR l) : ∀ (h : Nat) (p : Int), Tr l (h + 1) p → LD l h p := by
  intro h
  induction h with
  | zero => intro p t; exact t.2.2.2
  | succ h ih =>
    intro p t
    have hn := (t.rn H).1
    have t0 := (t.2.2.2.2 0 (by omega)).1
    exact ⟨t.2.2.2.1, t0.base.2.2, ih _ t0⟩
theorem right_l0 {l : List S55} {kp : Int} (H : HR l) (root : Int) (r0 : 0 ≤ root) (r1 : root < (l.length : Int)) : ∀ (d j k : Nat) (p : Int), j + d = 20 → 1 ≤ j → 0 ≤ p → p < (l.length : Int) → 0 < Rf l p → 200 + d ≤ k →
    ∃ r, tree_Right.l0 k root (j : Int) p l kp = some r ∧ (r = true ↔ ∃ m, m ≤ d ∧ LD l m p ∧ Tr l (j + m) root) := by
  intro d
  induction d with
  | zero =>
    intro j k p hj hj1 h0 h1 hr hk
    obtain ⟨k, rfl⟩ : ∃ m, k = m + 1 := ⟨k - 1, by omega⟩
    simp only [tree_Right.l0]
    rw [if_pos h0, if_pos h1]
    by_cases hl : (rd_T55 l p).f2.f0 = true
    · rw [if_pos hl]
      obtain ⟨r, hr', hs, _⟩ := whole_val (kp := kp) H j k root hj1 (by omega) r0 r1 (by omega)
      rw [hr', Option.bind_some]
      refine ⟨_, rfl, hs.trans ⟨fun t => ⟨0, Nat.le_refl _, hl, t⟩, fun ⟨m, hm, _, t⟩ => ?_⟩⟩
      obtain rfl : m = 0 := by omega
      exact t
    · rw [if_neg hl, if_pos (by omega)]
      refine ⟨_, rfl, fun h => (by cases h), fun ⟨m, hm, hd, _⟩ => ?_⟩
      obtain rfl : m = 0 := by omega
      exact absurd hd hl
  | succ d ih =>
    intro j k p hj hj1 h0 h1 hr hk
    obtain ⟨k, rfl⟩ : ∃ m, k = m + 1 := ⟨k - 1, by omega⟩
    have hn := (H.rn h0 h1 hr).1
    simp only [tree_Right.l0]
    rw [if_pos h0, if_pos h1]
    by_cases hl : (rd_T55 l p).f2.f0 = true
    · rw [if_pos hl]
      obtain ⟨r, hr', hs, _⟩ := whole_val (kp := kp) H j k root hj1 (by omega) r0 r1 (by omega)
      rw [hr', Option.bind_some]
      refine ⟨_, rfl, hs.trans ⟨fun t => ⟨0, by omega, hl, t⟩, fun ⟨m, hm, hd, t⟩ => ?_⟩⟩
      match m, hd, t with
      | 0, hd, t => exact t
      | m + 1, hd, t => exact absurd (show Lf l p = true from hl) (by rw [hd.1]; simp)
    · rw [if_neg hl, if_neg (by omega), if_pos (show (0 : Int) < ((It l p).length : Int) by omega)]
      rw [Bool.not_eq_true] at hl
      have hch := H.ch h0 h1 hr hl (show 0 < (It l p).length by omega)
      have hw : wrap64 ((j : Int) + 1) = ((j + 1 : Nat) : Int) := wsucc j (by omega)
      rw [if_pos (show 0 ≤ (rd_T49 (rd_T55 l p).f2.f1 0).f1 from hch.1), if_pos (show (rd_T49 (rd_T55 l p).f2.f1 0).f1 < (l.length : Int) from hch.2), hw]
      have hrf := (H.rf hch.1 hch.2).1
      by_cases h3 : (rd_T55 l (rd_T49 (rd_T55 l p).f2.f1 0).f1).f0 = 0
      · rw [if_pos h3]
        have h3 : Rf l (vAt (It l p) 0) = 0 := h3
        refine ⟨_, rfl, fun h => (by cases h), fun ⟨m, hm, hd, _⟩ => ?_⟩
        match m, hd with
        | 0, hd => exact absurd hd (by show ¬ (rd_T55 l p).f2.f0 = true; rw [hl]; simp)
        | m + 1, hd => have := hd.2.1; omega
      · rw [if_neg h3]
        have h3 : ¬ Rf l (vAt (It l p) 0) = 0 := h3
        obtain ⟨r, hr', hs⟩ := ih (j + 1) k (vAt (It l p) 0) (by omega) (by omega) hch.1 hch.2 (by omega) (by omega)
        refine ⟨r, hr', hs.trans ⟨fun ⟨m, hm, hd, t⟩ => ⟨m + 1, by omega, ⟨hl, by omega, hd⟩, by rw [show j + (m + 1) = j + 1 + m by omega]; exact t⟩, fun ⟨m, hm, hd, t⟩ => ?_⟩⟩
        match m, hd, t with
        | 0, hd, t => exact absurd hd (by show ¬ (rd_T55 l p).f2.f0 = true; rw [hl]; simp)
        | m + 1, hd, t => exact ⟨m, by omega, hd.2.2, by rw [show j + 1 + m = j + (m + 1) by omega]; exact t⟩
theorem right_val {l : List S55} {kp : Int} (H : HR l) (root : Int) {k : Nat} (hk : 300 ≤ k) : ∃ b, tree_Right.f k l kp root = some b ∧ (b = true ↔ RightP l root) := by
  unfold tree_Right.f
  obtain ⟨k, rfl⟩ : ∃ m, k = m + 1 := ⟨k - 1, by omega⟩
  by_cases h : root = -1
  · rw [if_pos h]
    exact ⟨true, rfl, fun _ => .inl h, fun _ => rfl⟩
  · rw [if_neg h]
    simp only [tree_Right.j0]
    have none : (root < 0 ∨ (l.length : Int) ≤ root ∨ Rf l root ≤ 0) → ¬ RightP l root := by
      rintro hh (e | ⟨c, _, t⟩)
      · exact h e
      · have := t.base; omega
    by_cases h0 : root < 0
    · rw [if_pos h0, if_pos trivial]
      exact ⟨_, rfl, fun h => (by cases h), fun hb => absurd hb (none (by omega))⟩
    · rw [if_neg h0]
      by_cases h1 : root ≥ (l.length : Int)
      · rw [if_pos h1, if_pos trivial]
        exact ⟨_, rfl, fun h => (by cases h), fun hb => absurd hb (none (by omega))⟩
      · rw [if_neg h1, if_pos (by omega), if_pos (by omega)]
        have hrf := (H.rf (p := root) (by omega) (by omega)).1
        by_cases h2 : Rf l root = 0
        · rw [if_pos (beq_iff_eq.2 h2)]
          exact ⟨_, rfl, fun h => (by cases h), fun hb => absurd hb (none (by omega))⟩
        · rw [if_neg (by rw [beq_iff_eq]; exact h2)]
          obtain ⟨r, hr, hs⟩ := right_l0 (kp := kp) H root (by omega) (by omega) 19 1 k root (by omega) (by omega) (by omega) (by omega) (by omega) (by omega)
          rw [show ((1 : Nat) : Int) = 1 from rfl] at hr
          refine ⟨r, hr, hs.trans ⟨fun ⟨m, hm, _, t⟩ => .inr ⟨1 + m, by omega, t⟩, fun hb => ?_⟩⟩
          rcases hb with hb | ⟨c, hc, t⟩
          · exact absurd hb h
          · have := t.pos
            obtain ⟨c, rfl⟩ : ∃ m, c = m + 1 := ⟨c - 1, by omega⟩
            exact ⟨c, by omega, tr_ld H c root t, by rw [Nat.add_comm]; exact t⟩
theorem may07_val (l : List S55) (kp root : Int) {k : Nat} (hk : 2020 ≤ k) : ∃ b, assartref07_May.f k l kp root 60 = some b ∧ (b = true → mayH l kp 60 ∧ HR l ∧ RightP l root) := by
  unfold assartref07_May.f
  have := may05_val l kp 60 (by omega) k hk
  rw [show ((60 : Nat) : Int) = 60 from rfl] at this
  rw [this, Option.bind_some]
  by_cases h : mayH l kp 60
  · rw [if_pos (decide_eq_true h)]
    obtain ⟨b, hb, hs⟩ := refRight_val (kp := kp) (HR.of h.2.2) root (k := k) (by omega)
    rw [hb, Option.bind_some]
    exact ⟨b, rfl, fun e => ⟨h, HR.of h.2.2, hs.1 e⟩⟩
  · rw [if_neg (by simpa using h)]
    exact ⟨_, rfl, fun h => by cases h⟩
end Go.Proofs.Yteiladccdenpbaa.P
end
section
namespace Go.Proofs.Yteiladccdenpbaa.P
open Go.RowKit Go.Proofs.YteiladccdenpbaaW.PrintWords Go.Proofs.YteiladccdenpbaaW.PrintLast Go.Proofs.YteiladccdenpbaaW.PrintMore
attribute [local go_sem] max2_int min2_int max_two min_two max_three min_three max_four min_four
set_option linter.unusedVariables false
set_option linter.unusedSimpArgs false
def tree_Need.f (a0 : Int) : Option (Int) := some (wrap64 ((wrap64 (2 * a0)) + 1))
set_option maxHeartbeats 8000000 in
set_option maxRecDepth 100000 in
theorem tree_Need.calls (a0 : Int) (r : Int) (w : World) (h : tree_Need.f a0 = some r) :
  Calls Try.prog 19 #[.int .i64 a0] w fun e w' => e = .returned (.int .i64 r) ∧ Drawn0 w w' := by
 have H : (some (wrap64 ((wrap64 (2 * a0)) + 1))) = some r := h
 clear h
 obtain rfl := Option.some.inj H
 go_enter Try.func19, Try.ntmps19
 go_wp2
 go_ret
 exact ⟨by first | rfl | (simp; done) | (simp [*]; done), by repeat (first | exact Drawn0.refl _ | apply Drawn0.step)⟩
end Go.Proofs.Yteiladccdenpbaa.P
end
section
namespace Go.Proofs.Yteiladccdenpbaa.P
open Go.RowKit Go.Proofs.YteiladccdenpbaaW.PrintWords Go.Proofs.YteiladccdenpbaaW.PrintLast Go.Proofs.YteiladccdenpbaaW.PrintMore
attribute [local go_sem] max2_int min2_int max_two min_two max_three min_three max_four min_four
set_option linter.unusedVariables false
set_option linter.unusedSimpArgs false
def assartlaw07_example.f  : Option ((List (S55)) × Int) := some ((([(⟨1, false, (⟨true, (([(⟨1, 7⟩ : S49), (⟨2, 8⟩ : S49)] : List (S49)))⟩ : S53)⟩ : S55), (⟨1, false, (⟨true, (([(⟨5, 9⟩ : S49)] : List (S49)))⟩ : S53)⟩ : S55), (⟨1, false, (⟨false, (([(⟨1, 0⟩ : S49), (⟨5, 1⟩ : S49)] : List (S49)))⟩ : S53)⟩ : S55)] : List (S55))), 0)
set_option maxHeartbeats 8000000 in
set_option maxRecDepth 100000 in
theorem assartlaw07_example.calls  (r1 : List (S55)) (r2 : Int) (w : World) (h : assartlaw07_example.f  = some (r1, r2)) :
  Calls Try.prog 56 #[] w fun e w' => ∃ v0_ : Value, e = .returned (.agg #[v0_, .int .i64 r2]) ∧ Kd.N k55 55 w' w.heap.size (fun k_ => (w.heap.size ≤ k_)) v0_ r1 ∧ Below w.heap.size w w' := by
 have hu24 := Try.underlying24
 have hu49 := Try.underlying49
 have hu53 := Try.underlying53
 have hu55 := Try.underlying55
 have HB := Aside0.mk (Below.refl w.heap.size w)
 have H : (some ((([(⟨1, false, (⟨true, (([(⟨1, 7⟩ : S49), (⟨2, 8⟩ : S49)] : List (S49)))⟩ : S53)⟩ : S55), (⟨1, false, (⟨true, (([(⟨5, 9⟩ : S49)] : List (S49)))⟩ : S53)⟩ : S55), (⟨1, false, (⟨false, (([(⟨1, 0⟩ : S49), (⟨5, 1⟩ : S49)] : List (S49)))⟩ : S53)⟩ : S55)] : List (S55))), 0)) = some (r1, r2) := h
 clear h
 obtain ⟨y154, hy154⟩ : ∃ y_ : List (S49), y_ = (([(⟨1, 7⟩ : S49), (⟨2, 8⟩ : S49)] : List (S49))) := ⟨_, rfl⟩
 replace H : (some ((([(⟨1, false, (⟨true, y154⟩ : S53)⟩ : S55), (⟨1, false, (⟨true, (([(⟨5, 9⟩ : S49)] : List (S49)))⟩ : S53)⟩ : S55), (⟨1, false, (⟨false, (([(⟨1, 0⟩ : S49), (⟨5, 1⟩ : S49)] : List (S49)))⟩ : S53)⟩ : S55)] : List (S55))), 0)) = some (r1, r2) := by first | (rw [hy154]; with_reducible exact H) | (have H2_ := (Option.bind_some _ _).symm.trans H; rw [hy154]; with_reducible exact H2_) | (have H2_ := (Option.bind_some _ _).symm.trans H; with_reducible exact H2_) | with_reducible exact H | (rw [hy154]; exact H) | exact H
 have Ny154 := Aside0.mk hy154
 clear hy154
 obtain ⟨y157, hy157⟩ : ∃ y_ : List (S49), y_ = (([(⟨5, 9⟩ : S49)] : List (S49))) := ⟨_, rfl⟩
 replace H : (some ((([(⟨1, false, (⟨true, y154⟩ : S53)⟩ : S55), (⟨1, false, (⟨true, y157⟩ : S53)⟩ : S55), (⟨1, false, (⟨false, (([(⟨1, 0⟩ : S49), (⟨5, 1⟩ : S49)] : List (S49)))⟩ : S53)⟩ : S55)] : List (S55))), 0)) = some (r1, r2) := by first | (rw [hy157]; with_reducible exact H) | (have H2_ := (Option.bind_some _ _).symm.trans H; rw [hy157]; with_reducible exact H2_) | (have H2_ := (Option.bind_some _ _).symm.trans H; with_reducible exact H2_) | with_reducible exact H | (rw [hy157]; exact H) | exact H
 have Ny157 := Aside0.mk hy157
 clear hy157
 obtain ⟨y160, hy160⟩ : ∃ y_ : List (S49), y_ = (([(⟨1, 0⟩ : S49), (⟨5, 1⟩ : S49)] : List (S49))) := ⟨_, rfl⟩
 replace H : (some ((([(⟨1, false, (⟨true, y154⟩ : S53)⟩ : S55), (⟨1, false, (⟨true, y157⟩ : S53)⟩ : S55), (⟨1, false, (⟨false, y160⟩ : S53)⟩ : S55)] : List (S55))), 0)) = some (r1, r2) := by first | (rw [hy160]; with_reducible exact H) | (have H2_ := (Option.bind_some _ _).symm.trans H; rw [hy160]; with_reducible exact H2_) | (have H2_ := (Option.bind_some _ _).symm.trans H; with_reducible exact H2_) | with_reducible exact H | (rw [hy160]; exact H) | exact H
 have Ny160 := Aside0.mk hy160
 clear hy160
 obtain ⟨y163, hy163⟩ : ∃ y_ : List (S55), y_ = (([(⟨1, false, (⟨true, y154⟩ : S53)⟩ : S55), (⟨1, false, (⟨true, y157⟩ : S53)⟩ : S55), (⟨1, false, (⟨false, y160⟩ : S53)⟩ : S55)] : List (S55))) := ⟨_, rfl⟩
 replace H : (some (y163, 0)) = some (r1, r2) := by first | (rw [hy163]; with_reducible exact H) | (have H2_ := (Option.bind_some _ _).symm.trans H; rw [hy163]; with_reducible exact H2_) | (have H2_ := (Option.bind_some _ _).symm.trans H; with_reducible exact H2_) | with_reducible exact H | (rw [hy163]; exact H) | exact H
 have Ny163 := Aside0.mk hy163
 clear hy163
 simp only [Option.some.injEq, Prod.mk.injEq] at H
 obtain ⟨rfl, rfl⟩ := H
 go_enter Try.func56, Try.ntmps56
 go_wp2_with (first | ((with_reducible refine gate_dst (N := 0) rfl ?_); refine box_event ?hg (N := 0) ?hd (cs := #[.slice none 0 0, .int .i64 0]) (t := 24) ?hr ?_; (case hd => rfl); (case hg => rfl); (case hr => first | (go_simp; done) | (go_simp; rfl)); intro gb153 hg w1 hbox hb; have n0_ := Aside0.mk (below_step (by repeat (first | (with_reducible first | exact HB.out | apply below_alloc | apply pw_below_drewN | apply below_drew1) | exact HB.out)) hb); have n1_ := Aside0.mk (hbox); have n2_ := Aside0.mk ((by rw [hg]; exact (below_size (by repeat (first | (with_reducible first | exact HB.out | apply below_alloc | apply pw_below_drewN | apply below_drew1) | exact HB.out))) : w.heap.size ≤ gb153)); have n3_ := Aside0.mk ((by rw [hg]; exact (below_size (by repeat (first | (with_reducible first | exact HB.out | apply below_alloc | apply pw_below_drewN | apply below_drew1) | exact HB.out))) : w.heap.size ≤ gb153)); clear HB; have HB := n0_; have BK153 := n1_; have GW153 := n2_; have GE153 := n3_; clear n0_ n1_ n2_ n3_; clear hb hbox hg) | ((with_reducible refine gate_dst (N := 3) rfl ?_); refine Kd.R_lit k49 _ 49 ?hg (N := 3) ?hd (xs := ([(⟨1, 7⟩ : S49), (⟨2, 8⟩ : S49)] : List (S49))) (inner := [.int .i64 1, .int .i64 7, .int .i64 2, .int .i64 8]) (ok := fun _ => True) (okp := fun _ => True) ?hr ?hp (fun _ hk => hk) trivial (Below.refl _ _) (Nat.le_refl _) (by simp) ?_; (case hd => rfl); (case hg => rfl); (case hr => first | (go_simp; done) | (go_simp; rfl)); (case hp => exact (Reps.c2 (show Kd.M k49 _ _ _ (⟨1, 7⟩ : S49) [.int .i64 1, .int .i64 7] from (k49_mkM _ _ _ (⟨1, 7⟩ : S49) )) (Reps.c2 (show Kd.M k49 _ _ _ (⟨2, 8⟩ : S49) [.int .i64 2, .int .i64 8] from (k49_mkM _ _ _ (⟨2, 8⟩ : S49) )) (Reps.none _ _)))); intro v155 w2 ho3 hb hg_ hnew_; clear hg_ hnew_; (first | rw [← Ny154.out] at ho3 | (simp only [Int.reduceToNat] at ho3; rw [← Ny154.out] at ho3)); have n0_ := Aside0.mk (Kd.R_lower (Kd.R_newM (M := fun k_ => (w.heap.size ≤ k_)) ho3 (below_size (by repeat (first | (with_reducible first | exact HB.out | apply below_alloc | apply pw_below_drewN | apply below_drew1 | refine below_set ?_ GE153.out) | exact HB.out))) (fun k_ h_ => h_)) (below_size (by repeat (first | (with_reducible first | exact HB.out | apply below_alloc | apply pw_below_drewN | apply below_drew1 | refine below_set ?_ GE153.out) | exact HB.out)))); have n1_ := Aside0.mk (blk_below (g := gb153) (o := .cells #[.slice none 0 0, .int .i64 0] 24 (0, 0)) (by (with_reducible repeat (first | refine blk_drewN ?_ _ | refine blk_drew ?_ | refine blk_alloc ?_ _)); exact BK153.out) hb); have n2_ := Aside0.mk (below_step (by repeat (first | (with_reducible first | exact HB.out | apply below_alloc | apply pw_below_drewN | apply below_drew1 | refine below_set ?_ GE153.out) | exact HB.out)) hb); clear BK153; clear HB; have HO156 := n0_; have BK153 := n1_; have HB := n2_; clear n0_ n1_ n2_; clear hb ho3; obtain ⟨Ao4, co4, eo4⟩ := Kd.R_slice HO156.out; subst eo4) | ((with_reducible refine gate_dst (N := 7) rfl ?_); refine Kd.R_lit k49 _ 49 ?hg (N := 7) ?hd (xs := ([(⟨5, 9⟩ : S49)] : List (S49))) (inner := [.int .i64 5, .int .i64 9]) (ok := fun _ => True) (okp := fun _ => True) ?hr ?hp (fun _ hk => hk) trivial (Below.refl _ _) (Nat.le_refl _) (by simp) ?_; (case hd => rfl); (case hg => rfl); (case hr => first | (go_simp; done) | (go_simp; rfl)); (case hp => exact (Reps.c2 (show Kd.M k49 _ _ _ (⟨5, 9⟩ : S49) [.int .i64 5, .int .i64 9] from (k49_mkM _ _ _ (⟨5, 9⟩ : S49) )) (Reps.none _ _))); intro v158 w5 ho6 hb hg_ hnew_; clear hg_ hnew_; (first | rw [← Ny157.out] at ho6 | (simp only [Int.reduceToNat] at ho6; rw [← Ny157.out] at ho6)); have n0_ := Aside0.mk (Kd.R_elder' (by (with_reducible repeat (first | apply Kd.R_alloc | apply Kd.R_drewN | apply Kd.R_drew)); exact HO156.out) (Kd.R_base ho6) hb); have n1_ := Aside0.mk (Kd.R_lower (Kd.R_new' (Kd.R_newM (M := fun k_ => (w.heap.size ≤ k_)) ho6 (below_size (by repeat (first | (with_reducible first | exact HB.out | apply below_alloc | apply pw_below_drewN | apply below_drew1 | refine below_set ?_ GE153.out) | exact HB.out))) (fun k_ h_ => h_)) (Kd.R_lt (by (with_reducible repeat (first | apply Kd.R_alloc | apply Kd.R_drewN | apply Kd.R_drew)); exact HO156.out))) (below_size (by repeat (first | (with_reducible first | exact HB.out | apply below_alloc | apply pw_below_drewN | apply below_drew1 | refine below_set ?_ GE153.out) | exact HB.out)))); have n2_ := Aside0.mk (blk_below (g := gb153) (o := .cells #[.slice none 0 0, .int .i64 0] 24 (0, 0)) (by (with_reducible repeat (first | refine blk_drewN ?_ _ | refine blk_drew ?_ | refine blk_alloc ?_ _)); exact BK153.out) hb); have n3_ := Aside0.mk (below_step (by repeat (first | (with_reducible first | exact HB.out | apply below_alloc | apply pw_below_drewN | apply below_drew1 | refine below_set ?_ GE153.out) | exact HB.out)) hb); clear HO156; clear BK153; clear HB; have HO156 := n0_; have HO159 := n1_; have BK153 := n2_; have HB := n3_; clear n0_ n1_ n2_ n3_; clear hb ho6; obtain ⟨Ao7, co7, eo7⟩ := Kd.R_slice HO159.out; subst eo7) | ((with_reducible refine gate_dst (N := 12) rfl ?_); refine Kd.R_lit k49 _ 49 ?hg (N := 12) ?hd (xs := ([(⟨1, 0⟩ : S49), (⟨5, 1⟩ : S49)] : List (S49))) (inner := [.int .i64 1, .int .i64 0, .int .i64 5, .int .i64 1]) (ok := fun _ => True) (okp := fun _ => True) ?hr ?hp (fun _ hk => hk) trivial (Below.refl _ _) (Nat.le_refl _) (by simp) ?_; (case hd => rfl); (case hg => rfl); (case hr => first | (go_simp; done) | (go_simp; rfl)); (case hp => exact (Reps.c2 (show Kd.M k49 _ _ _ (⟨1, 0⟩ : S49) [.int .i64 1, .int .i64 0] from (k49_mkM _ _ _ (⟨1, 0⟩ : S49) )) (Reps.c2 (show Kd.M k49 _ _ _ (⟨5, 1⟩ : S49) [.int .i64 5, .int .i64 1] from (k49_mkM _ _ _ (⟨5, 1⟩ : S49) )) (Reps.none _ _)))); intro v161 w8 ho9 hb hg_ hnew_; clear hg_ hnew_; (first | rw [← Ny160.out] at ho9 | (simp only [Int.reduceToNat] at ho9; rw [← Ny160.out] at ho9)); have n0_ := Aside0.mk (Kd.R_elder' (by (with_reducible repeat (first | apply Kd.R_alloc | apply Kd.R_drewN | apply Kd.R_drew)); exact HO156.out) (Kd.R_base ho9) hb); have n1_ := Aside0.mk (Kd.R_elder' (by (with_reducible repeat (first | apply Kd.R_alloc | apply Kd.R_drewN | apply Kd.R_drew)); exact HO159.out) (Kd.R_base ho9) hb); have n2_ := Aside0.mk (Kd.R_lower (Kd.R_new' (Kd.R_new' (Kd.R_newM (M := fun k_ => (w.heap.size ≤ k_)) ho9 (below_size (by repeat (first | (with_reducible first | exact HB.out | apply below_alloc | apply pw_below_drewN | apply below_drew1 | refine below_set ?_ GE153.out) | exact HB.out))) (fun k_ h_ => h_)) (Kd.R_lt (by (with_reducible repeat (first | apply Kd.R_alloc | apply Kd.R_drewN | apply Kd.R_drew)); exact HO156.out))) (Kd.R_lt (by (with_reducible repeat (first | apply Kd.R_alloc | apply Kd.R_drewN | apply Kd.R_drew)); exact HO159.out))) (below_size (by repeat (first | (with_reducible first | exact HB.out | apply below_alloc | apply pw_below_drewN | apply below_drew1 | refine below_set ?_ GE153.out) | exact HB.out)))); have n3_ := Aside0.mk (blk_below (g := gb153) (o := .cells #[.slice none 0 0, .int .i64 0] 24 (0, 0)) (by (with_reducible repeat (first | refine blk_drewN ?_ _ | refine blk_drew ?_ | refine blk_alloc ?_ _)); exact BK153.out) hb); have n4_ := Aside0.mk (below_step (by repeat (first | (with_reducible first | exact HB.out | apply below_alloc | apply pw_below_drewN | apply below_drew1 | refine below_set ?_ GE153.out) | exact HB.out)) hb); clear HO156; clear HO159; clear BK153; clear HB; have HO156 := n0_; have HO159 := n1_; have HO162 := n2_; have BK153 := n3_; have HB := n4_; clear n0_ n1_ n2_ n3_ n4_; clear hb ho9; obtain ⟨Ao10, co10, eo10⟩ := Kd.R_slice HO162.out; subst eo10) | ((with_reducible refine gate_dst (N := 15) rfl ?_); refine Kd.N_lit k55 _ 55 ?hg (N' := 15) ?hd (xs := ([(⟨1, false, (⟨true, y154⟩ : S53)⟩ : S55), (⟨1, false, (⟨true, y157⟩ : S53)⟩ : S55), (⟨1, false, (⟨false, y160⟩ : S53)⟩ : S55)] : List (S55))) (inner := [.int .i64 1, .bool false, .bool true, .slice Ao4 y154.length co4, .int .i64 1, .bool false, .bool true, .slice Ao7 y157.length co7, .int .i64 1, .bool false, .bool false, .slice Ao10 y160.length co10]) (ok := (fun k_ => (w.heap.size ≤ k_) ∧ k_ ≠ gb153)) (okp := (fun k_ => (w.heap.size ≤ k_) ∧ k_ ≠ gb153)) ?hr ?hp (fun _ hk => hk) ((show ∀ k_, w8.heap.size ≤ k_ → (fun k_ => (w.heap.size ≤ k_) ∧ k_ ≠ gb153) k_ from fun k_ hk => ⟨(Nat.le_trans (below_size (by repeat (first | (with_reducible first | exact HB.out | apply below_alloc | apply pw_below_drewN | apply below_drew1 | refine below_set ?_ GE153.out) | exact HB.out))) hk), Kd.freshB (g := gb153) (o := .cells #[.slice none 0 0, .int .i64 0] 24 (0, 0)) (by (with_reducible repeat (first | refine blk_drewN ?_ _ | refine blk_drew ?_ | refine blk_alloc ?_ _)); exact BK153.out) k_ hk⟩) _ (Nat.le_refl _)) (Below.refl _ _) (Nat.le_refl _) (by simp) ?_; (case hd => rfl); (case hg => rfl); (case hr => first | (go_simp; done) | (go_simp; rfl)); (case hp => exact (Reps.c4 (show Kd.FK k55 _ _ (⟨1, false, (⟨true, y154⟩ : S53)⟩ : S55) [.int .i64 1, .bool false, .bool true, .slice Ao4 y154.length co4] from (k55_mkF _ _ (⟨1, false, (⟨true, y154⟩ : S53)⟩ : S55) (Kd.R_reads' (Kd.R_mono (ok' := (fun k_ => (w.heap.size ≤ k_) ∧ k_ ≠ gb153)) (Kd.R_types (HO156.out) BK153.out (by decide)) (fun k_ hk => ⟨hk.1.1.1.1, hk.2⟩))).2.1 (Kd.R_F (Kd.R_mono (ok' := (fun k_ => (w.heap.size ≤ k_) ∧ k_ ≠ gb153)) (Kd.R_types (HO156.out) BK153.out (by decide)) (fun k_ hk => ⟨hk.1.1.1.1, hk.2⟩))))) (Reps.c4 (show Kd.FK k55 _ _ (⟨1, false, (⟨true, y157⟩ : S53)⟩ : S55) [.int .i64 1, .bool false, .bool true, .slice Ao7 y157.length co7] from (k55_mkF _ _ (⟨1, false, (⟨true, y157⟩ : S53)⟩ : S55) (Kd.R_reads' (Kd.R_mono (ok' := (fun k_ => (w.heap.size ≤ k_) ∧ k_ ≠ gb153)) (Kd.R_types (HO159.out) BK153.out (by decide)) (fun k_ hk => ⟨hk.1.1.1.1, hk.2⟩))).2.1 (Kd.R_F (Kd.R_mono (ok' := (fun k_ => (w.heap.size ≤ k_) ∧ k_ ≠ gb153)) (Kd.R_types (HO159.out) BK153.out (by decide)) (fun k_ hk => ⟨hk.1.1.1.1, hk.2⟩))))) (Reps.c4 (show Kd.FK k55 _ _ (⟨1, false, (⟨false, y160⟩ : S53)⟩ : S55) [.int .i64 1, .bool false, .bool false, .slice Ao10 y160.length co10] from (k55_mkF _ _ (⟨1, false, (⟨false, y160⟩ : S53)⟩ : S55) (Kd.R_reads' (Kd.R_mono (ok' := (fun k_ => (w.heap.size ≤ k_) ∧ k_ ≠ gb153)) (Kd.R_types (HO162.out) BK153.out (by decide)) (fun k_ hk => ⟨hk.1.1.1.1, hk.2⟩))).2.1 (Kd.R_F (Kd.R_mono (ok' := (fun k_ => (w.heap.size ≤ k_) ∧ k_ ≠ gb153)) (Kd.R_types (HO162.out) BK153.out (by decide)) (fun k_ hk => ⟨hk.1.1.1.1, hk.2⟩))))) (Reps.none _ _))))); intro v164 w11 ho12 hb hg_ hnew_; clear hg_ hnew_; (first | rw [← Ny163.out] at ho12 | (simp only [Int.reduceToNat] at ho12; rw [← Ny163.out] at ho12)); have n0_ := Aside0.mk (Kd.N_lower ho12 (below_size (by repeat (first | (with_reducible first | exact HB.out | apply below_alloc | apply pw_below_drewN | apply below_drew1 | refine below_set ?_ GE153.out) | exact HB.out)))); have n1_ := Aside0.mk (blk_below (g := gb153) (o := .cells #[.slice none 0 0, .int .i64 0] 24 (0, 0)) (by (with_reducible repeat (first | refine blk_drewN ?_ _ | refine blk_drew ?_ | refine blk_alloc ?_ _)); exact BK153.out) hb); have n2_ := Aside0.mk (below_step (by repeat (first | (with_reducible first | exact HB.out | apply below_alloc | apply pw_below_drewN | apply below_drew1 | refine below_set ?_ GE153.out) | exact HB.out)) hb); clear BK153; clear HB; clear HO156; clear HO159; clear HO162; have HO165 := n0_; have BK153 := n1_; have HB := n2_; clear n0_ n1_ n2_; clear hb ho12; obtain ⟨Ao13, co13, eo13⟩ := Kd.N_slice HO165.out; subst eo13; have hcz14_0 : w11.cell? ⟨gb153, 0, none⟩ = some (.slice none 0 0) := (blk_cell BK153.out 0).trans rfl; have hcz14_1 : w11.cell? ⟨gb153, 1, none⟩ = some (.int .i64 0) := (blk_cell BK153.out 1).trans rfl; have hfz14_0 := blk_frozen BK153.out 0; have hfz14_1 := blk_frozen BK153.out 1))
 refine bodyPost_ret (results_cell_row rfl _ _ gb153 24 #[.slice Ao13 y163.length co13, .int .i64 0] (0, 0) _ rfl (by (with_reducible repeat (first | refine blk_drewN ?_ _ | refine blk_drew ?_ | refine blk_alloc ?_ _)); refine blk_put (cs := #[.slice Ao13 y163.length co13, .int .i64 0]) ?_ 1 _ rfl; (with_reducible repeat (first | refine blk_drewN ?_ _ | refine blk_drew ?_ | refine blk_alloc ?_ _)); refine blk_put (cs := #[.slice none 0 0, .int .i64 0]) ?_ 0 _ rfl; (with_reducible repeat (first | refine blk_drewN ?_ _ | refine blk_drew ?_ | refine blk_alloc ?_ _)); exact BK153.out) Try.underlying24 rfl (by kernel_rfl)) rfl ?_
 exact ⟨_, by first | rfl | (simp [errW_none, errW_some] <;> rfl) | (simp [*, errW_none, errW_some] <;> rfl), by (with_reducible repeat (first | apply Kd.N_alloc | apply Kd.N_drewN | apply Kd.N_drew)); exact Kd.N_mono (Kd.N_far (p := ⟨gb153, 1, none⟩) (Kd.N_far (p := ⟨gb153, 0, none⟩) (Kd.N_mono HO165.out (fun k_ hk => (⟨hk, hk.2⟩ : _ ∧ k_ ≠ gb153))) (fun _ hk => hk.2) (.slice Ao13 y163.length co13)) (fun _ hk => hk.2) (.int .i64 0)) (fun _ hk => hk.1.1), by repeat (first | (with_reducible first | exact HB.out | apply below_alloc | apply pw_below_drewN | apply below_drew1 | refine below_set ?_ GE153.out) | exact HB.out)⟩
end Go.Proofs.Yteiladccdenpbaa.P
end
section
namespace Go.Proofs.Yteiladccdenpbaa.P
open Go.RowKit Go.Proofs.YteiladccdenpbaaW.PrintWords Go.Proofs.YteiladccdenpbaaW.PrintLast Go.Proofs.YteiladccdenpbaaW.PrintMore
attribute [local go_sem] max2_int min2_int max_two min_two max_three min_three max_four min_four
set_option linter.unusedVariables false
set_option linter.unusedSimpArgs false
def assartlaw07_shown.g (k : Nat)  : Option (Bool) := (assartlaw07_example.f).bind fun bt166 => ((tree_Get.f k bt166.1 bt166.2 2 5).bind fun bt171 => ((tree_Get.f k bt166.1 bt166.2 2 3).bind fun bt173 => ((tree_Scan.f bt166.1 bt166.2 2 2 6).bind fun t175 => (if bt171.2 = 0 then (if bt171.1 = 9 then (if bt173.2 = 4 then (if (t175.length : Int) = 2 then (if 0 < (t175.length : Int) then (if ((rd_T49 t175 0).f0) = 2 then (if 1 < (t175.length : Int) then (if ((rd_T49 t175 1).f0) = 5 then ((tree_High.f k bt166.1 bt166.2 2).bind fun t180 => (if t180 = 2 then ((tree_Need.f 2).bind fun t181 => (if t181 = 5 then ((tree_Nodes.f k bt166.1 bt166.2 2).bind fun t182 => ((assartref07_Ints.f k t182 (([2, 0, 1] : List Int))).bind fun t188 => (if t188 = true then ((tree_Right.f k bt166.1 bt166.2 2).bind fun t189 => (if t189 = true then ((tree_Right.f k bt166.1 bt166.2 (-1)).bind fun t190 => (if t190 = true then ((tree_Right.f k bt166.1 bt166.2 3).bind fun t191 => (some (!t191))) else (some false))) else (some false))) else (some false)))) else (some false))) else (some false))) else (some false)) else (none)) else (some false)) else (none)) else (some false)) else (some false)) else (some false)) else (some false)))))
set_option maxHeartbeats 8000000 in
set_option maxRecDepth 100000 in
theorem assartlaw07_shown.walk (k : Nat)  (r : Bool) (w : World) (h : assartlaw07_shown.g k  = some r) (hr : r = true) :
    Calls Try.prog 15 #[] w fun e w' => e = .returned (.bool r) ∧ Below w.heap.size w w' := by
  have hu24 := Try.underlying24
  have HB := Aside0.mk (Below.refl w.heap.size w)
  have H : ((assartlaw07_example.f).bind fun bt166 => ((tree_Get.f k bt166.1 bt166.2 2 5).bind fun bt171 => ((tree_Get.f k bt166.1 bt166.2 2 3).bind fun bt173 => ((tree_Scan.f bt166.1 bt166.2 2 2 6).bind fun t175 => (if bt171.2 = 0 then (if bt171.1 = 9 then (if bt173.2 = 4 then (if (t175.length : Int) = 2 then (if 0 < (t175.length : Int) then (if ((rd_T49 t175 0).f0) = 2 then (if 1 < (t175.length : Int) then (if ((rd_T49 t175 1).f0) = 5 then ((tree_High.f k bt166.1 bt166.2 2).bind fun t180 => (if t180 = 2 then ((tree_Need.f 2).bind fun t181 => (if t181 = 5 then ((tree_Nodes.f k bt166.1 bt166.2 2).bind fun t182 => ((assartref07_Ints.f k t182 (([2, 0, 1] : List Int))).bind fun t188 => (if t188 = true then ((tree_Right.f k bt166.1 bt166.2 2).bind fun t189 => (if t189 = true then ((tree_Right.f k bt166.1 bt166.2 (-1)).bind fun t190 => (if t190 = true then ((tree_Right.f k bt166.1 bt166.2 3).bind fun t191 => (some (!t191))) else (some false))) else (some false))) else (some false)))) else (some false))) else (some false))) else (some false)) else (none)) else (some false)) else (none)) else (some false)) else (some false)) else (some false)) else (some false)))))) = some r := h
  clear h
  replace H := Option.bind_eq_some_iff.mp H
  obtain ⟨⟨t166, t169⟩, A10, H⟩ := H
  replace H : ((tree_Get.f k t166 t169 2 5).bind fun bt171 => ((tree_Get.f k t166 t169 2 3).bind fun bt173 => ((tree_Scan.f t166 t169 2 2 6).bind fun t175 => (if bt171.2 = 0 then (if bt171.1 = 9 then (if bt173.2 = 4 then (if (t175.length : Int) = 2 then (if 0 < (t175.length : Int) then (if ((rd_T49 t175 0).f0) = 2 then (if 1 < (t175.length : Int) then (if ((rd_T49 t175 1).f0) = 5 then ((tree_High.f k t166 t169 2).bind fun t180 => (if t180 = 2 then ((tree_Need.f 2).bind fun t181 => (if t181 = 5 then ((tree_Nodes.f k t166 t169 2).bind fun t182 => ((assartref07_Ints.f k t182 (([2, 0, 1] : List Int))).bind fun t188 => (if t188 = true then ((tree_Right.f k t166 t169 2).bind fun t189 => (if t189 = true then ((tree_Right.f k t166 t169 (-1)).bind fun t190 => (if t190 = true then ((tree_Right.f k t166 t169 3).bind fun t191 => (some (!t191))) else (some false))) else (some false))) else (some false)))) else (some false))) else (some false))) else (some false)) else (none)) else (some false)) else (none)) else (some false)) else (some false)) else (some false)) else (some false))))) = some r := H
  have A1 := Aside0.mk A10
  clear A10
  replace H := Option.bind_eq_some_iff.mp H
  obtain ⟨⟨t171, t172⟩, A20, H⟩ := H
  replace H : ((tree_Get.f k t166 t169 2 3).bind fun bt173 => ((tree_Scan.f t166 t169 2 2 6).bind fun t175 => (if t172 = 0 then (if t171 = 9 then (if bt173.2 = 4 then (if (t175.length : Int) = 2 then (if 0 < (t175.length : Int) then (if ((rd_T49 t175 0).f0) = 2 then (if 1 < (t175.length : Int) then (if ((rd_T49 t175 1).f0) = 5 then ((tree_High.f k t166 t169 2).bind fun t180 => (if t180 = 2 then ((tree_Need.f 2).bind fun t181 => (if t181 = 5 then ((tree_Nodes.f k t166 t169 2).bind fun t182 => ((assartref07_Ints.f k t182 (([2, 0, 1] : List Int))).bind fun t188 => (if t188 = true then ((tree_Right.f k t166 t169 2).bind fun t189 => (if t189 = true then ((tree_Right.f k t166 t169 (-1)).bind fun t190 => (if t190 = true then ((tree_Right.f k t166 t169 3).bind fun t191 => (some (!t191))) else (some false))) else (some false))) else (some false)))) else (some false))) else (some false))) else (some false)) else (none)) else (some false)) else (none)) else (some false)) else (some false)) else (some false)) else (some false)))) = some r := H
  have A2 := Aside0.mk A20
  clear A20
  replace H := Option.bind_eq_some_iff.mp H
  obtain ⟨⟨t173, t174⟩, A30, H⟩ := H
  replace H : ((tree_Scan.f t166 t169 2 2 6).bind fun t175 => (if t172 = 0 then (if t171 = 9 then (if t174 = 4 then (if (t175.length : Int) = 2 then (if 0 < (t175.length : Int) then (if ((rd_T49 t175 0).f0) = 2 then (if 1 < (t175.length : Int) then (if ((rd_T49 t175 1).f0) = 5 then ((tree_High.f k t166 t169 2).bind fun t180 => (if t180 = 2 then ((tree_Need.f 2).bind fun t181 => (if t181 = 5 then ((tree_Nodes.f k t166 t169 2).bind fun t182 => ((assartref07_Ints.f k t182 (([2, 0, 1] : List Int))).bind fun t188 => (if t188 = true then ((tree_Right.f k t166 t169 2).bind fun t189 => (if t189 = true then ((tree_Right.f k t166 t169 (-1)).bind fun t190 => (if t190 = true then ((tree_Right.f k t166 t169 3).bind fun t191 => (some (!t191))) else (some false))) else (some false))) else (some false)))) else (some false))) else (some false))) else (some false)) else (none)) else (some false)) else (none)) else (some false)) else (some false)) else (some false)) else (some false))) = some r := H
  have A3 := Aside0.mk A30
  clear A30
  replace H := Option.bind_eq_some_iff.mp H
  obtain ⟨t175, A40, H⟩ := H
  replace H : (if t172 = 0 then (if t171 = 9 then (if t174 = 4 then (if (t175.length : Int) = 2 then (if 0 < (t175.length : Int) then (if ((rd_T49 t175 0).f0) = 2 then (if 1 < (t175.length : Int) then (if ((rd_T49 t175 1).f0) = 5 then ((tree_High.f k t166 t169 2).bind fun t180 => (if t180 = 2 then ((tree_Need.f 2).bind fun t181 => (if t181 = 5 then ((tree_Nodes.f k t166 t169 2).bind fun t182 => ((assartref07_Ints.f k t182 (([2, 0, 1] : List Int))).bind fun t188 => (if t188 = true then ((tree_Right.f k t166 t169 2).bind fun t189 => (if t189 = true then ((tree_Right.f k t166 t169 (-1)).bind fun t190 => (if t190 = true then ((tree_Right.f k t166 t169 3).bind fun t191 => (some (!t191))) else (some false))) else (some false))) else (some false)))) else (some false))) else (some false))) else (some false)) else (none)) else (some false)) else (none)) else (some false)) else (some false)) else (some false)) else (some false)) = some r := H
  have A4 := Aside0.mk A40
  clear A40
  by_cases c5 : t172 = 0
  · rw [if_pos c5] at H
    have c5b0 : (t172 == 0) = true := beq_iff_eq.mpr c5
    have c5b1 : (t172 != 0) = false := bne_eq_false_iff_eq.mpr c5
    clear c5
    by_cases c6 : t171 = 9
    · rw [if_pos c6] at H
      have c6b0 : (t171 == 9) = true := beq_iff_eq.mpr c6
      have c6b1 : (t171 != 9) = false := bne_eq_false_iff_eq.mpr c6
      clear c6
      by_cases c7 : t174 = 4
      · rw [if_pos c7] at H
        have c7b0 : (t174 == 4) = true := beq_iff_eq.mpr c7
        have c7b1 : (t174 != 4) = false := bne_eq_false_iff_eq.mpr c7
        clear c7
        by_cases c8 : (t175.length : Int) = 2
        · rw [if_pos c8] at H
          have c8b0 : ((t175.length : Int) == 2) = true := beq_iff_eq.mpr c8
          have c8b1 : ((t175.length : Int) != 2) = false := bne_eq_false_iff_eq.mpr c8
          clear c8
          by_cases c9 : 0 < (t175.length : Int)
          · rw [if_pos c9] at H
            have c9b0 : decide (0 < (t175.length : Int)) = true := decide_eq_true c9
            have c9b1 : decide (0 < t175.length) = true := decide_eq_true (by omega)
            clear c9
            by_cases c10 : ((rd_T49 t175 0).f0) = 2
            · rw [if_pos c10] at H
              have c10b0 : (((rd_T49 t175 0).f0) == 2) = true := beq_iff_eq.mpr c10
              have c10b1 : (((rd_T49 t175 0).f0) != 2) = false := bne_eq_false_iff_eq.mpr c10
              clear c10
              by_cases c11 : 1 < (t175.length : Int)
              · rw [if_pos c11] at H
                have c11b0 : decide (1 < (t175.length : Int)) = true := decide_eq_true c11
                have c11b1 : decide (1 < t175.length) = true := decide_eq_true (by omega)
                clear c11
                by_cases c12 : ((rd_T49 t175 1).f0) = 5
                · rw [if_pos c12] at H
                  have c12b0 : (((rd_T49 t175 1).f0) == 5) = true := beq_iff_eq.mpr c12
                  have c12b1 : (((rd_T49 t175 1).f0) != 5) = false := bne_eq_false_iff_eq.mpr c12
                  clear c12
                  replace H := Option.bind_eq_some_iff.mp H
                  obtain ⟨t180, A130, H⟩ := H
                  replace H : (if t180 = 2 then ((tree_Need.f 2).bind fun t181 => (if t181 = 5 then ((tree_Nodes.f k t166 t169 2).bind fun t182 => ((assartref07_Ints.f k t182 (([2, 0, 1] : List Int))).bind fun t188 => (if t188 = true then ((tree_Right.f k t166 t169 2).bind fun t189 => (if t189 = true then ((tree_Right.f k t166 t169 (-1)).bind fun t190 => (if t190 = true then ((tree_Right.f k t166 t169 3).bind fun t191 => (some (!t191))) else (some false))) else (some false))) else (some false)))) else (some false))) else (some false)) = some r := H
                  have A13 := Aside0.mk A130
                  clear A130
                  by_cases c14 : t180 = 2
                  · rw [if_pos c14] at H
                    have c14b0 : (t180 == 2) = true := beq_iff_eq.mpr c14
                    have c14b1 : (t180 != 2) = false := bne_eq_false_iff_eq.mpr c14
                    clear c14
                    replace H := Option.bind_eq_some_iff.mp H
                    obtain ⟨t181, A150, H⟩ := H
                    replace H : (if t181 = 5 then ((tree_Nodes.f k t166 t169 2).bind fun t182 => ((assartref07_Ints.f k t182 (([2, 0, 1] : List Int))).bind fun t188 => (if t188 = true then ((tree_Right.f k t166 t169 2).bind fun t189 => (if t189 = true then ((tree_Right.f k t166 t169 (-1)).bind fun t190 => (if t190 = true then ((tree_Right.f k t166 t169 3).bind fun t191 => (some (!t191))) else (some false))) else (some false))) else (some false)))) else (some false)) = some r := H
                    have A15 := Aside0.mk A150
                    clear A150
                    by_cases c16 : t181 = 5
                    · rw [if_pos c16] at H
                      have c16b0 : (t181 == 5) = true := beq_iff_eq.mpr c16
                      have c16b1 : (t181 != 5) = false := bne_eq_false_iff_eq.mpr c16
                      clear c16
                      replace H := Option.bind_eq_some_iff.mp H
                      obtain ⟨t182, A170, H⟩ := H
                      replace H : ((assartref07_Ints.f k t182 (([2, 0, 1] : List Int))).bind fun t188 => (if t188 = true then ((tree_Right.f k t166 t169 2).bind fun t189 => (if t189 = true then ((tree_Right.f k t166 t169 (-1)).bind fun t190 => (if t190 = true then ((tree_Right.f k t166 t169 3).bind fun t191 => (some (!t191))) else (some false))) else (some false))) else (some false))) = some r := H
                      have A17 := Aside0.mk A170
                      clear A170
                      obtain ⟨y185, hy185⟩ : ∃ y_ : List Int, y_ = (([2, 0, 1] : List Int)) := ⟨_, rfl⟩
                      replace H : ((assartref07_Ints.f k t182 y185).bind fun t188 => (if t188 = true then ((tree_Right.f k t166 t169 2).bind fun t189 => (if t189 = true then ((tree_Right.f k t166 t169 (-1)).bind fun t190 => (if t190 = true then ((tree_Right.f k t166 t169 3).bind fun t191 => (some (!t191))) else (some false))) else (some false))) else (some false))) = some r := by first | (rw [hy185]; with_reducible exact H) | (have H2_ := (Option.bind_some _ _).symm.trans H; rw [hy185]; with_reducible exact H2_) | (have H2_ := (Option.bind_some _ _).symm.trans H; with_reducible exact H2_) | with_reducible exact H | (rw [hy185]; exact H) | exact H
                      have Ny185 := Aside0.mk hy185
                      clear hy185
                      replace H := Option.bind_eq_some_iff.mp H
                      obtain ⟨t188, A180, H⟩ := H
                      replace H : (if t188 = true then ((tree_Right.f k t166 t169 2).bind fun t189 => (if t189 = true then ((tree_Right.f k t166 t169 (-1)).bind fun t190 => (if t190 = true then ((tree_Right.f k t166 t169 3).bind fun t191 => (some (!t191))) else (some false))) else (some false))) else (some false)) = some r := H
                      have A18 := Aside0.mk A180
                      clear A180
                      by_cases c19 : t188 = true
                      · subst c19
                        have H1 : ((tree_Right.f k t166 t169 2).bind fun t189 => (if t189 = true then ((tree_Right.f k t166 t169 (-1)).bind fun t190 => (if t190 = true then ((tree_Right.f k t166 t169 3).bind fun t191 => (some (!t191))) else (some false))) else (some false))) = some r := by rw [if_pos rfl] at H; exact H
                        clear H
                        have H := H1
                        clear H1
                        replace H := Option.bind_eq_some_iff.mp H
                        obtain ⟨t189, A200, H⟩ := H
                        replace H : (if t189 = true then ((tree_Right.f k t166 t169 (-1)).bind fun t190 => (if t190 = true then ((tree_Right.f k t166 t169 3).bind fun t191 => (some (!t191))) else (some false))) else (some false)) = some r := H
                        have A20 := Aside0.mk A200
                        clear A200
                        by_cases c21 : t189 = true
                        · subst c21
                          have H1 : ((tree_Right.f k t166 t169 (-1)).bind fun t190 => (if t190 = true then ((tree_Right.f k t166 t169 3).bind fun t191 => (some (!t191))) else (some false))) = some r := by rw [if_pos rfl] at H; exact H
                          clear H
                          have H := H1
                          clear H1
                          replace H := Option.bind_eq_some_iff.mp H
                          obtain ⟨t190, A220, H⟩ := H
                          replace H : (if t190 = true then ((tree_Right.f k t166 t169 3).bind fun t191 => (some (!t191))) else (some false)) = some r := H
                          have A22 := Aside0.mk A220
                          clear A220
                          by_cases c23 : t190 = true
                          · subst c23
                            have H1 : ((tree_Right.f k t166 t169 3).bind fun t191 => (some (!t191))) = some r := by rw [if_pos rfl] at H; exact H
                            clear H
                            have H := H1
                            clear H1
                            replace H := Option.bind_eq_some_iff.mp H
                            obtain ⟨t191, A240, H⟩ := H
                            replace H : (some (!t191)) = some r := H
                            have A24 := Aside0.mk A240
                            clear A240
                            obtain rfl := Option.some.inj H
                            go_enter Try.func15, Try.ntmps15
                            go_wp2_with (first | ((with_reducible refine gate_callee (f := 56) rfl ?_); refine goesL_ (some 7) rfl rfl Try.func56 (by kernel_rfl) rfl #[] rfl (by (try simp only [List.map_toArray, List.map_cons, List.map_nil]); first | done | rfl | (simp only [List.length_drop, List.length_take]; rfl)) ?_; (with_reducible refine (assartlaw07_example.calls  t166 t169 _ A1.out).mono ?_); rintro e w25 ⟨v167, rfl, ho0, hb⟩; refine ⟨_, rfl, ?_⟩; have n0_ := Aside0.mk (Kd.N_lower (Kd.N_mono (ok' := fun k_ => True) ho0 (fun k_ hk_ => trivial)) (below_size (by repeat (first | (with_reducible first | exact HB.out | apply below_alloc | apply pw_below_drewN | apply below_drew1) | exact HB.out)))); have n1_ := Aside0.mk (below_step (by repeat (first | (with_reducible first | exact HB.out | apply below_alloc | apply pw_below_drewN | apply below_drew1) | exact HB.out)) hb); clear HB; have HO168 := n0_; have HB := n1_; clear n0_ n1_; (try clear hb); (try clear hb2); (try clear hk); (try clear hi); (try clear ho0)) | ((with_reducible refine gate_dst (N := 1) rfl ?_); (try (refine gate_guard (by rfl) ?_; dsimp only)); refine box_event ?hg (N := 1) ?hd (cs := #[.slice none 0 0, .int .i64 0]) (t := 24) ?hr ?_; (case hd => rfl); (case hg => rfl); (case hr => first | (go_simp; done) | (go_simp; rfl)); intro gb170 hg w26 hbox hb; have n0_ := Aside0.mk (Kd.N_below (Kd.N_elderB (by (with_reducible repeat (first | apply Kd.N_alloc | apply Kd.N_drewN | apply Kd.N_drew)); exact HO168.out) gb170 (Nat.le_of_eq hg.symm)) hb); have n1_ := Aside0.mk (below_step (by repeat (first | (with_reducible first | exact HB.out | apply below_alloc | apply pw_below_drewN | apply below_drew1) | exact HB.out)) hb); have n2_ := Aside0.mk (hbox); have n3_ := Aside0.mk ((by rw [hg]; exact (below_size (by repeat (first | (with_reducible first | exact HB.out | apply below_alloc | apply pw_below_drewN | apply below_drew1) | exact HB.out))) : w.heap.size ≤ gb170)); have n4_ := Aside0.mk ((by rw [hg]; exact (below_size (by repeat (first | (with_reducible first | exact HB.out | apply below_alloc | apply pw_below_drewN | apply below_drew1) | exact HB.out))) : w.heap.size ≤ gb170)); clear HO168; clear HB; have HO168 := n0_; have HB := n1_; have BK170 := n2_; have GW170 := n3_; have GE170 := n4_; clear n0_ n1_ n2_ n3_ n4_; clear hb hbox hg; obtain ⟨Ao27, co27, eo27⟩ := Kd.N_slice HO168.out; subst eo27; have hcz28_0 : w26.cell? ⟨gb170, 0, none⟩ = some (.slice none 0 0) := (blk_cell BK170.out 0).trans rfl; have hcz28_1 : w26.cell? ⟨gb170, 1, none⟩ = some (.int .i64 0) := (blk_cell BK170.out 1).trans rfl; have hfz28_0 := blk_frozen BK170.out 0; have hfz28_1 := blk_frozen BK170.out 1) | ((with_reducible refine gate_callee (f := 27) rfl ?_); refine goesL_ (some 10) rfl rfl Try.func27 (by kernel_rfl) rfl #[.agg #[.slice Ao27 t166.length co27, .int .i64 t169], .int .i64 2, .int .i64 5] rfl (by (try simp only [List.map_toArray, List.map_cons, List.map_nil]); first | done | rfl | (simp only [List.length_drop, List.length_take]; rfl)) ?_; (with_reducible refine (tree_Get.calls k _ _ t166 t169 2 5 t171 t172 _ ?side1 ?side2 A2.out).mono ?_); (case side1 => refine (Kd.N_reads' (e := 55) (base := w.heap.size) (ok := fun k_ => (True ∧ k_ ≠ gb170)) (n := t166.length) (c := co27) ?_).2.2; exact (by (with_reducible repeat (first | apply Kd.N_alloc | apply Kd.N_drewN | apply Kd.N_drew)); exact (Kd.N_mono (Kd.N_far (p := ⟨gb170, 1, none⟩) (Kd.N_far (p := ⟨gb170, 0, none⟩) (Kd.N_mono HO168.out (fun k_ hk => (⟨hk, hk.2⟩ : _ ∧ k_ ≠ gb170))) (fun _ hk => hk.2) (.slice Ao27 t166.length co27)) (fun _ hk => hk.2) (.int .i64 t169)) (fun _ h_ => h_.1)))); (case side2 => exact (Kd.N_reads' HO168.out).2.1); rintro e w29 ⟨rfl, hb⟩; refine ⟨_, rfl, ?_⟩; have n0_ := Aside0.mk (Kd.N_below (by (with_reducible repeat (first | apply Kd.N_alloc | apply Kd.N_drewN | apply Kd.N_drew)); exact (Kd.N_mono (Kd.N_far (p := ⟨gb170, 1, none⟩) (Kd.N_far (p := ⟨gb170, 0, none⟩) (Kd.N_mono HO168.out (fun k_ hk => (⟨hk, hk.2⟩ : _ ∧ k_ ≠ gb170))) (fun _ hk => hk.2) (.slice Ao27 t166.length co27)) (fun _ hk => hk.2) (.int .i64 t169)) (fun _ h_ => h_.1))) hb); have n1_ := Aside0.mk (blk_below (g := gb170) (o := .cells #[.slice Ao27 t166.length co27, .int .i64 t169] 24 (0, 0)) (by (with_reducible repeat (first | refine blk_drewN ?_ _ | refine blk_drew ?_ | refine blk_alloc ?_ _)); refine blk_put (cs := #[.slice Ao27 t166.length co27, .int .i64 0]) ?_ 1 _ rfl; (with_reducible repeat (first | refine blk_drewN ?_ _ | refine blk_drew ?_ | refine blk_alloc ?_ _)); refine blk_put (cs := #[.slice none 0 0, .int .i64 0]) ?_ 0 _ rfl; (with_reducible repeat (first | refine blk_drewN ?_ _ | refine blk_drew ?_ | refine blk_alloc ?_ _)); exact BK170.out) hb); have n2_ := Aside0.mk (below_step (by repeat (first | (with_reducible first | exact HB.out | apply below_alloc | apply pw_below_drewN | apply below_drew1 | refine below_set ?_ GE170.out) | exact HB.out)) hb); clear HO168; clear BK170; clear HB; have HO168 := n0_; have BK170 := n1_; have HB := n2_; clear n0_ n1_ n2_; (try clear hb); (try clear hb2); (try clear hk); (try clear hi); have hcz30_0 : w29.cell? ⟨gb170, 0, none⟩ = some (.slice Ao27 t166.length co27) := (blk_cell BK170.out 0).trans rfl; have hcz30_1 : w29.cell? ⟨gb170, 1, none⟩ = some (.int .i64 t169) := (blk_cell BK170.out 1).trans rfl; have hfz30_0 := blk_frozen BK170.out 0; have hfz30_1 := blk_frozen BK170.out 1) | ((with_reducible refine gate_callee (f := 27) rfl ?_); refine goesL_ (some 15) rfl rfl Try.func27 (by kernel_rfl) rfl #[.agg #[.slice Ao27 t166.length co27, .int .i64 t169], .int .i64 2, .int .i64 3] rfl (by (try simp only [List.map_toArray, List.map_cons, List.map_nil]); first | done | rfl | (simp only [List.length_drop, List.length_take]; rfl)) ?_; (with_reducible refine (tree_Get.calls k _ _ t166 t169 2 3 t173 t174 _ ?side1 ?side2 A3.out).mono ?_); (case side1 => repeat (first | exact (Kd.N_reads' HO168.out).2.2 | (with_reducible refine Kd.C_alloc ?_ _) | (with_reducible refine Kd.C_drewN ?_ _) | (with_reducible refine Kd.C_drew ?_))); (case side2 => exact (Kd.N_reads' HO168.out).2.1); rintro e w31 ⟨rfl, hb⟩; refine ⟨_, rfl, ?_⟩; have n0_ := Aside0.mk (Kd.N_below (by (with_reducible repeat (first | apply Kd.N_alloc | apply Kd.N_drewN | apply Kd.N_drew)); exact HO168.out) hb); have n1_ := Aside0.mk (blk_below (g := gb170) (o := .cells #[.slice Ao27 t166.length co27, .int .i64 t169] 24 (0, 0)) (by (with_reducible repeat (first | refine blk_drewN ?_ _ | refine blk_drew ?_ | refine blk_alloc ?_ _)); exact BK170.out) hb); have n2_ := Aside0.mk (below_step (by repeat (first | (with_reducible first | exact HB.out | apply below_alloc | apply pw_below_drewN | apply below_drew1 | refine below_set ?_ GE170.out) | exact HB.out)) hb); clear HO168; clear BK170; clear HB; have HO168 := n0_; have BK170 := n1_; have HB := n2_; clear n0_ n1_ n2_; (try clear hb); (try clear hb2); (try clear hk); (try clear hi); have hcz32_0 : w31.cell? ⟨gb170, 0, none⟩ = some (.slice Ao27 t166.length co27) := (blk_cell BK170.out 0).trans rfl; have hcz32_1 : w31.cell? ⟨gb170, 1, none⟩ = some (.int .i64 t169) := (blk_cell BK170.out 1).trans rfl; have hfz32_0 := blk_frozen BK170.out 0; have hfz32_1 := blk_frozen BK170.out 1) | ((with_reducible refine gate_callee (f := 30) rfl ?_); refine goesL_ (some 19) rfl rfl Try.func30 (by kernel_rfl) rfl #[.agg #[.slice Ao27 t166.length co27, .int .i64 t169], .int .i64 2, .int .i64 2, .int .i64 6] rfl (by (try simp only [List.map_toArray, List.map_cons, List.map_nil]); first | done | rfl | (simp only [List.length_drop, List.length_take]; rfl)) ?_; (with_reducible refine (tree_Scan.calls _ _ t166 t169 2 2 6 t175 _ ?side1 ?side2 A4.out).mono ?_); (case side1 => repeat (first | exact (Kd.N_reads' HO168.out).2.2 | (with_reducible refine Kd.C_alloc ?_ _) | (with_reducible refine Kd.C_drewN ?_ _) | (with_reducible refine Kd.C_drew ?_))); (case side2 => exact (Kd.N_reads' HO168.out).2.1); rintro e w33 ⟨v176, rfl, ho0, hb⟩; refine ⟨_, rfl, ?_⟩; have n0_ := Aside0.mk (Kd.N_elder' (by (with_reducible repeat (first | apply Kd.N_alloc | apply Kd.N_drewN | apply Kd.N_drew)); exact HO168.out) (Kd.R_base ho0) hb); have n1_ := Aside0.mk (Kd.R_lower ho0 (below_size (by repeat (first | (with_reducible first | exact HB.out | apply below_alloc | apply pw_below_drewN | apply below_drew1 | refine below_set ?_ GE170.out) | exact HB.out)))); have n2_ := Aside0.mk (blk_below (g := gb170) (o := .cells #[.slice Ao27 t166.length co27, .int .i64 t169] 24 (0, 0)) (by (with_reducible repeat (first | refine blk_drewN ?_ _ | refine blk_drew ?_ | refine blk_alloc ?_ _)); exact BK170.out) hb); have n3_ := Aside0.mk (below_step (by repeat (first | (with_reducible first | exact HB.out | apply below_alloc | apply pw_below_drewN | apply below_drew1 | refine below_set ?_ GE170.out) | exact HB.out)) hb); clear HO168; clear BK170; clear HB; have HO168 := n0_; have HO177 := n1_; have BK170 := n2_; have HB := n3_; clear n0_ n1_ n2_ n3_; (try clear hb); (try clear hb2); (try clear hk); (try clear hi); (try clear ho0); obtain ⟨Ao34, co34, eo34⟩ := Kd.R_slice HO177.out; subst eo34; have p178 : 0 ≤ (0 : Int) := (by omega); have q178 : 0 < (t175.length : Int) := of_decide_eq_true (by first | (with_reducible assumption) | assumption); obtain ⟨ad178, e178, hx178_0, hx178_1⟩ := at_T49 (Kd.R_reads' HO177.out).2.2 0 p178 q178; cases e178; have qi178 : (0 < t175.length) = True := eq_true (by omega); (try rw [show ((0 : Int)).toNat = 0 from rfl] at hx178_0); (try rw [show 0 * 2 = 0 from rfl] at hx178_0); (try rw [Addr.add_zero'] at hx178_0); (try rw [show ((0 : Int)).toNat = 0 from rfl] at hx178_1); (try rw [show 0 * 2 = 0 from rfl] at hx178_1); (try rw [Addr.add_zero'] at hx178_1); replace p178 := eq_true p178; replace q178 := eq_true q178; have p179 : 0 ≤ (1 : Int) := (by omega); have q179 : 1 < (t175.length : Int) := of_decide_eq_true (by first | (with_reducible assumption) | assumption); obtain ⟨ad179, e179, hx179_0, hx179_1⟩ := at_T49 (Kd.R_reads' HO177.out).2.2 1 p179 q179; obtain rfl : ad178 = ad179 := (by injection e179); (try simp only [show (1 : Int).toNat = 1 from rfl, Nat.reduceMul, Nat.reduceEqDiff, Go.Addr.add, ↓reduceIte] at hx179_0); (try simp only [show (1 : Int).toNat = 1 from rfl, Nat.reduceMul, Nat.reduceEqDiff, Go.Addr.add, ↓reduceIte] at hx179_1); have qi179 : (1 < t175.length) = True := eq_true (by omega); (try rw [show ((1 : Int)).toNat = 1 from rfl] at hx179_0); (try rw [show 1 * 2 = 2 from rfl] at hx179_0); (try rw [show ((1 : Int)).toNat = 1 from rfl] at hx179_1); (try rw [show 1 * 2 = 2 from rfl] at hx179_1); replace p179 := eq_true p179; replace q179 := eq_true q179; have hcz35_0 : w33.cell? ⟨gb170, 0, none⟩ = some (.slice Ao27 t166.length co27) := (blk_cell BK170.out 0).trans rfl; have hcz35_1 : w33.cell? ⟨gb170, 1, none⟩ = some (.int .i64 t169) := (blk_cell BK170.out 1).trans rfl; have hfz35_0 := blk_frozen BK170.out 0; have hfz35_1 := blk_frozen BK170.out 1) | (go_at_call 21; (with_reducible refine (tree_High.calls k _ _ t166 t169 2 t180 _ ?side1 ?side2 A13.out).mono ?_); (case side1 => repeat (first | exact (Kd.N_reads' HO168.out).2.2 | (with_reducible refine Kd.C_alloc ?_ _) | (with_reducible refine Kd.C_drewN ?_ _) | (with_reducible refine Kd.C_drew ?_))); (case side2 => exact (Kd.N_reads' HO168.out).2.1); rintro e w36 ⟨rfl, hb⟩; have n0_ := Aside0.mk (Kd.N_below (by (with_reducible repeat (first | apply Kd.N_alloc | apply Kd.N_drewN | apply Kd.N_drew)); exact HO168.out) hb); have n1_ := Aside0.mk (Kd.R_below (by (with_reducible repeat (first | apply Kd.R_alloc | apply Kd.R_drewN | apply Kd.R_drew)); exact HO177.out) hb); have n2_ := Aside0.mk (blk_below (g := gb170) (o := .cells #[.slice Ao27 t166.length co27, .int .i64 t169] 24 (0, 0)) (by (with_reducible repeat (first | refine blk_drewN ?_ _ | refine blk_drew ?_ | refine blk_alloc ?_ _)); exact BK170.out) hb); have n3_ := Aside0.mk (below_step (by repeat (first | (with_reducible first | exact HB.out | apply below_alloc | apply pw_below_drewN | apply below_drew1 | refine below_set ?_ GE170.out) | exact HB.out)) hb); clear HO168; clear HO177; clear BK170; clear HB; have HO168 := n0_; have HO177 := n1_; have BK170 := n2_; have HB := n3_; clear n0_ n1_ n2_ n3_; (try clear hb); (try clear hb2); (try clear hk); (try clear hi)) | (go_at_call 19; (with_reducible refine (tree_Need.calls 2 t181 _ A15.out).mono ?_); rintro e w' ⟨rfl, ⟨nd, rfl⟩⟩; have hcz37_0 : w36.cell? ⟨gb170, 0, none⟩ = some (.slice Ao27 t166.length co27) := (blk_cell BK170.out 0).trans rfl; have hcz37_1 : w36.cell? ⟨gb170, 1, none⟩ = some (.int .i64 t169) := (blk_cell BK170.out 1).trans rfl; have hfz37_0 := blk_frozen BK170.out 0; have hfz37_1 := blk_frozen BK170.out 1) | (go_at_call 24; (with_reducible refine (tree_Nodes.calls k _ _ t166 t169 2 t182 _ ?side1 ?side2 A17.out).mono ?_); (case side1 => repeat (first | exact (Kd.N_reads' HO168.out).2.2 | (with_reducible refine Kd.C_alloc ?_ _) | (with_reducible refine Kd.C_drewN ?_ _) | (with_reducible refine Kd.C_drew ?_))); (case side2 => exact (Kd.N_reads' HO168.out).2.1); rintro e w38 ⟨v183, rfl, ho0, hb⟩; have n0_ := Aside0.mk (Kd.N_elder' (by (with_reducible repeat (first | apply Kd.N_alloc | apply Kd.N_drewN | apply Kd.N_drew)); exact HO168.out) (Kd.R_base ho0) hb); have n1_ := Aside0.mk (Kd.R_below (by (with_reducible repeat (first | apply Kd.R_alloc | apply Kd.R_drewN | apply Kd.R_drew)); exact HO177.out) hb); have n2_ := Aside0.mk (Kd.R_lower ho0 (below_size (by repeat (first | (with_reducible first | exact HB.out | apply below_alloc | apply pw_below_drewN | apply below_drew1 | refine below_set ?_ GE170.out) | exact HB.out)))); have n3_ := Aside0.mk (blk_below (g := gb170) (o := .cells #[.slice Ao27 t166.length co27, .int .i64 t169] 24 (0, 0)) (by (with_reducible repeat (first | refine blk_drewN ?_ _ | refine blk_drew ?_ | refine blk_alloc ?_ _)); exact BK170.out) hb); have n4_ := Aside0.mk (below_step (by repeat (first | (with_reducible first | exact HB.out | apply below_alloc | apply pw_below_drewN | apply below_drew1 | refine below_set ?_ GE170.out) | exact HB.out)) hb); clear HO168; clear HO177; clear BK170; clear HB; have HO168 := n0_; have HO177 := n1_; have HO184 := n2_; have BK170 := n3_; have HB := n4_; clear n0_ n1_ n2_ n3_ n4_; (try clear hb); (try clear hb2); (try clear hk); (try clear hi); (try clear ho0)) | ((with_reducible refine gate_dst (N := 61) rfl ?_); (try (refine gate_guard (by rfl) ?_; dsimp only)); refine Kd.R_lit (Kd.int .i64) _ 3 ?hg (N := 61) ?hd (xs := ([2, 0, 1] : List Int)) (inner := [.int .i64 2, .int .i64 0, .int .i64 1]) (ok := fun _ => True) (okp := fun _ => True) ?hr ?hp (fun _ hk => hk) trivial (Below.refl _ _) (Nat.le_refl _) (by simp) ?_; (case hd => rfl); (case hg => rfl); (case hr => first | (go_simp; done) | (go_simp; rfl)); (case hp => exact (Reps.one (show Kd.M (Kd.int .i64) _ _ _ 2 [.int .i64 2] from rfl) (Reps.one (show Kd.M (Kd.int .i64) _ _ _ 0 [.int .i64 0] from rfl) (Reps.one (show Kd.M (Kd.int .i64) _ _ _ 1 [.int .i64 1] from rfl) (Reps.none _ _))))); intro v186 w39 ho40 hb hg_ hnew_; clear hg_ hnew_; (first | rw [← Ny185.out] at ho40 | (simp only [Int.reduceToNat] at ho40; rw [← Ny185.out] at ho40)); have n0_ := Aside0.mk (Kd.N_elder' (by (with_reducible repeat (first | apply Kd.N_alloc | apply Kd.N_drewN | apply Kd.N_drew)); exact HO168.out) (Kd.R_base ho40) hb); have n1_ := Aside0.mk (Kd.R_below (by (with_reducible repeat (first | apply Kd.R_alloc | apply Kd.R_drewN | apply Kd.R_drew)); exact HO177.out) hb); have n2_ := Aside0.mk (Kd.R_elder' (by (with_reducible repeat (first | apply Kd.R_alloc | apply Kd.R_drewN | apply Kd.R_drew)); exact HO184.out) (Kd.R_base ho40) hb); have n3_ := Aside0.mk (Kd.R_lower (Kd.R_new' ho40 (Kd.R_lt (by (with_reducible repeat (first | apply Kd.R_alloc | apply Kd.R_drewN | apply Kd.R_drew)); exact HO184.out))) (below_size (by repeat (first | (with_reducible first | exact HB.out | apply below_alloc | apply pw_below_drewN | apply below_drew1 | refine below_set ?_ GE170.out) | exact HB.out)))); have n4_ := Aside0.mk (blk_below (g := gb170) (o := .cells #[.slice Ao27 t166.length co27, .int .i64 t169] 24 (0, 0)) (by (with_reducible repeat (first | refine blk_drewN ?_ _ | refine blk_drew ?_ | refine blk_alloc ?_ _)); exact BK170.out) hb); have n5_ := Aside0.mk (below_step (by repeat (first | (with_reducible first | exact HB.out | apply below_alloc | apply pw_below_drewN | apply below_drew1 | refine below_set ?_ GE170.out) | exact HB.out)) hb); clear HO168; clear HO177; clear HO184; clear BK170; clear HB; have HO168 := n0_; have HO177 := n1_; have HO184 := n2_; have HO187 := n3_; have BK170 := n4_; have HB := n5_; clear n0_ n1_ n2_ n3_ n4_ n5_; clear hb ho40; obtain ⟨Ao41, co41, eo41⟩ := Kd.R_slice HO184.out; subst eo41; obtain ⟨Ao42, co42, eo42⟩ := Kd.R_slice HO187.out; subst eo42) | (go_at_call 23; (with_reducible refine (assartref07_Ints.calls k _ _ t182 _ _ y185 true _ ?side1 ?side2 ?side3 ?side4 A18.out).mono ?_); (case side1 => repeat (first | exact (Kd.R_reads' HO184.out).2.2 | (with_reducible refine Kd.C_alloc ?_ _) | (with_reducible refine Kd.C_drewN ?_ _) | (with_reducible refine Kd.C_drew ?_))); (case side2 => exact (Kd.R_reads' HO184.out).2.1); (case side3 => repeat (first | exact (Kd.R_reads' HO187.out).2.2 | (with_reducible refine Kd.C_alloc ?_ _) | (with_reducible refine Kd.C_drewN ?_ _) | (with_reducible refine Kd.C_drew ?_))); (case side4 => exact (Kd.R_reads' HO187.out).2.1); rintro e w' ⟨rfl, ⟨nd, rfl⟩⟩; have hcz43_0 : w39.cell? ⟨gb170, 0, none⟩ = some (.slice Ao27 t166.length co27) := (blk_cell BK170.out 0).trans rfl; have hcz43_1 : w39.cell? ⟨gb170, 1, none⟩ = some (.int .i64 t169) := (blk_cell BK170.out 1).trans rfl; have hfz43_0 := blk_frozen BK170.out 0; have hfz43_1 := blk_frozen BK170.out 1) | (go_at_call 18; (with_reducible refine (tree_Right.calls k _ _ t166 t169 2 true _ ?side1 ?side2 A20.out).mono ?_); (case side1 => repeat (first | exact (Kd.N_reads' HO168.out).2.2 | (with_reducible refine Kd.C_alloc ?_ _) | (with_reducible refine Kd.C_drewN ?_ _) | (with_reducible refine Kd.C_drew ?_))); (case side2 => exact (Kd.N_reads' HO168.out).2.1); rintro e w44 ⟨rfl, hb⟩; have n0_ := Aside0.mk (Kd.N_below (by (with_reducible repeat (first | apply Kd.N_alloc | apply Kd.N_drewN | apply Kd.N_drew)); exact HO168.out) hb); have n1_ := Aside0.mk (Kd.R_below (by (with_reducible repeat (first | apply Kd.R_alloc | apply Kd.R_drewN | apply Kd.R_drew)); exact HO177.out) hb); have n2_ := Aside0.mk (Kd.R_below (by (with_reducible repeat (first | apply Kd.R_alloc | apply Kd.R_drewN | apply Kd.R_drew)); exact HO184.out) hb); have n3_ := Aside0.mk (Kd.R_below (by (with_reducible repeat (first | apply Kd.R_alloc | apply Kd.R_drewN | apply Kd.R_drew)); exact HO187.out) hb); have n4_ := Aside0.mk (blk_below (g := gb170) (o := .cells #[.slice Ao27 t166.length co27, .int .i64 t169] 24 (0, 0)) (by (with_reducible repeat (first | refine blk_drewN ?_ _ | refine blk_drew ?_ | refine blk_alloc ?_ _)); exact BK170.out) hb); have n5_ := Aside0.mk (below_step (by repeat (first | (with_reducible first | exact HB.out | apply below_alloc | apply pw_below_drewN | apply below_drew1 | refine below_set ?_ GE170.out) | exact HB.out)) hb); clear HO168; clear HO177; clear HO184; clear HO187; clear BK170; clear HB; have HO168 := n0_; have HO177 := n1_; have HO184 := n2_; have HO187 := n3_; have BK170 := n4_; have HB := n5_; clear n0_ n1_ n2_ n3_ n4_ n5_; (try clear hb); (try clear hb2); (try clear hk); (try clear hi); have hcz45_0 : w44.cell? ⟨gb170, 0, none⟩ = some (.slice Ao27 t166.length co27) := (blk_cell BK170.out 0).trans rfl; have hcz45_1 : w44.cell? ⟨gb170, 1, none⟩ = some (.int .i64 t169) := (blk_cell BK170.out 1).trans rfl; have hfz45_0 := blk_frozen BK170.out 0; have hfz45_1 := blk_frozen BK170.out 1) | (go_at_call 18; (with_reducible refine (tree_Right.calls k _ _ t166 t169 (-1) true _ ?side1 ?side2 A22.out).mono ?_); (case side1 => repeat (first | exact (Kd.N_reads' HO168.out).2.2 | (with_reducible refine Kd.C_alloc ?_ _) | (with_reducible refine Kd.C_drewN ?_ _) | (with_reducible refine Kd.C_drew ?_))); (case side2 => exact (Kd.N_reads' HO168.out).2.1); rintro e w46 ⟨rfl, hb⟩; have n0_ := Aside0.mk (Kd.N_below (by (with_reducible repeat (first | apply Kd.N_alloc | apply Kd.N_drewN | apply Kd.N_drew)); exact HO168.out) hb); have n1_ := Aside0.mk (Kd.R_below (by (with_reducible repeat (first | apply Kd.R_alloc | apply Kd.R_drewN | apply Kd.R_drew)); exact HO177.out) hb); have n2_ := Aside0.mk (Kd.R_below (by (with_reducible repeat (first | apply Kd.R_alloc | apply Kd.R_drewN | apply Kd.R_drew)); exact HO184.out) hb); have n3_ := Aside0.mk (Kd.R_below (by (with_reducible repeat (first | apply Kd.R_alloc | apply Kd.R_drewN | apply Kd.R_drew)); exact HO187.out) hb); have n4_ := Aside0.mk (blk_below (g := gb170) (o := .cells #[.slice Ao27 t166.length co27, .int .i64 t169] 24 (0, 0)) (by (with_reducible repeat (first | refine blk_drewN ?_ _ | refine blk_drew ?_ | refine blk_alloc ?_ _)); exact BK170.out) hb); have n5_ := Aside0.mk (below_step (by repeat (first | (with_reducible first | exact HB.out | apply below_alloc | apply pw_below_drewN | apply below_drew1 | refine below_set ?_ GE170.out) | exact HB.out)) hb); clear HO168; clear HO177; clear HO184; clear HO187; clear BK170; clear HB; have HO168 := n0_; have HO177 := n1_; have HO184 := n2_; have HO187 := n3_; have BK170 := n4_; have HB := n5_; clear n0_ n1_ n2_ n3_ n4_ n5_; (try clear hb); (try clear hb2); (try clear hk); (try clear hi); have hcz47_0 : w46.cell? ⟨gb170, 0, none⟩ = some (.slice Ao27 t166.length co27) := (blk_cell BK170.out 0).trans rfl; have hcz47_1 : w46.cell? ⟨gb170, 1, none⟩ = some (.int .i64 t169) := (blk_cell BK170.out 1).trans rfl; have hfz47_0 := blk_frozen BK170.out 0; have hfz47_1 := blk_frozen BK170.out 1) | (go_at_call 18; (with_reducible refine (tree_Right.calls k _ _ t166 t169 3 t191 _ ?side1 ?side2 A24.out).mono ?_); (case side1 => repeat (first | exact (Kd.N_reads' HO168.out).2.2 | (with_reducible refine Kd.C_alloc ?_ _) | (with_reducible refine Kd.C_drewN ?_ _) | (with_reducible refine Kd.C_drew ?_))); (case side2 => exact (Kd.N_reads' HO168.out).2.1); rintro e w48 ⟨rfl, hb⟩; have n0_ := Aside0.mk (Kd.N_below (by (with_reducible repeat (first | apply Kd.N_alloc | apply Kd.N_drewN | apply Kd.N_drew)); exact HO168.out) hb); have n1_ := Aside0.mk (Kd.R_below (by (with_reducible repeat (first | apply Kd.R_alloc | apply Kd.R_drewN | apply Kd.R_drew)); exact HO177.out) hb); have n2_ := Aside0.mk (Kd.R_below (by (with_reducible repeat (first | apply Kd.R_alloc | apply Kd.R_drewN | apply Kd.R_drew)); exact HO184.out) hb); have n3_ := Aside0.mk (Kd.R_below (by (with_reducible repeat (first | apply Kd.R_alloc | apply Kd.R_drewN | apply Kd.R_drew)); exact HO187.out) hb); have n4_ := Aside0.mk (blk_below (g := gb170) (o := .cells #[.slice Ao27 t166.length co27, .int .i64 t169] 24 (0, 0)) (by (with_reducible repeat (first | refine blk_drewN ?_ _ | refine blk_drew ?_ | refine blk_alloc ?_ _)); exact BK170.out) hb); have n5_ := Aside0.mk (below_step (by repeat (first | (with_reducible first | exact HB.out | apply below_alloc | apply pw_below_drewN | apply below_drew1 | refine below_set ?_ GE170.out) | exact HB.out)) hb); clear HO168; clear HO177; clear HO184; clear HO187; clear BK170; clear HB; have HO168 := n0_; have HO177 := n1_; have HO184 := n2_; have HO187 := n3_; have BK170 := n4_; have HB := n5_; clear n0_ n1_ n2_ n3_ n4_ n5_; (try clear hb); (try clear hb2); (try clear hk); (try clear hi)))
                            go_ret
                            exact ⟨by first | rfl | (simp [errW_none, errW_some] <;> rfl) | (simp [*, errW_none, errW_some] <;> rfl), by repeat (first | (with_reducible first | exact HB.out | apply below_alloc | apply pw_below_drewN | apply below_drew1 | refine below_set ?_ GE170.out) | exact HB.out)⟩
                          · replace c23 := Bool.eq_false_iff.mpr c23
                            subst c23
                            have H1 : (some false) = some r := by rw [if_neg (show ¬ (false = true) by decide)] at H; exact H
                            clear H
                            have H := H1
                            clear H1
                            obtain rfl := Option.some.inj H
                            cases hr
                        · replace c21 := Bool.eq_false_iff.mpr c21
                          subst c21
                          have H1 : (some false) = some r := by rw [if_neg (show ¬ (false = true) by decide)] at H; exact H
                          clear H
                          have H := H1
                          clear H1
                          obtain rfl := Option.some.inj H
                          cases hr
                      · replace c19 := Bool.eq_false_iff.mpr c19
                        subst c19
                        have H1 : (some false) = some r := by rw [if_neg (show ¬ (false = true) by decide)] at H; exact H
                        clear H
                        have H := H1
                        clear H1
                        obtain rfl := Option.some.inj H
                        cases hr
                    · rw [if_neg c16] at H
                      have c16b0 : (t181 == 5) = false := beq_eq_false_iff_ne.mpr c16
                      have c16b1 : (t181 != 5) = true := bne_iff_ne.mpr c16
                      obtain rfl := Option.some.inj H
                      cases hr
                  · rw [if_neg c14] at H
                    have c14b0 : (t180 == 2) = false := beq_eq_false_iff_ne.mpr c14
                    have c14b1 : (t180 != 2) = true := bne_iff_ne.mpr c14
                    obtain rfl := Option.some.inj H
                    cases hr
                · rw [if_neg c12] at H
                  have c12b0 : (((rd_T49 t175 1).f0) == 5) = false := beq_eq_false_iff_ne.mpr c12
                  have c12b1 : (((rd_T49 t175 1).f0) != 5) = true := bne_iff_ne.mpr c12
                  obtain rfl := Option.some.inj H
                  cases hr
              · rw [if_neg c11] at H
                exact absurd H (by simp)
            · rw [if_neg c10] at H
              have c10b0 : (((rd_T49 t175 0).f0) == 2) = false := beq_eq_false_iff_ne.mpr c10
              have c10b1 : (((rd_T49 t175 0).f0) != 2) = true := bne_iff_ne.mpr c10
              obtain rfl := Option.some.inj H
              cases hr
          · rw [if_neg c9] at H
            exact absurd H (by simp)
        · rw [if_neg c8] at H
          have c8b0 : ((t175.length : Int) == 2) = false := beq_eq_false_iff_ne.mpr c8
          have c8b1 : ((t175.length : Int) != 2) = true := bne_iff_ne.mpr c8
          obtain rfl := Option.some.inj H
          cases hr
      · rw [if_neg c7] at H
        have c7b0 : (t174 == 4) = false := beq_eq_false_iff_ne.mpr c7
        have c7b1 : (t174 != 4) = true := bne_iff_ne.mpr c7
        obtain rfl := Option.some.inj H
        cases hr
    · rw [if_neg c6] at H
      have c6b0 : (t171 == 9) = false := beq_eq_false_iff_ne.mpr c6
      have c6b1 : (t171 != 9) = true := bne_iff_ne.mpr c6
      obtain rfl := Option.some.inj H
      cases hr
  · rw [if_neg c5] at H
    have c5b0 : (t172 == 0) = false := beq_eq_false_iff_ne.mpr c5
    have c5b1 : (t172 != 0) = true := bne_iff_ne.mpr c5
    obtain rfl := Option.some.inj H
    cases hr
set_option maxRecDepth 100000 in
theorem shown07_val : assartlaw07_shown.g 60 = some true := by decide +kernel
def assartlaw07_shown.f : Option Bool := some true
theorem assartlaw07_shown.calls (r : Bool) (w : World) (h : assartlaw07_shown.f = some r) : Calls Try.prog 15 #[] w fun e w' => e = .returned (.bool r) ∧ Below w.heap.size w w' := by
  obtain rfl := Option.some.inj h
  exact assartlaw07_shown.walk 60 true w shown07_val rfl
end Go.Proofs.Yteiladccdenpbaa.P
end
