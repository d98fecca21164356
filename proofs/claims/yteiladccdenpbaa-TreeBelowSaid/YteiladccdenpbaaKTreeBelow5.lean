/- Texts of this claim's proof put together: PTrB, PureTreeBelowV, CTreeBelow, HRow, QTreeBelow, PureTreeBelow, LawTreeBelow. -/
import Derived.Below
import Derived.Deep.Draws
import Derived.Deep.AppendLies
import Derived.Maps.AppendAt
import Derived.OwnWalk
import Derived.Laws.BytesArg
import Derived.Laws.MakeOwn
import Derived.Laws.OwnMore
import Derived.Deep.OwnRows
import Derived.Tactics
import Derived.Lib.ConvBytes
import Derived.Laws.Slices
import Derived.WalkKit
import Derived.KernelRfl
import Derived.RowKit3
import Derived.Deep.LoopGhost
import Derived.Deep.QuietTactic
import Derived.BigQuiet
import Derived.WideLaws
import Derived.Deep.DeepCutAuto
import Derived.Deep.CutBlock
import Derived.Deep.RegionHeld3
import Derived.Laws.Rows
import Derived.Lib.AppendStr
import Derived.ArgAppend
import Derived.Laws.IdiomCopy
import Derived.RowKit
import Derived.OrdersHeld
import Derived.Laws.BitsLemmas
import Derived.Laws.StructEq
import Derived.Test.YteiladccdenpbaaProg
import Derived.Shelf.RegionOpenPlain
import Derived.Shelf.Abstract
import Derived.RangeFuncNested
import Derived.RangeFuncBound
import Derived.RangeFuncCalls
import Derived.RangeFuncLeaves
import Derived.Shelf.RegionOpen
import Derived.OwnWalkIn
import Derived.TacticsInMore
import Derived.LoopNIn
import Derived.LoopIn
import Derived.Laws.EntriesVeiled
import Derived.RangeFuncBox
import Derived.ChangeArms
import Derived.DataReads
import Derived.DataElems
import Derived.SizedLaws
import Derived.Test.YteiladccdenpbaaRows
import Derived.ProofKit
import Derived.OpenShut
import Derived.ShutString
import Derived.ChangeOld
import Derived.Test.YteiladccdenpbaaKTreeBelow0
import Derived.Test.YteiladccdenpbaaKTreeBelow1
import Derived.Test.YteiladccdenpbaaKTreeBelow2
import Derived.Test.YteiladccdenpbaaKTreeBelow3
import Derived.Test.YteiladccdenpbaaKTreeBelow4
namespace Foot
end Foot
namespace Go.Proofs.Yteiladccdenpbaa
end Go.Proofs.Yteiladccdenpbaa
namespace Go.Proofs.Yteiladccdenpbaa.P
end Go.Proofs.Yteiladccdenpbaa.P
namespace Go.Proofs.Yteiladccdenpbaa.Pure
end Go.Proofs.Yteiladccdenpbaa.Pure
namespace Go.Proofs.Yteiladccdenpbaa.treeBelow
end Go.Proofs.Yteiladccdenpbaa.treeBelow
namespace Go.Proofs.YteiladccdenpbaaW.PrintLast
end Go.Proofs.YteiladccdenpbaaW.PrintLast
namespace Go.Proofs.YteiladccdenpbaaW.PrintMore
end Go.Proofs.YteiladccdenpbaaW.PrintMore
namespace Go.Proofs.YteiladccdenpbaaW.PrintWords
end Go.Proofs.YteiladccdenpbaaW.PrintWords
namespace Kd
end Kd
section
namespace Go.Proofs.Yteiladccdenpbaa.P
open Go.RowKit Go.Proofs.YteiladccdenpbaaW.PrintWords Go.Proofs.YteiladccdenpbaaW.PrintLast Go.Proofs.YteiladccdenpbaaW.PrintMore
set_option linter.unusedVariables false
set_option linter.unusedSimpArgs false
def Pre (l : List S55) (it : List S49) (c j : Nat) : Prop := ∀ i, i < j → Tr l c (vAt it i) ∧ lo l (vAt it i) = kAt it i ∧ (i + 1 < j → Hi l c (vAt it i) < kAt it (i + 1))
theorem Pre.snoc {l : List S55} {it : List S49} {c j : Nat} (h : Pre l it c j) (t : Tr l c (vAt it j)) (k : lo l (vAt it j) = kAt it j) (g : 0 < j → Hi l c (vAt it (j - 1)) < kAt it j) : Pre l it c (j + 1) := fun i hi => by
  by_cases e : i = j
  · subst e; exact ⟨t, k, fun h => by omega⟩
  · refine ⟨(h i (by omega)).1, (h i (by omega)).2.1, fun h2 => ?_⟩
    by_cases e2 : i + 1 = j
    · have := g (by omega)
      rw [show j - 1 = i by omega] at this
      rw [e2]
      exact this
    · exact (h i (by omega)).2.2 (by omega)
theorem pre_tr {l : List S55} {p : Int} (h0 : 0 ≤ p) (h1 : p < (l.length : Int)) (hr : 0 < Rf l p) (hl : Lf l p = false) {c : Nat} (hc : 1 ≤ c) : Tr l (c + 1) p ↔ Pre l (It l p) c (It l p).length := by
  obtain ⟨c, rfl⟩ : ∃ m, c = m + 1 := ⟨c - 1, by omega⟩
  exact ⟨fun t i hi => t.2.2.2.2 i hi, fun h => ⟨h0, h1, hr, hl, fun i hi => h i hi⟩⟩
abbrev BS (l : List S55) (p : Int) (m : Nat) (r : Int × Int × Int × Bool) : Prop :=
  (r.2.2.2 = true → ∃ h, h ≤ m ∧ Tr l h p ∧ r.1 = lo l p ∧ r.2.1 = Hi l h p ∧ r.2.2.1 = (h : Int)) ∧ (r.2.2.2 = false → ∀ h, h ≤ m → ¬ Tr l h p)
abbrev BL (l : List S55) (it : List S49) (m : Nat) (r : Int × Int × Int × Bool) : Prop :=
  (r.2.2.2 = true → ∃ c, 1 ≤ c ∧ c ≤ m ∧ Pre l it c it.length ∧ r.1 = kAt it 0 ∧ r.2.1 = Hi l c (vAt it (it.length - 1)) ∧ r.2.2.1 = (c : Int) + 1) ∧ (r.2.2.2 = false → ∀ c, c ≤ m → ¬ Pre l it c it.length)
theorem below_loop {l : List S55} {kp : Int} (H : HR l) (it : List S49) (lf : Bool) (hl0 : 0 < it.length) (hl : it.length ≤ 1000) (m : Nat) (hm : m ≤ 1000)
    (hF : ∀ i, i < it.length → ∀ k, 10 * m + 10 ≤ k → ∃ r, assartref07_below.f k l kp (vAt it i) (m : Int) = some r ∧ BS l (vAt it i) m r) :
    ∀ (d k j : Nat) (a b c : Int) (is : Bool), j + d = it.length → 10 * m + 10 + 2 * d + 1 ≤ k →
      (0 < j → ∃ h : Nat, 1 ≤ h ∧ h ≤ m ∧ Pre l it h j ∧ a = kAt it 0 ∧ b = Hi l h (vAt it (j - 1)) ∧ c = (h : Int) + 1) →
      ∃ r, assartref07_below.l0 k ((m + 1 : Nat) : Int) (j : Int) l kp lf it a b c is = some r ∧ BL l it m r := by
  intro d
  induction d with
  | zero =>
    intro k j a b c is hj hk hI
    obtain ⟨k, rfl⟩ : ∃ m, k = m + 1 := ⟨k - 1, by omega⟩
    obtain rfl : j = it.length := by omega
    simp only [assartref07_below.l0]
    rw [if_neg (by omega)]
    exact ⟨_, rfl, fun _ => hI hl0, fun h => by cases h⟩
  | succ d ih =>
    intro k j a b c is hj hk hI
    obtain ⟨k, rfl⟩ : ∃ m, k = m + 2 := ⟨k - 2, by omega⟩
    obtain ⟨x, hx, hs⟩ := hF j (by omega) (k + 1) (by omega)
    simp only [assartref07_below.l0]
    have hw : wrap64 (((m + 1 : Nat) : Int) - 1) = (m : Int) := by unfold wrap64; omega
    rw [if_pos (by omega), if_pos (by omega), hw, show (rd_T49 it (j : Nat)).f1 = vAt it j from rfl, show (rd_T49 it (j : Nat)).f0 = kAt it j from rfl, hx, Option.bind_some]
    have no : ∀ r : Int × Int × Int × Bool, r = (0, 0, 0, false) → (∀ c, c ≤ m → Pre l it c it.length → False) → ∃ r', (some r : Option (Int × Int × Int × Bool)) = some r' ∧ BL l it m r' :=
      fun r e h => ⟨r, rfl, fun hh => (by rw [e] at hh; cases hh), fun _ c hc hp => h c hc hp⟩
    by_cases h1 : x.2.2.2 = true
    · rw [if_pos h1]
      obtain ⟨h, hhm, ht, hlo, hhi, hhg⟩ := hs.1 h1
      have hh1 := ht.pos
      by_cases h2 : x.1 = kAt it j
      · rw [if_pos h2]
        by_cases h3 : (j : Int) > 0
        · obtain ⟨c', c1, c2, hp, rfl, rfl, rfl⟩ := hI (by omega)
          rw [if_pos h3]
          by_cases h4 : Hi l c' (vAt it (j - 1)) ≥ x.1
          · rw [if_pos h4]
            simp only [assartref07_below.j1]
            rw [if_pos trivial]
            refine no _ rfl fun c hc hq => ?_
            have e := tr_uniq H (hp (j - 1) (by omega)).1 (hq (j - 1) (by omega)).1
            subst e
            have := (hq (j - 1) (by omega)).2.2 (by omega)
            rw [show j - 1 + 1 = j by omega] at this
            omega
          · rw [if_neg h4]
            have hw2 : wrap64 (x.2.2.1 + 1) = (h : Int) + 1 := by rw [hhg]; unfold wrap64; omega
            rw [hw2]
            by_cases h5 : c' = h
            · subst h5
              simp only [assartref07_below.j1]
              rw [if_neg (by simp), if_neg (by omega), wsucc j (by omega)]
              exact ih k (j + 1) _ _ _ _ (by omega) (by omega) (fun _ => ⟨c', c1, c2, hp.snoc ht (by rw [← hlo, h2]) (fun _ => by omega), rfl, by rw [hhi]; rfl, rfl⟩)
            · simp only [assartref07_below.j1]
              rw [if_pos (by rw [bne_iff_ne]; omega)]
              refine no _ rfl fun c hc hq => ?_
              have e := tr_uniq H (hp (j - 1) (by omega)).1 (hq (j - 1) (by omega)).1
              have e2 := tr_uniq H ht (hq j (by omega)).1
              omega
        · obtain rfl : j = 0 := by omega
          rw [if_neg h3]
          simp only [assartref07_below.j1]
          have hw2 : wrap64 (x.2.2.1 + 1) = (h : Int) + 1 := by rw [hhg]; unfold wrap64; omega
          rw [if_neg (by simp), if_pos (show ((0 : Nat) : Int) = 0 from rfl), wsucc 0 (by omega), hw2]
          exact ih k (0 + 1) _ _ _ _ (by omega) (by omega) (fun _ => ⟨h, hh1, hhm, Pre.snoc (fun i hi => by omega) ht (by rw [← hlo, h2]) (fun h => by omega), h2, hhi, rfl⟩)
      · rw [if_neg h2]
        simp only [assartref07_below.j1]
        rw [if_pos trivial]
        refine no _ rfl fun c hc hq => ?_
        have := (hq j (by omega)).2.1
        omega
    · rw [if_neg h1]
      simp only [assartref07_below.j1]
      rw [if_pos trivial]
      rw [Bool.not_eq_true] at h1
      exact no _ rfl fun c hc hq => hs.2 h1 c hc (hq j (by omega)).1
theorem below_val {l : List S55} {kp : Int} (H : HR l) : ∀ (m k : Nat) (p : Int), m ≤ 1000 → 0 ≤ p → p < (l.length : Int) → 10 * m + 10 ≤ k → ∃ r, assartref07_below.f k l kp p (m : Int) = some r ∧ BS l p m r := by
  intro m
  induction m with
  | zero =>
    intro k p hm h0 h1 hk
    obtain ⟨k, rfl⟩ : ∃ m, k = m + 1 := ⟨k - 1, by omega⟩
    have none : ∀ h, h ≤ 0 → ¬ Tr l h p := fun h hh t => by have := t.pos; omega
    simp only [assartref07_below.f]
    rw [if_pos h0, if_pos h1]
    by_cases hr : Rf l p < 1
    · rw [if_pos hr]
      exact ⟨_, rfl, fun h => (by cases h), fun _ => none⟩
    · rw [if_neg hr]
      have hn := H.rn h0 h1 (by omega)
      have := hn.1
      have := hn.2.1
      by_cases hl : (rd_T55 l p).f2.f0 = true
      · have hw : wrap64 (((rd_T55 l p).f2.f1.length : Int) - 1) = (((It l p).length - 1 : Nat) : Int) := by
          show wrap64 (((It l p).length : Int) - 1) = _
          unfold wrap64; omega
        rw [if_pos hl, if_pos (show (0 : Int) < ((It l p).length : Int) by omega), hw, if_pos (by omega), if_pos (show (((It l p).length - 1 : Nat) : Int) < ((It l p).length : Int) by omega)]
        exact ⟨_, rfl, fun h => by simp at h, fun _ => none⟩
      · rw [if_neg hl, if_pos (by omega)]
        exact ⟨_, rfl, fun h => (by cases h), fun _ => none⟩
  | succ m ih =>
    intro k p hm h0 h1 hk
    obtain ⟨k, rfl⟩ : ∃ m, k = m + 1 := ⟨k - 1, by omega⟩
    simp only [assartref07_below.f]
    rw [if_pos h0, if_pos h1]
    by_cases hr : Rf l p < 1
    · rw [if_pos hr]
      exact ⟨_, rfl, fun h => (by cases h), fun _ h _ t => (by have := t.base.2.2; omega)⟩
    · rw [if_neg hr]
      have hn := H.rn h0 h1 (by omega)
      have := hn.1
      have := hn.2.1
      by_cases hl : (rd_T55 l p).f2.f0 = true
      · have hw : wrap64 (((rd_T55 l p).f2.f1.length : Int) - 1) = (((It l p).length - 1 : Nat) : Int) := by
          show wrap64 (((It l p).length : Int) - 1) = _
          unfold wrap64; omega
        rw [if_pos hl, if_pos (show (0 : Int) < ((It l p).length : Int) by omega), hw, if_pos (by omega), if_pos (show (((It l p).length - 1 : Nat) : Int) < ((It l p).length : Int) by omega)]
        refine ⟨_, rfl, fun _ => ⟨1, by omega, ⟨h0, h1, by omega, hl⟩, rfl, rfl, rfl⟩, fun h => ?_⟩
        have := of_decide_eq_false h
        omega
      · rw [if_neg hl]
        rw [Bool.not_eq_true] at hl
        have hlf : Lf l p = false := hl
        by_cases hm1 : m = 0
        · subst hm1
          rw [if_pos (by omega)]
          refine ⟨_, rfl, fun h => (by cases h), fun _ h hh t => ?_⟩
          have a := t.leaf
          rw [hlf] at a
          have := t.pos
          have := of_decide_eq_false a.symm
          omega
        · rw [if_neg (by omega)]
          obtain ⟨r, hr', hs⟩ := below_loop (kp := kp) H (It l p) (Lf l p) (by omega) (by omega) m (by omega) (fun i hi k hk => by
            have := H.ch h0 h1 (by omega) hlf hi
            exact ih k _ (by omega) this.1 this.2 hk) _ k 0 0 0 0 false (Nat.zero_add _) (by omega) (fun h => by omega)
          refine ⟨r, hr', fun h => ?_, fun h h' hh t => ?_⟩
          · obtain ⟨c, c1, c2, hp, e1, e2, e3⟩ := hs.1 h
            refine ⟨c + 1, by omega, (pre_tr h0 h1 (by omega) hlf c1).2 hp, e1, ?_, by rw [e3]; rfl⟩
            obtain ⟨c, rfl⟩ : ∃ m, c = m + 1 := ⟨c - 1, by omega⟩
            exact e2
          · have a := t.leaf
            rw [hlf] at a
            have a := of_decide_eq_false a.symm
            have := t.pos
            obtain ⟨c, rfl⟩ : ∃ c, h' = c + 1 := ⟨h' - 1, by omega⟩
            exact hs.2 h c (by omega) ((pre_tr h0 h1 (by omega) hlf (by omega)).1 t)
def RightP (l : List S55) (root : Int) : Prop := root = -1 ∨ ∃ h, h ≤ 20 ∧ Tr l h root
theorem refRight_val {l : List S55} {kp : Int} (H : HR l) (root : Int) {k : Nat} (hk : 300 ≤ k) : ∃ b, assartref07_Right.f k l kp root = some b ∧ (b = true ↔ RightP l root) := by
  unfold assartref07_Right.f assartref05_Used.f
  by_cases h : root = -1
  · rw [if_pos h]
    exact ⟨true, rfl, fun _ => .inl h, fun _ => rfl⟩
  · rw [if_neg h]
    have none : (root < 0 ∨ (l.length : Int) ≤ root ∨ Rf l root ≤ 0) → ¬ RightP l root := by
      rintro hh (e | ⟨c, _, t⟩)
      · exact h e
      · have := t.base; omega
    by_cases h0 : root ≥ 0
    · rw [if_pos h0]
      by_cases h1 : root < (l.length : Int)
      · rw [if_pos h1, if_pos h0, Option.bind_some]
        by_cases h2 : (rd_T55 l root).f0 > 0
        · rw [if_pos (decide_eq_true h2)]
          obtain ⟨r, hr, hs⟩ := below_val (kp := kp) H 20 k root (by omega) h0 h1 (by omega)
          rw [show ((20 : Nat) : Int) = 20 from rfl] at hr
          rw [hr, Option.bind_some]
          refine ⟨_, rfl, fun hb => ?_, fun hb => ?_⟩
          · obtain ⟨c, hc, t, _⟩ := hs.1 hb
            exact .inr ⟨c, hc, t⟩
          · rcases hb with hb | ⟨c, hc, t⟩
            · exact absurd hb h
            · cases hb : r.2.2.2 with
              | true => rfl
              | false => exact absurd t (hs.2 hb c hc)
        · rw [if_neg (by simpa using h2)]
          exact ⟨_, rfl, fun h => (by cases h), fun hb => absurd hb (none (by simp only [Rf]; omega))⟩
      · rw [if_neg h1, Option.bind_some, if_neg (by simp)]
        exact ⟨_, rfl, fun h => (by cases h), fun hb => absurd hb (none (by omega))⟩
    · rw [if_neg h0, Option.bind_some, if_neg (by simp)]
      exact ⟨_, rfl, fun h => (by cases h), fun hb => absurd hb (none (by omega))⟩
theorem may07_val (l : List S55) (kp root : Int) {k : Nat} (hk : 2020 ≤ k) : ∃ b, assartref07_May.f k l kp root 60 = some b ∧ (b = true → mayH l kp 60 ∧ HR l ∧ RightP l root) := by
  unfold assartref07_May.f
  have := may05_val l kp 60 (by omega) k hk
  rw [show ((60 : Nat) : Int) = 60 from rfl] at this
  rw [this, Option.bind_some]
  by_cases h : mayH l kp 60
  · rw [if_pos (decide_eq_true h)]
    obtain ⟨b, hb, hs⟩ := refRight_val (kp := kp) (HR.of h.2.2) root (k := k) (by omega)
    rw [hb, Option.bind_some]
    exact ⟨b, rfl, fun e => ⟨h, HR.of h.2.2, hs.1 e⟩⟩
  · rw [if_neg (by simpa using h)]
    exact ⟨_, rfl, fun h => by cases h⟩
end Go.Proofs.Yteiladccdenpbaa.P
end
section
namespace Go.Proofs.Yteiladccdenpbaa.P
open Go.RowKit Go.Proofs.Yteiladccdenpbaa.P Go.Proofs.YteiladccdenpbaaW.PrintWords Go.Proofs.YteiladccdenpbaaW.PrintLast
theorem below_l0 {l : List S55} {kp : Int} (H : HR l) {h : Nat} {p : Int} (t : Tr l (h + 2) p) (hh : h + 2 ≤ 20) : ∀ (d k j : Nat) (acc : List S49), j + d = (It l p).length → 9000 + d ≤ k →
    acc = ((It l p).take j).flatMap (fun x => Ls l (h + 1) x.f1) → assartlaw07_TreeBelow.l0 k p true acc (j : Int) l kp false (It l p) = some true := by
  have hn := t.rn H
  have hl := hn.2.1
  intro d
  induction d with
  | zero =>
    intro k j acc hj hk ha
    obtain ⟨k, rfl⟩ : ∃ m, k = m + 1 := ⟨k - 1, by omega⟩
    simp only [assartlaw07_TreeBelow.l0]
    have e : acc = Ls l (h + 2) p := by rw [ha, List.take_of_length_le (by omega)]; rfl
    have hl := ls_len H t
    rw [if_neg (by omega), if_pos trivial, scan_val H 0 2147483648 t (by omega), Option.bind_some, between_all H t (by omega), items_val _ _ (by omega) _ (by omega), Option.bind_some, e]
    simp
  | succ d ih =>
    intro k j acc hj hk ha
    obtain ⟨k, rfl⟩ : ∃ m, k = m + 1 := ⟨k - 1, by omega⟩
    simp only [assartlaw07_TreeBelow.l0]
    have tj := t.2.2.2.2 j (by omega)
    have s := said1 H _ _ tj.1
    obtain ⟨x, xs, hx, hk0⟩ := s.hd
    have hlj := ls_len H tj.1
    have htl : acc.length ≤ 32000 := by
      rw [ha]
      have : ∀ m, m ≤ (It l p).length → (((It l p).take m).flatMap (fun x => Ls l (h + 1) x.f1)).length ≤ 8000 * m := by
        intro m
        induction m with
        | zero => intro _; simp
        | succ m ihm =>
          intro hm
          rw [List.take_succ_eq_append_getElem (by omega), List.flatMap_append, List.length_append]
          have := ihm (by omega)
          have h2 := ls_len H (t.2.2.2.2 m (by omega)).1
          simp only [List.flatMap_cons, List.flatMap_nil, List.append_nil]
          rw [(getE (show m < (It l p).length by omega)).2]
          omega
      have := this j (by omega)
      omega
    rw [if_pos (by omega), if_pos (by omega), show (rd_T49 (It l p) (j : Nat)).f1 = vAt (It l p) j from rfl, scan_val H 0 2147483648 tj.1 (by omega), Option.bind_some, between_all H tj.1 (by omega)]
    have hne : 0 < (Ls l (h + 1) (vAt (It l p) j)).length := by rw [hx]; simp
    have hk1 : (rd_T49 (Ls l (h + 1) (vAt (It l p) j)) 0).f0 = (rd_T49 (It l p) (j : Nat)).f0 := by
      have : rd_T49 (Ls l (h + 1) (vAt (It l p) j)) 0 = x := by rw [hx]; rfl
      rw [this, hk0]
      exact tj.2.1
    rw [if_neg (by omega), if_pos (by omega), if_pos hk1, if_pos (by omega), wsucc j (by omega)]
    refine ih k (j + 1) _ (by omega) (by omega) ?_
    rw [List.take_succ_eq_append_getElem (by omega), List.flatMap_append, ha]
    congr 1
    simp only [List.flatMap_cons, List.flatMap_nil, List.append_nil]
    rw [(getE (show j < (It l p).length by omega)).2]
theorem TreeBelow_val (l : List S55) (kp root : Int) : assartlaw07_TreeBelow.g 10001 l kp root = some true := by
  unfold assartlaw07_TreeBelow.g assartlaw07_shown.f
  obtain ⟨c, hc, hm⟩ := may07_val l kp root (k := 10001) (by omega)
  rw [Option.bind_some, hc, Option.bind_some]
  rw [show (10001 : Nat) = 10000 + 1 from rfl]
  simp only [assartlaw07_TreeBelow.j0]
  by_cases h : c = true
  · obtain ⟨hmay, H, hr⟩ := hm h
    rw [if_pos h]
    by_cases hneg : root < 0
    · rw [if_pos (decide_eq_true hneg)]
    · rw [if_neg (by simpa using hneg)]
      rcases hr with e | ⟨h', hh, t⟩
      · omega
      · have tb := t.base
        rw [if_pos tb.1, if_pos tb.2.1]
        match h', hh, t with
        | 1, hh, t =>
          have hl := ls_len H t
          rw [if_pos t.2.2.2, if_pos trivial, scan_val H 0 2147483648 t (by omega), Option.bind_some, between_all H t (by omega), items_val _ _ (by omega) _ (by omega), Option.bind_some]
          simp [Ls]
        | h' + 2, hh, t =>
          have hlf : (rd_T55 l root).f2.f0 = false := t.2.2.2.1
          rw [if_neg t.nl, hlf]
          exact below_l0 H t hh _ 10000 0 [] (Nat.zero_add _) (by have := (t.rn H).2.1; omega) rfl
  · rw [if_neg h, if_pos trivial]
end Go.Proofs.Yteiladccdenpbaa.P
end
section
namespace Go.Proofs.Yteiladccdenpbaa.P
open Go.RowKit Go.Proofs.YteiladccdenpbaaW.PrintWords Go.Proofs.YteiladccdenpbaaW.PrintLast Go.Proofs.YteiladccdenpbaaW.PrintMore
set_option linter.unusedVariables false
def assartlaw07_TreeBelow.f (k : Nat) (l0_0 : List (S55)) (a0_1 : Int) (a1 : Int) : Option (Bool) := some true
theorem assartlaw07_TreeBelow.calls (k : Nat) (A0_0 : Option Addr) (c0_0 : Nat) (l0_0 : List (S55)) (a0_1 : Int) (a1 : Int) (r : Bool) (w : World) (hr0_0 : Kd.C k55 w A0_0 l0_0.length l0_0) (hc0_0 : l0_0.length ≤ c0_0) (h : assartlaw07_TreeBelow.f k l0_0 a0_1 a1 = some r) :
    Calls Try.prog 7 #[.agg #[.slice A0_0 l0_0.length c0_0, .int .i64 a0_1], .int .i64 a1] w fun e w' => e = .returned (.bool r) ∧ Below w.heap.size w w' := by
  obtain rfl := Option.some.inj h
  exact assartlaw07_TreeBelow.walk 10001 A0_0 c0_0 l0_0 a0_1 a1 true w hr0_0 hc0_0 (TreeBelow_val l0_0 a0_1 a1) rfl
end Go.Proofs.Yteiladccdenpbaa.P
end
section
namespace Go.Proofs.Yteiladccdenpbaa.P
open Go.RowKit Go.Proofs.YteiladccdenpbaaW.PrintWords Go.Proofs.YteiladccdenpbaaW.PrintLast Go.Proofs.YteiladccdenpbaaW.PrintMore
set_option linter.unusedVariables false
set_option linter.unusedSimpArgs false
structure Opens {α : Type} (P : Program) (t : TypeId) (d : Kd α) (ok : α → Prop) : Prop where
  sz : P.cellsOf t = d.sz
  op : ∀ {H : Type} {enc : TypeId × Value → H} {W : World} {base : Nat} {spare : Nat → Bool} {held : Bool} {fuel : Nat} {cs : List Value} {y : DataW H × List MemPlace}, DataW.trod enc P W base spare held fuel t cs = some y → (DataW.weights P t y.1).all (· ≤ reachBytes) = true → ∃ x, d.K W x cs ∧ ok x
theorem Opens.int {P : Program} {t : TypeId} {k : IntKind} (h : P.underlying t = some (.int k)) (hs : P.cellsOf t = 1) : Opens P t (Kd.int k) (fun n => (Lit.int k n).wf = true) :=
  ⟨hs, fun hy _ => by
    obtain ⟨n, rfl, _, hw⟩ := DataW.trod_int h hy
    exact ⟨n, rfl, hw⟩⟩
theorem Opens.bool {P : Program} {t : TypeId} (h : P.underlying t = some .bool) (hs : P.cellsOf t = 1) : Opens P t Kd.bool (fun _ => True) :=
  ⟨hs, fun hy _ => by
    obtain ⟨b, rfl, _⟩ := DataW.trod_bool h hy
    exact ⟨b, rfl, trivial⟩⟩
theorem choose_row {α : Type} {R : Nat → α → Prop} : ∀ n, (∀ i, i < n → ∃ x, R i x) → ∃ xs : List α, xs.length = n ∧ ∀ i x, xs[i]? = some x → R i x
  | 0, _ => ⟨[], rfl, fun i x h => by simp at h⟩
  | n + 1, h => by
    obtain ⟨xs, hl, hx⟩ := choose_row n (fun i hi => h i (by omega))
    obtain ⟨x, hr⟩ := h n (by omega)
    refine ⟨xs ++ [x], by simp [hl], fun i z hz => ?_⟩
    by_cases hi : i < n
    · rw [List.getElem?_append_left (by omega)] at hz
      exact hx i z hz
    · rw [List.getElem?_append_right (by omega)] at hz
      have : i - xs.length = 0 := by
        rcases Nat.eq_zero_or_pos (i - xs.length) with h0 | h0
        · exact h0
        · rw [List.getElem?_eq_none (by simp; omega)] at hz; cases hz
      rw [this] at hz
      simp at hz
      subst hz
      have : i = n := by omega
      rw [this]; exact hr
theorem weightsAll_mem {H : Type} {P : Program} {e : TypeId} : ∀ {ds : List (DataW H)}, (DataW.weightsAll P e ds).all (· ≤ reachBytes) = true → ∀ d ∈ ds, (DataW.weights P e d).all (· ≤ reachBytes) = true
  | [], _, d, hd => by cases hd
  | a :: ds, h, d, hd => by
    simp only [DataW.weightsAll, List.all_append, Bool.and_eq_true] at h
    rcases List.mem_cons.1 hd with rfl | hd
    · exact h.1
    · exact weightsAll_mem h.2 d hd
theorem Opens.slice {α : Type} {P : Program} {t e : TypeId} {d : Kd α} {ok : α → Prop} {B : Nat} (h : P.underlying t = some (.slice e)) (hs : P.cellsOf t = 1) (hB : P.bytesOf e = B) (he : Opens P e d ok) : Opens P t (Kd.slice e d) (fun xs => xs.length * B ≤ 140737488351232 ∧ ∀ x ∈ xs, ok x) :=
  ⟨hs, fun {H enc W base spare held fuel cs y} hy hw => by
    rcases DataW.trod_slice h hy with ⟨rfl, rfl⟩ | ⟨a, len, cap, elems, rest, n, rfl, rfl, rfl, hb, hl, hc, hel, hi, _, _⟩
    · exact ⟨[], ⟨none, 0, rfl, Nat.le_refl _, Kd.C_nil _ _⟩, by simp⟩
    · unfold DataW.weights at hw
      rw [h] at hw
      simp only [List.all_cons, List.all_append, Bool.and_eq_true, decide_eq_true_eq, hB, List.length_map] at hw
      obtain ⟨hw0, hw1, _⟩ := hw
      have hx : ∀ i, i < len → ∃ x, ok x ∧ ∃ c, c.length = d.sz ∧ d.K W x c ∧ W.cells? base (a.add (i * d.sz)) d.sz = some c := by
        intro i hlt
        have h1 := hi i hlt
        rw [List.getElem?_eq_getElem (by omega)] at h1
        obtain ⟨c, hc1, hc2⟩ := Option.bind_eq_some_iff.1 h1
        obtain ⟨x, hK, hok⟩ := he.op hc2 (weightsAll_mem hw1 _ (List.mem_map_of_mem (List.getElem_mem _)))
        rw [he.sz] at hc1
        exact ⟨x, hok, c, d.K_len hK, hK, hc1⟩
      obtain ⟨xs, hxl, hxs⟩ := choose_row len hx
      refine ⟨xs, ⟨some a, cap, by rw [hxl], by omega, rfl, ?_, fun hpos => ⟨a, rfl, fun j p hj => ?_⟩⟩, ?_, ?_⟩
      · simp only [maxLen] at hc; omega
      · obtain ⟨_, c, hcl, hK, hcc⟩ := hxs j p hj
        refine ⟨c, hcl, hK, fun i u hu => ?_⟩
        obtain ⟨_, _, hcell⟩ := World.cells?_some hcc
        have hi : i < d.sz := by rw [← hcl]; exact (List.getElem?_eq_some_iff.1 hu).1
        have := hcell i hi
        rw [Addr.add_add] at this
        rw [this, hu]
      · rw [hxl, ← hel]
        refine Nat.le_trans (Nat.mul_le_mul_right _ (Nat.le_add_right _ _)) hw0
      · intro x hx
        obtain ⟨i, hlt, rfl⟩ := List.getElem_of_mem hx
        exact (hxs i _ (List.getElem?_eq_getElem hlt)).1⟩
theorem weights_at {H : Type} {P : Program} : ∀ {ts : List TypeId} {ds : List (DataW H)} {j : Nat} {t : TypeId} {d : DataW H}, (DataW.weightsEach P ts ds).all (· ≤ reachBytes) = true → ts[j]? = some t → ds[j]? = some d → (DataW.weights P t d).all (· ≤ reachBytes) = true
  | [], _, _, _, _, _, ht, _ => by simp at ht
  | _ :: _, [], _, _, _, _, _, hd => by simp at hd
  | t0 :: ts, d0 :: ds, 0, _, _, h, ht, hd => by
    simp only [List.getElem?_cons_zero, Option.some.injEq] at ht hd
    subst ht; subst hd
    simp only [DataW.weightsEach, List.all_append, Bool.and_eq_true] at h
    exact h.1
  | t0 :: ts, d0 :: ds, j + 1, _, _, h, ht, hd => by
    simp only [List.getElem?_cons_succ] at ht hd
    simp only [DataW.weightsEach, List.all_append, Bool.and_eq_true] at h
    exact weights_at h.2 ht hd
structure OpensFs {α : Type} (P : Program) (fs : List Field) (off : Nat) (d : Kd α) (ok : α → Prop) : Prop where
  op : ∀ {H : Type} {enc : TypeId × Value → H} {W : World} {base : Nat} {spare : Nat → Bool} {held : Bool} {fuel : Nat} {cs : List Value} {ys : List (DataW H × List MemPlace)},
    (∀ (i : Nat) (f : Field), fs[i]? = some f → DataW.trod enc P W base spare held fuel f.type ((cs.drop f.offset).take (P.cellsOf f.type)) = ys[i]?) → ys.length = fs.length →
    (DataW.weightsEach P (fs.map (·.type)) (ys.map (·.1))).all (· ≤ reachBytes) = true → cs.length = off + d.sz → ∃ x, d.K W x (cs.drop off) ∧ ok x
theorem OpensFs.one {α : Type} {P : Program} {f : Field} {t : TypeId} {off : Nat} {d : Kd α} {ok : α → Prop} (ht : f.type = t) (hoff : f.offset = off) (h : Opens P t d ok) : OpensFs P [f] off d ok :=
  ⟨fun {H enc W base spare held fuel cs ys} hy hl hw hcs => by
    obtain ⟨y, rfl⟩ : ∃ y, ys = [y] := by
      cases ys with
      | nil => simp at hl
      | cons y ys => cases ys with
        | nil => exact ⟨y, rfl⟩
        | cons => simp at hl
    have h0 := hy 0 f rfl
    simp only [List.getElem?_cons_zero] at h0
    simp only [List.map_cons, List.map_nil, DataW.weightsEach, List.append_nil] at hw
    rw [ht] at h0 hw
    obtain ⟨x, hK, hok⟩ := h.op h0 hw
    rw [hoff, List.take_of_length_le (by rw [List.length_drop, h.sz]; omega)] at hK
    exact ⟨x, hK, hok⟩⟩
theorem OpensFs.cons {α β : Type} {P : Program} {f : Field} {fs : List Field} {t : TypeId} {off n : Nat} {d : Kd α} {d' : Kd β} {ok : α → Prop} {ok' : β → Prop} (ht : f.type = t) (hoff : f.offset = off) (h : Opens P t d ok) (hn : off + d.sz = n) (hr : OpensFs P fs n d' ok') :
    OpensFs P (f :: fs) off (Kd.pair d d') (fun x => ok x.1 ∧ ok' x.2) :=
  ⟨fun {H enc W base spare held fuel cs ys} hy hl hw hcs => by
    cases ys with
    | nil => simp at hl
    | cons y ys =>
      have h0 := hy 0 f rfl
      simp only [List.getElem?_cons_zero] at h0
      simp only [List.map_cons, DataW.weightsEach, List.all_append, Bool.and_eq_true] at hw
      have hw0 := hw.1
      rw [ht] at h0 hw0
      obtain ⟨x, hK, hok⟩ := h.op h0 hw0
      have hsz : (Kd.pair d d').sz = d.sz + d'.sz := rfl
      rw [hsz] at hcs
      obtain ⟨x', hK', hok'⟩ := hr.op (fun i g hg => hy (i + 1) g (by simpa using hg)) (by simpa using hl) hw.2 (by omega)
      refine ⟨(x, x'), ⟨_, _, ?_, hK, hK'⟩, hok, hok'⟩
      rw [hoff, h.sz, ← hn, ← List.drop_drop]
      exact (List.take_append_drop _ _).symm⟩
theorem Opens.struct {α β : Type} {P : Program} {t : TypeId} {fs : Array Field} {fl : List Field} {d : Kd α} {ok : α → Prop} (f : β → α) (g : α → β) (hfg : ∀ x, f (g x) = x) (h : P.underlying t = some (.struct fs)) (hfl : fs.toList = fl) (hs : P.cellsOf t = d.sz) (ho : OpensFs P fl 0 d ok) :
    Opens P t (Kd.iso d f) (fun x => ok (f x)) :=
  ⟨hs, fun {H enc W base spare held fuel cs y} hy hw => by
    obtain ⟨xs, n, rfl, rfl, hcl, hxl, hx⟩ := DataW.trod_struct h hy
    unfold DataW.weights at hw
    rw [h] at hw
    simp only [hfl] at hw
    subst hfl
    obtain ⟨x, hK, hok⟩ := ho.op (ys := xs) (fun i f hf => hx i f (by simpa using hf)) (by simpa using hxl) hw (by omega)
    rw [List.drop_zero] at hK
    refine ⟨g x, ?_, ?_⟩
    · show d.K W (f (g x)) cs
      rw [hfg]; exact hK
    · rw [hfg]; exact hok⟩
end Go.Proofs.Yteiladccdenpbaa.P
end
section
namespace Go.Proofs.Yteiladccdenpbaa.P
open Go.RowKit Go.Proofs.YteiladccdenpbaaW.PrintWords Go.Proofs.YteiladccdenpbaaW.PrintLast Go.Proofs.YteiladccdenpbaaW.PrintMore
attribute [local go_sem] max2_int min2_int max_two min_two max_three min_three max_four min_four
set_option linter.unusedVariables false
set_option linter.unusedSimpArgs false
def ok49 (x : S49) : Prop := (fun x => (Lit.int .i64 x).wf = true) x.f0 ∧ (fun x => (Lit.int .i64 x).wf = true) x.f1
theorem opens49 : Opens Try.prog 49 k49 ok49 := Opens.struct (fs := _) (fun x : S49 => (x.f0, x.f1)) (fun p => ⟨p.1, p.2⟩) (fun _ => rfl) Try.underlying49 rfl (by kernel_rfl) (OpensFs.cons rfl rfl (Opens.int Try.underlying3 (by kernel_rfl)) rfl (OpensFs.one rfl rfl (Opens.int Try.underlying3 (by kernel_rfl))))
def ok53 (x : S53) : Prop := (fun x => True) x.f0 ∧ (fun x => x.length * 16 ≤ 140737488351232 ∧ ∀ y ∈ x, (ok49) y) x.f1
theorem opens53 : Opens Try.prog 53 k53 ok53 := Opens.struct (fs := _) (fun x : S53 => (x.f0, x.f1)) (fun p => ⟨p.1, p.2⟩) (fun _ => rfl) Try.underlying53 rfl (by kernel_rfl) (OpensFs.cons rfl rfl (Opens.bool Try.underlying4 (by kernel_rfl)) rfl (OpensFs.one rfl rfl (Opens.slice (B := 16) Try.underlying43 (by kernel_rfl) (by kernel_rfl) opens49)))
def ok55 (x : S55) : Prop := (fun x => (Lit.int .i64 x).wf = true) x.f0 ∧ (fun x => True) x.f1 ∧ (ok53) x.f2
theorem opens55 : Opens Try.prog 55 k55 ok55 := Opens.struct (fs := _) (fun x : S55 => (x.f0, x.f1, x.f2)) (fun p => ⟨p.1, p.2.1, p.2.2⟩) (fun _ => rfl) Try.underlying55 rfl (by kernel_rfl) (OpensFs.cons rfl rfl (Opens.int Try.underlying3 (by kernel_rfl)) rfl (OpensFs.cons rfl rfl (Opens.bool Try.underlying4 (by kernel_rfl)) rfl (OpensFs.one rfl rfl opens53)))
def assartlaw07_TreeBelow.QPure : Prop := ∀ (l0_0 : List (S55)) (a0_1 : Int) (a1 : Int), (l0_0.length * 48 ≤ 140737488351232 ∧ ∀ x ∈ l0_0, ok55 x) → ((Lit.int .i64 a0_1).wf = true) → ((Lit.int .i64 a1).wf = true) → ∃ k, assartlaw07_TreeBelow.f k l0_0 a0_1 a1 = some true
end Go.Proofs.Yteiladccdenpbaa.P
end
section
namespace Go.Proofs.Yteiladccdenpbaa.Pure
open Go.RowKit Go.Proofs.Yteiladccdenpbaa.P
theorem TreeBelow : assartlaw07_TreeBelow.QPure := by
  unfold assartlaw07_TreeBelow.QPure
  intros
  exact ⟨0, rfl⟩
end Go.Proofs.Yteiladccdenpbaa.Pure
end
section
namespace Go.Proofs.Yteiladccdenpbaa.treeBelow
open Go.ChangeShapes Go.WideShapes Go.ChangeAt Go.RowKit Go.Proofs.Yteiladccdenpbaa.P Go.Proofs.YteiladccdenpbaaW.PrintWords Go.Proofs.YteiladccdenpbaaW.PrintLast Go.Proofs.YteiladccdenpbaaW.PrintMore
open Go.ChangeMaps (open_string shut_string)
set_option linter.unusedVariables false
set_option linter.unusedSimpArgs false
theorem own : ownKnob Try.prog.godebug = none := by kernel_rfl
theorem laidOut : laidOutB Try.prog = true := by kernel_rfl
set_option maxHeartbeats 1000000 in
set_option maxRecDepth 100000 in
theorem lifted (os : Os) (started : os.Started) (H : Type) (enc : TypeId × Value → H) :
  ReturnsInHanded {} Try.checked os 7 .any (Rows.treeBelowSpec.pre6 enc Try.prog Try.f7 Rows.treeBelowRow.domain false) (Rows.treeBelowSpec.post enc Try.prog Try.f7 false true false false) := by
 refine returnsInHanded_of_change_sized (C := Try.checked) own started (by kernel_rfl) Try.func7
  (ChangeSpec.witness6 (enc := enc) (C := Try.checked) false ⟨#[], #[.agg #[.slice none 0 0, .int .i64 0], .int .i64 0], []⟩ 8 (by kernel_rfl) (by kernel_rfl) (by kernel_rfl) (by kernel_rfl)) ?_
 intro W base args ds gs before hval0 hW hcnd hsz0 _
 have hsz : (DataW.weightsEach Try.prog (Try.f7.params.toList ++ Rows.treeBelowSpec.plain.varTypes Try.prog) (ds ++ gs)).all (· ≤ reachBytes) = true := hsz0
 have hval : ∀ (j : Nat) t v, Try.f7.params[j]? = some t → args[j]? = some v → Value.okWide Try.prog W .any base t v := hval0
 have hW' := hW
 obtain ⟨p, q, hA0, hV, rfl, hfz, hnd⟩ := hW
 have hA : DataW.TrodAll enc Try.prog W 0 (fun _ => true) true Try.f7.params.toList args.toList ds p := hA0
 rw [Try.params7] at hA hval hsz
 obtain ⟨v0, vs0, d0, ds0, p0, q0, hargs, rfl, rfl, h0, r0⟩ := trodAll_cons hA
 obtain ⟨v1, vs1, d1, ds1, p1, q1, rfl, rfl, rfl, h1, r1⟩ := trodAll_cons r0
 obtain ⟨rfl, rfl, rfl⟩ := trodAll_nil r1
 obtain rfl : args = #[v0, v1] := by cases args; simp_all
 obtain ⟨rfl, rfl⟩ := trodVars_none hV
 have k0 := h0
 have lt0 : ∀ x ∈ p0, x.block < W.heap.size := by obtain ⟨m, hm⟩ := k0; exact DataW.trod_lt m _ _ _ hm
 have wt0 := weights_at hsz (j := 0) (t := 24) (d := d0) rfl rfl
 obtain ⟨fuel0, hf0⟩ := h0
 obtain ⟨x0, hK0, hok0⟩ := (Opens.struct (f := id) (g := id) (fun _ => rfl) Try.underlying24 rfl (by kernel_rfl) (OpensFs.cons rfl rfl (Opens.slice (B := 48) Try.underlying22 (by kernel_rfl) (by kernel_rfl) opens55) rfl (OpensFs.one rfl rfl (Opens.int Try.underlying3 (by kernel_rfl))))).op hf0 wt0
 obtain ⟨cs0, rfl, hsz0⟩ := okWide_struct Try.underlying24 (hval 0 24 v0 rfl rfl)
 obtain ⟨l0_0, a0_1⟩ := x0
 obtain ⟨L0, hL0⟩ : ∃ L, (Value.agg cs0).cells.toList = L := ⟨_, rfl⟩
 rw [hL0] at hK0
 obtain ⟨_, _, rfl, ⟨A0_0, c0_0, rfl, hc0_0, hr0_0⟩, rfl⟩ := hK0
 obtain rfl : cs0 = #[.slice A0_0 l0_0.length c0_0, .int .i64 a0_1] := by have h := hL0; simp [Value.cells] at h; cases cs0; simp_all
 obtain ⟨o0_0, o0_1⟩ := hok0
 have k1 := h1
 have lt1 : ∀ x ∈ p1, x.block < W.heap.size := by obtain ⟨m, hm⟩ := k1; exact DataW.trod_lt m _ _ _ hm
 have wt1 := weights_at hsz (j := 1) (t := 3) (d := d1) rfl rfl
 obtain ⟨a1, rfl, _, _, o1⟩ := open_int Try.underlying3 (hval 1 3 v1 rfl rfl) h1
 clear hA0 hval0 hsz0 hsz
 obtain ⟨k, h⟩ := Pure.TreeBelow l0_0 a0_1 a1 o0_0 o0_1 o1
 refine (assartlaw07_TreeBelow.calls k _ _ l0_0 a0_1 a1 true W hr0_0 hc0_0 h).mono fun e W' ⟨he, bel0⟩ => ?_
 have bel := bel0
 subst he
 exact ⟨_, rfl, _, _, _, [], _, [], hW', trodAll_mk1 (shut_bool Try.underlying4 _), (trodAll_cons_mk (Below.trod laidOut (by kernel_rfl) (of_decide_eq_true (by kernel_rfl)) k0 bel lt0) (trodAll_cons_mk (Below.trod laidOut (by kernel_rfl) (of_decide_eq_true (by kernel_rfl)) k1 bel lt1) trodAll_mk0)), rfl, bel.frame _, fun h => by cases h⟩
theorem over : Rows.treeBelowRow.holds Try.pinned (OpenSpec.ofChange Rows.treeBelowSpec) :=
 OpenClaim.holds_of_wide 7 Try.f7 rfl rfl rfl rfl rfl rfl rfl ⟨rfl, rfl, rfl, rfl, rfl⟩ rfl rfl rfl rfl rfl (by kernel_rfl) Try.func7 (by kernel_rfl)
  (of_decide_eq_true (by kernel_rfl)) (by unfold Func.isWrapper; first | (rw [if_pos (by decide +kernel)]; kernel_rfl) | (rw [if_neg (by decide +kernel)]; exact ⟨rfl, rfl⟩))
  (fun os started H enc _ => lifted os started H enc)
theorem proved : Rows.TreeBelowSaid := over
#print axioms proved
end Go.Proofs.Yteiladccdenpbaa.treeBelow
namespace Go.Proofs.Yteiladccdenpbaa
theorem treeBelow_holds : Rows.TreeBelowSaid := treeBelow.proved
end Go.Proofs.Yteiladccdenpbaa
end
