/- Texts of this claim's proof put together: PMR2, F61, F25, E1, F26, HSame6, F11, PSame12, F9, F10, PNew, PMountC, F76, F43, F94, F77, F44, F119, F100, F114, F95, F117, F97, F98, F99, F78, F102, F80, F101, HPut, HDo2. -/
import Derived.Test.YtfmjepmgcdoelaaGreatKMountReads3
namespace Foot
end Foot
namespace Go.Proofs.YtfmjepmgcdoelaaGreat
end Go.Proofs.YtfmjepmgcdoelaaGreat
namespace Go.Proofs.YtfmjepmgcdoelaaGreat.P
end Go.Proofs.YtfmjepmgcdoelaaGreat.P
namespace Go.Proofs.YtfmjepmgcdoelaaGreat.mountReads
end Go.Proofs.YtfmjepmgcdoelaaGreat.mountReads
namespace Go.Proofs.YtfmjepmgcdoelaaGreatW.PrintLast
end Go.Proofs.YtfmjepmgcdoelaaGreatW.PrintLast
namespace Go.Proofs.YtfmjepmgcdoelaaGreatW.PrintMore
end Go.Proofs.YtfmjepmgcdoelaaGreatW.PrintMore
namespace Go.Proofs.YtfmjepmgcdoelaaGreatW.PrintWords
end Go.Proofs.YtfmjepmgcdoelaaGreatW.PrintWords
namespace Kd
end Kd
set_option linter.unusedVariables false
set_option linter.unusedSimpArgs false
set_option maxHeartbeats 8000000
set_option maxRecDepth 100000
namespace Go.Proofs.YtfmjepmgcdoelaaGreat.P
open Go.RowKit Go.Proofs.YtfmjepmgcdoelaaGreatW.PrintWords Go.Proofs.YtfmjepmgcdoelaaGreatW.PrintLast Go.Proofs.YtfmjepmgcdoelaaGreatW.PrintMore
theorem isVols_loop (l0 : List S65) (kp : Int) (vs : List S122) (ts : List (Nat × Nat)) (next gen : Int) (hv : vs.length < 1000) : ∀ (d k j : Nat) (x : Int), vs.length = j + d → d < k → ∃ r, mount_isVols.l0 k x vs (vs.length : Int) (j : Int) l0 kp vs ts next gen = some r ∧ (r = true → vs.length ≤ 20 ∧ 0 ≤ gen) := by
 intro d
 induction d with
 | zero =>
  intro k j x hj hk
  obtain ⟨k, rfl⟩ : ∃ k', k = k' + 1 := ⟨k - 1, by omega⟩
  rw [mount_isVols.l0, if_neg (by omega)]
  by_cases c1 : (vs.length : Int) ≤ 20
  case neg => rw [if_neg c1]; exact ⟨_, rfl, fun e => by cases e⟩
  rw [if_pos c1]
  by_cases c2 : next ≥ 1
  case neg => rw [if_neg c2]; exact ⟨_, rfl, fun e => by cases e⟩
  rw [if_pos c2]
  by_cases c3 : next ≤ 2147483647
  case neg => rw [if_neg c3]; exact ⟨_, rfl, fun e => by cases e⟩
  rw [if_pos c3]
  by_cases c4 : gen ≥ 0
  case neg => rw [if_neg c4]; exact ⟨_, rfl, fun e => by cases e⟩
  rw [if_pos c4]; exact ⟨_, rfl, fun _ => ⟨by omega, c4⟩⟩
 | succ d ih =>
  intro k j x hj hk
  obtain ⟨k, rfl⟩ : ∃ k', k = k' + 1 := ⟨k - 1, by omega⟩
  rw [mount_isVols.l0, if_pos (by omega), if_pos (by omega), if_pos (by omega)]
  split
  ·exact ⟨_, rfl, fun e => by cases e⟩
  ·split
   ·exact ⟨_, rfl, fun e => by cases e⟩
   ·rw [show wrap64 ((j : Int) + 1) = ((j + 1 : Nat) : Int) from by rw [w64 (by omega) (by omega)]; push_cast; rfl]
    exact ih k (j + 1) _ (by omega) (by omega)
theorem badP_root {l : List S65} {kp p : Int} (h : badP l kp p = some false) : p < 0 ∨ inB l.length p := by
 unfold badP at h
 obtain ⟨b, hb, hbn⟩ := Option.map_eq_some_iff.1 h
 have hb' : b = true := by cases b <;> simp_all
 subst hb'
 have key : ∀ K, tree_Right.f (K + 1) l kp p = some true → p < 0 ∨ inB l.length p := fun K h => by
  unfold tree_Right.f at h
  by_cases h1 : p = -1
  case pos => left; omega
  rw [if_neg h1] at h
  by_cases h2 : p < 0
  case pos => left; exact h2
  rw [if_neg h2] at h
  by_cases h3 : p ≥ (l.length : Int)
  case neg => right; exact ⟨by omega, by omega⟩
  rw [if_pos h3, tree_Right.j0, if_pos rfl] at h
  cases h
 exact key 99999 hb
theorem mright_tot (l : List S65) (kp : Int) (vs : List S122) (ts : List (Nat × Nat)) (next gen : Int) (h1 : 1 ≤ l.length) (h2 : l.length ≤ 2000) (h3 : ∀ x ∈ l, x.f2.f1.length < 1000000) (hv : vs.length < 1000) (ht : okTs ts = true) (hl : ts.length ≤ 500) :
  ∃ r, mount_Right.f l kp vs ts next gen = some r := by
 unfold mount_Right.f
 have kv : ∀ K, vs.length < K → ∃ r, mount_isVols.f K l kp vs ts next gen = some r ∧ (r = true → vs.length ≤ 20 ∧ 0 ≤ gen) := fun K hK => by
  unfold mount_isVols.f
  exact isVols_loop l kp vs ts next gen hv vs.length K 0 0 (by omega) hK
 obtain ⟨v, ev, hvr⟩ := kv 100000 (by omega)
 rw [ev]
 simp only [Option.bind_some]
 by_cases cv : v = true
 case neg => rw [if_neg cv]; exact ⟨_, rfl⟩
 rw [if_pos cv]
 have hv20 := (hvr cv).1
 unfold heap_Right.f
 rw [if_pos ⟨by omega, h3⟩]
 simp only [Option.bind_some]
 by_cases ch : rightB l kp = true
 case neg => rw [if_neg ch]; exact ⟨_, rfl⟩
 rw [if_pos ch]
 have H := HR_of_right ch
 unfold todo_Right.f
 rw [if_pos ⟨ht, by omega, by omega, by omega⟩]
 simp only [Option.bind_some]
 by_cases ct : rightC ts (l.length : Int) = true
 case neg => rw [if_neg ct]; exact ⟨_, rfl⟩
 rw [if_pos ct, if_pos ⟨by omega, by omega⟩]
 obtain ⟨rb, erb⟩ := anyO_tot (p := badP l kp) (l := rootsL vs) fun x _ => badP_tot H kp x
 rw [erb]
 simp only [Option.bind_some]
 by_cases cb : rb = true
 case pos => rw [if_pos cb]; exact ⟨_, rfl⟩
 rw [if_neg cb]
 obtain ⟨tb, etb⟩ := anyO_tot (p := badT l kp ts) (l := ts) fun t hm => badT_tot H kp ts ht (by omega) ct t hm
 rw [etb]
 simp only [Option.bind_some]
 by_cases cc : tb = true
 case pos => rw [if_pos cc]; exact ⟨_, rfl⟩
 rw [if_neg cc]
 refine sound_tot H h1 kp (rootsL vs) (by unfold rootsL; simp; omega) (fun x hx => ?_) ts ht hl (fun t hm => ?_)
 ·obtain ⟨e1, e2⟩ := anyO_mem erb
  have e3 := e2 x hx
  have e4 : (badP l kp x).getD false = false := by
   have : rb = false := by simpa using cb
   rw [this] at e1
   have := List.any_eq_false.1 e1.symm x hx
   simpa using this
  rw [e4] at e3
  exact badP_root e3
 ·have hok : okT t.1 = true ∧ okT t.2 = true := by
   unfold okTs at ht
   have := List.all_eq_true.1 ht t hm
   simpa using this
  have hp0 : 0 ≤ bk t.1 := by have := hok.1; unfold okT at this; simp only [Bool.and_eq_true, decide_eq_true_eq] at this; exact this.1.1
  unfold rightC at ct
  simp only [Bool.and_eq_true, decide_eq_true_eq, Bool.not_eq_true'] at ct
  have := List.any_eq_false.1 ct.2 t hm
  unfold oddC at this
  simp only [Bool.or_eq_true, Bool.not_eq_true', decide_eq_false_iff_not, not_or, Classical.not_not] at this
  exact ⟨hp0, this.1⟩
structure BookOk (refs : List Int) (vs : List S122) (ts : List (Nat × Nat)) : Prop where
 r1 : 1 ≤ refs.length
 r2 : refs.length ≤ 2000
 v : vs.length ≤ 20
 ok : okTs ts = true
 t : ts.length ≤ 500
theorem bookF_ok {b : List Int} (hb : bytesB b) {refs : List Int} {keep : Int} {vs : List S122} {ts : List (Nat × Nat)} {next : Int} (h : bookF b = some (refs, keep, vs, ts, next)) : BookOk refs vs ts := by
 unfold bookF at h
 by_cases c1 : 4 ≤ b.length
 case neg => rw [if_neg c1] at h; cases h
 rw [if_pos c1] at h
 by_cases c2 : 1 ≤ lev b 0 4 ∧ lev b 0 4 ≤ 2147483647
 case neg => rw [if_neg c2] at h; cases h
 rw [if_pos c2] at h
 obtain ⟨⟨l, i'⟩, hv, h⟩ := Option.bind_eq_some_iff.1 h
 obtain ⟨hi, hl⟩ := volsR_pos hv
 unfold bookT at h
 obtain ⟨ts', i2, er, e, hg⟩ := todo_total b hb i' (by omega)
 rw [e] at h
 simp only [Option.bind_some] at h
 by_cases c3 : er = 0
 case neg => rw [if_neg c3] at h; cases h
 rw [if_pos c3] at h
 obtain ⟨hi2, hok, htl⟩ := hg c3
 unfold bookC at h
 split at h
 ·split at h
  ·rename_i hh
   split at h
   ·split at h
    ·split at h
     ·split at h
      ·simp only [Option.some.injEq, Prod.mk.injEq] at h
       obtain ⟨rfl, rfl, rfl, rfl, rfl⟩ := h
       refine ⟨?_, ?_, hl, hok, htl⟩
       ·unfold refsF; rw [List.length_map, List.length_range]; omega
       ·unfold refsF; rw [List.length_map, List.length_range]; omega
      ·cases h
     ·cases h
    ·cases h
   ·cases h
  ·cases h
 ·cases h
theorem node_tot (s : ByteArray) : (node_Parse.f 100000 s).isSome = true ∧ ∀ b l e, node_Parse.f 100000 s = some (b, l, e) → l.length ≤ 4 := by
 have e := parseN_val s 100000 (by omega)
 rw [e]
 rcases parseN_cases s with h | ⟨leaf, it, hr, hb, h⟩
 ·rw [h]
  exact ⟨rfl, fun b l e h => by simp only [Option.some.injEq, Prod.mk.injEq] at h; obtain ⟨-, rfl, -⟩ := h; simp⟩
 ·rw [h]
  exact ⟨rfl, fun b l e h => by simp only [Option.some.injEq, Prod.mk.injEq] at h; obtain ⟨-, rfl, -⟩ := h; exact hr.2.1⟩
theorem cellsM_items (l0 : List ByteArray) (l1 : List S98) (refs : List Int) : ∀ x ∈ cellsM l0 l1 refs, x.f2.f1.length ≤ 4 := by
 intro x hx
 unfold cellsM at hx
 obtain ⟨i, hi, rfl⟩ := List.mem_map.1 hx
 by_cases h : rd refs (i : Nat) ≠ 0
 case neg => simp only [if_neg h]; simp
 simp only [if_pos h]
 unfold nodeN
 have := node_tot (readB l0 l1 ((baseN refs.length : Nat) + (i : Nat))).1
 obtain ⟨⟨b, l, e⟩, hv⟩ := Option.isSome_iff_exists.1 this.1
 rw [hv]
 exact this.2 b l e hv
structure MountOk (r : MountT) : Prop where
 ok : okTs r.2.2.2.1 = true
 tl : r.2.2.2.1.length ≤ 500
 vl : r.2.2.1.length ≤ 20
 cl : r.1.length ≤ 2000
 il : ∀ x ∈ r.1, x.f2.f1.length ≤ 4
 er : r.2.2.2.2.2.2 = 0 → mount_Right.f r.1 r.2.1 r.2.2.1 r.2.2.2.1 r.2.2.2.2.1 r.2.2.2.2.2.1 = some true
theorem badM_ok {e : Int} (h : e ≠ 0) : MountOk (badM e) := ⟨rfl, by simp [badM], by simp [badM], by simp [badM], by simp [badM], fun h' => absurd h' h⟩
abbrev MOk (gen : Int) (o : Option MountT) : Prop := ∃ r, o = some r ∧ MountOk r ∧ (r.2.2.2.2.2.2 = 0 → r.2.2.2.2.2.1 = gen)
theorem mok_bad (gen : Int) : MOk gen (some (badM 2)) := ⟨_, rfl, badM_ok (by decide), fun h => absurd h (by simp [badM])⟩
theorem mok_ite {gen : Int} {c : Prop} [Decidable c] {a : Option MountT} (h : c → MOk gen a) : MOk gen (if c then a else some (badM 2)) := by
 by_cases hc : c
 case pos => rw [if_pos hc]; exact h hc
 rw [if_neg hc]; exact mok_bad gen
theorem mountR_tot (l0 : List ByteArray) (l1 : List S98) (gen : Int) (refs : List Int) (keep : Int) (vs : List S122) (ts : List (Nat × Nat)) (next : Int) (hk : BookOk refs vs ts) :
  MOk gen ((mount_Right.f (cellsM l0 l1 refs) keep vs ts next gen).bind fun r => if r = true then some (cellsM l0 l1 refs, keep, vs, ts, next, gen, 0) else some (badM 2)) := by
 have hi := cellsM_items l0 l1 refs
 have hlen := cellsM_len l0 l1 refs
 generalize cellsM l0 l1 refs = cs at hi hlen
 obtain ⟨r, hr⟩ := mright_tot cs keep vs ts next gen (by rw [hlen]; exact hk.r1) (by rw [hlen]; exact hk.r2) (fun x hx => by have := hi x hx; omega) (by have := hk.v; omega) hk.ok hk.t
 rw [hr]
 simp only [Option.bind_some]
 refine mok_ite fun hr2 => ?_
 subst hr2
 exact ⟨_, rfl, ⟨hk.ok, hk.t, hk.v, by rw [hlen]; exact hk.r2, hi, fun _ => hr⟩, fun _ => rfl⟩
theorem idx_tot (l0 : List ByteArray) (l1 : List S98) (n : Nat) (is : List Nat) : is.all (fun i => (node_Parse.f 100000 (readB l0 l1 ((baseN n : Nat) + (i : Nat))).1).isSome) = true := List.all_eq_true.2 fun i _ => (node_tot _).1
theorem mountB_tot (l0 : List ByteArray) (l1 : List S98) (gen sum : Int) (n : Nat) (b : List Int) (hb : b.length ≤ 100000 ∧ ∀ x ∈ b, 0 ≤ x ∧ x < 256) : MOk gen (mountB l0 l1 gen sum n b) := by
 unfold mountB
 rw [if_pos hb]
 cases hf : bookF b with
 | none => simp only; exact mok_bad gen
 | some t =>
  obtain ⟨refs, keep, vs, ts, next⟩ := t
  have hk := bookF_ok hb hf
  simp only
  obtain ⟨q, hq⟩ : ∃ q, num_Sum.f b = some q := by unfold num_Sum.f; exact ⟨_, if_pos (by omega)⟩
  rw [hq]
  simp only [Option.bind_some]
  refine mok_ite fun _ => mok_ite fun _ => ?_
  rw [if_pos (idx_tot l0 l1 n _)]
  exact mountR_tot l0 l1 gen refs keep vs ts next hk
theorem mount_tot {bs : List ByteArray} {ws : List S98} (h : GoodD bs ws) : ∃ g s m e r, mount_Super.f 100000 bs ws = some (g, s, m, e) ∧ mount_Mount.f bs ws = some r ∧ MountOk r ∧ (r.2.2.2.2.2.2 = 0 → e = 0 ∧ r.2.2.2.2.2.1 = g) := by
 have hw := h.wfew
 have hf := h.few
 obtain ⟨g, s, m, e, hs, hsr⟩ := super_val bs ws (by omega)
 refine ⟨g, s, m, e, ?_⟩
 unfold mount_Mount.f
 rw [if_pos ⟨by omega, by omega⟩, hs]
 simp only [Option.bind_some]
 have bad : ∃ r, True ∧ some (badM 2) = some r ∧ MountOk r ∧ (r.2.2.2.2.2.2 = 0 → e = 0 ∧ r.2.2.2.2.2.1 = g) := ⟨_, trivial, rfl, badM_ok (by decide), fun h => absurd h (by simp [badM])⟩
 by_cases he : e = 0
 case neg =>
  rw [if_neg he]
  exact ⟨_, trivial, rfl, badM_ok he, fun h => absurd h (by simpa [badM] using he)⟩
 rw [if_pos he]
 by_cases hc : cellsN (bs.length : Int) = 0
 case pos => rw [if_pos hc]; exact bad
 rw [if_neg hc]
 by_cases hm : s > 1631 + 2 * (cellsN (bs.length : Int) : Int)
 case pos => rw [if_pos hm]; exact bad
 rw [if_neg hm]
 have hR := hsr he
 rw [if_pos (by have := hR.1; omega)]
 obtain ⟨b, hb, hb1, hb2⟩ := mtext_val h _ rfl hc g s (by exact hR.2.2.1) (by omega)
 rw [hb]
 simp only [Option.bind_some]
 obtain ⟨r, h1, h2, h3⟩ := mountB_tot bs ws g m (cellsN (bs.length : Int)) b ⟨hb1, hb2⟩
 exact ⟨r, trivial, h1, h2, fun h => ⟨he, h3 h⟩⟩
section
attribute [local go_sem] max2_int min2_int max_two min_two max_three min_three max_four min_four
def assartref04_Same.f (k : Nat) (a0_0 : Bool) (l0_1 : List (S84)) (a1_0 : Bool) (l1_1 : List (S84)) : Option (Bool) := if (a0_0 == a1_0) = true then ((assartref04_Items.f k l0_1 l1_1).bind fun aA => (some aA)) else (none)
theorem assartref04_Same.calls (k : Nat) (a0_0 : Bool) (A0_1 : Option Addr) (c0_1 : Nat) (l0_1 : List (S84)) (a1_0 : Bool) (A1_1 : Option Addr) (c1_1 : Nat) (l1_1 : List (S84)) (r : Bool) (w : World) (hr0_1 : Kd.C k84 w A0_1 l0_1.length l0_1) (hc0_1 : l0_1.length ≤ c0_1) (hr1_1 : Kd.C k84 w A1_1 l1_1.length l1_1) (hc1_1 : l1_1.length ≤ c1_1) (h : assartref04_Same.f k a0_0 l0_1 a1_0 l1_1 = some r) :
  Calls Tryz.prog 61 #[.agg #[.bool a0_0, .slice A0_1 l0_1.length c0_1], .agg #[.bool a1_0, .slice A1_1 l1_1.length c1_1]] w fun e w' => e = .returned (.bool r) ∧ Below w.heap.size w w' := by
 have hu63 := Tryz.underlying63
 have aE := Zk hr0_1
 have aF := Zk hc0_1
 clear hr0_1 hc0_1
 have aG := Zk hr1_1
 have aH := Zk hc1_1
 clear hr1_1 hc1_1
 have HB := Zk (Below.refl w.heap.size w)
 have H : (if (a0_0 == a1_0) = true then ((assartref04_Items.f k l0_1 l1_1).bind fun aD => (some aD)) else (none)) = some r := h
 clear h
 by_cases c3 : (a0_0 == a1_0) = true
 case neg => exact no_ c3 H
 rw [if_pos c3] at H
 have aV : (a0_0 == a1_0) = true := c3
 (try (have aW : decide (a0_0 = a1_0) = true := by simpa using c3))
 (try (have aX : (a0_0 == a1_0) = true := by simpa using c3))
 clear c3
 replace H := Option.bind_eq_some_iff.mp H
 obtain ⟨aD, A40, H⟩ := H
 (try dsimp only at H)
 have A4 := Zk A40
 clear A40
 obtain rfl := Option.some.inj H
 go_enter Tryz.func61, Tryz.ntmps61
 go_wp2_with (first | (refine gd_ 2 ?_; refine bx_ 2 #[.bool a0_0, .slice A0_1 l0_1.length c0_1] 63 ?_; intro aR hg w5 hbox hb; have aA := Zk (hbox); have aS := gw_ HB hg; replace HB := al_ HB hb; clear hb hbox hg) | (refine gd_ 3 ?_; refine bx_ 3 #[.bool a1_0, .slice A1_1 l1_1.length c1_1] 63 ?_; intro aT hg w6 hbox hb; have aI := Zk (hbox); have aU := gw_ HB hg; replace HB := al_ HB hb; have aB := n1_ aA hg; have aC := n2_ aA hg; replace aA := ab_ aA hb; clear hb hbox hg; obtain ⟨aY, aZ⟩ := nn_ aB aC; obtain ⟨aJ, aK, aL, aM⟩ := cf2_ aA; obtain ⟨aN, aO, aP, aQ⟩ := cf2_ aI) | (go_at_call 88; (with_reducible refine (assartref04_Items.calls k _ _ l0_1 _ _ l1_1 aD _ (cb_ aE HB) aF.out (cb_ aG HB) aH.out A4.out).mono ?_); rintro e w' ⟨rfl, ⟨nd, rfl⟩⟩))
 go_ret
 exact ⟨e_, bl_ HB⟩
end
section
attribute [local go_sem] max2_int min2_int max_two min_two max_three min_three max_four min_four
mutual
def assartref05_Same.j0 : Nat → Bool → List (S65) → Int → List (S65) → Int → Option (Bool)
 | 0, _, _, _, _, _ => none
 | k + 1, x20, aA, aC, aB, aD => if x20 = true then (none) else (assartref05_Same.l0 k 0 aA aC aB aD)
def assartref05_Same.l0 : Nat → Int → List (S65) → Int → List (S65) → Int → Option (Bool)
 | 0, _, _, _, _, _ => none
 | k + 1, x5, aA, aC, aB, aD => if x5 < (aA.length : Int) then (if 0 ≤ x5 then (if x5 < (aB.length : Int) then ((assartref04_Same.f k ((rd_T65 aA x5).f2.f0) ((rd_T65 aA x5).f2.f1) ((rd_T65 aB x5).f2.f0) ((rd_T65 aB x5).f2.f1)).bind fun aE => (if aE = true then (if ((rd_T65 aA x5).f0) = ((rd_T65 aB x5).f0) then (if (((rd_T65 aA x5).f1) != ((rd_T65 aB x5).f1)) = true then (none) else (assartref05_Same.l0 k (wrap64 (x5 + 1)) aA aC aB aD)) else (none)) else (none))) else (none)) else (none)) else (some true)
end
def assartref05_Same.f (k : Nat) (l0_0 : List (S65)) (a0_1 : Int) (l1_0 : List (S65)) (a1_1 : Int) : Option (Bool) := if a0_1 = a1_1 then (assartref05_Same.j0 k ((l0_0.length : Int) != (l1_0.length : Int)) l0_0 a0_1 l1_0 a1_1) else (assartref05_Same.j0 k true l0_0 a0_1 l1_0 a1_1)
def assartref05_Same.T6 : Bool × List (List Nat × List Nat) := (true, [([], []), ([0], [0]), ([], []), ([1, 2], [1, 2]), ([3], [3]), ([4], [4]), ([], []), ([6], [6]), ([], []), ([7, 8], [7, 8]), ([9], [9]), ([10], [10]), ([5, 11], [5, 11]), ([12, 12, 0, 1, 2, 3, 4, 5, 6, 7, 8, 9, 10, 11, 12], [12])])
def assartref05_Same.B6 : List Nat := [0, 1, 0, 7, 15, 31, 0, 64, 0, 448, 960, 1984, 4095, 8191]
theorem assartref05_Same.tab6 : rtab .any (opsOf Tryz.f25 6) = assartref05_Same.T6 := by kernel_rfl
theorem assartref05_Same.bits6 : waitsOk assartref05_Same.T6.2 assartref05_Same.B6 = true := by kernel_rfl
def assartref05_Same.T7 : Bool × List (List Nat × List Nat) := (true, [([], []), ([0], [0]), ([1], [1]), ([2], [2]), ([3, 2], [2, 3]), ([2], [2]), ([4, 5, 2], [2, 4, 5]), ([6, 2], [2, 6]), ([7, 2], [2, 7]), ([2], [2]), ([9, 2], [2, 9]), ([2], [2]), ([10, 11, 2], [2, 10, 11]), ([12, 2], [2, 12]), ([13, 2], [2, 13]), ([8, 14, 2], [2, 8, 14]), ([2, 15], [2, 15]), ([16, 2], [16]), ([17], [17]), ([18, 17], [17, 18]), ([17], [17]), ([19, 20, 17], [17, 19, 20]), ([21, 17], [17, 21]), ([22, 17], [17, 22]), ([17], [17]), ([24, 17], [17, 24]), ([17], [17]), ([25, 26, 17], [17, 25, 26]), ([27, 17], [17, 27]), ([28, 17], [17, 28]), ([23, 29, 17], [17, 23, 29]), ([17, 30], [17, 30])])
def assartref05_Same.B7 : List Nat := [0, 1, 3, 7, 15, 7, 63, 127, 255, 7, 519, 7, 3591, 7687, 15879, 32767, 65535, 131071, 262143, 524287, 262143, 2097151, 4194303, 8388607, 262143, 17039359, 262143, 117702655, 251920383, 520355839, 1073741823, 2147483647]
theorem assartref05_Same.tab7 : rtab .any (opsOf Tryz.f25 7) = assartref05_Same.T7 := by kernel_rfl
theorem assartref05_Same.bits7 : waitsOk assartref05_Same.T7.2 assartref05_Same.B7 = true := by kernel_rfl
theorem assartref05_Same.calls (k : Nat) (A0_0 : Option Addr) (c0_0 : Nat) (l0_0 : List (S65)) (a0_1 : Int) (A1_0 : Option Addr) (c1_0 : Nat) (l1_0 : List (S65)) (a1_1 : Int) (r : Bool) (w : World) (hr0_0 : Kd.C k65 w A0_0 l0_0.length l0_0) (hc0_0 : l0_0.length ≤ c0_0) (hr1_0 : Kd.C k65 w A1_0 l1_0.length l1_0) (hc1_0 : l1_0.length ≤ c1_0) (h : assartref05_Same.f k l0_0 a0_1 l1_0 a1_1 = some r) :
  Calls Tryz.prog 25 #[.agg #[.slice A0_0 l0_0.length c0_0, .int .i64 a0_1], .agg #[.slice A1_0 l1_0.length c1_0, .int .i64 a1_1]] w fun e w' => e = .returned (.bool r) ∧ Below w.heap.size w w' := by
 have hu30 := Tryz.underlying30
 have hu63 := Tryz.underlying63
 have bT := Zk hr0_0
 have fH := Zk hc0_0
 clear hr0_0 hc0_0
 have bU := Zk hr1_0
 have fI := Zk hc1_0
 clear hr1_0 hc1_0
 have HB := Zk (Below.refl w.heap.size w)
 have H : (if a0_1 = a1_1 then (assartref05_Same.j0 k ((l0_0.length : Int) != (l1_0.length : Int)) l0_0 a0_1 l1_0 a1_1) else (assartref05_Same.j0 k true l0_0 a0_1 l1_0 a1_1)) = some r := h
 clear h
 have HC3 := Zk H
 clear H
 go_enter Tryz.func25, Tryz.ntmps25
 go_upto_region 1 with (first | (refine gd_ 2 ?_; (try (refine gate_guard (by rfl) ?_; dsimp only)); refine bx_ 2 #[.slice A0_0 l0_0.length c0_0, .int .i64 a0_1] 30 ?_; intro bF hg w4 hbox hb; have aB := Zk (hbox); have fJ := gw_ HB hg; replace HB := al_ HB hb; clear hb hbox hg) | (refine gd_ 3 ?_; (try (refine gate_guard (by rfl) ?_; dsimp only)); refine bx_ 3 #[.slice A1_0 l1_0.length c1_0, .int .i64 a1_1] 30 ?_; intro bG hg w5 hbox hb; have aE := Zk (hbox); have fK := gw_ HB hg; replace HB := al_ HB hb; have aF := n1_ aB hg; have aG := n2_ aB hg; replace aB := ab_ aB hb; clear hb hbox hg))
 (try simp only [Act.put, List.setIfInBounds_toArray, List.set_cons_zero, List.set_cons_succ])
 go_cut [20] (fun v20 wc => ∃ (kq : Nat) (bI : Bool), v20 = .bool bI ∧ Aside0 (assartref05_Same.j0 kq bI l0_0 a0_1 l1_0 a1_1 = some r) ∧ Aside0 (kq ≤ k) ∧ Aside0 (wc.heap[bF]? = some (.cells #[(.slice A0_0 l0_0.length c0_0), .int .i64 a0_1] 30 (0, 0))) ∧ Aside0 (wc.heap[bG]? = some (.cells #[(.slice A1_0 l1_0.length c1_0), .int .i64 a1_1] 30 (0, 0))) ∧ Aside0 (Below w.heap.size w wc))
 case first =>
  have H := HC3.out
  clear HC3
  by_cases c6 : a0_1 = a1_1
  case neg =>
   rw [if_neg c6] at H
   have bH := beq_eq_false_iff_ne.mpr c6
   have cZ := bne_iff_ne.mpr c6
   (first | rw [bH] | (simp only [i64_w, i32_w]; rw [bH]) | skip)
   have H' := Zk H
   clear H
   obtain ⟨fL, fM⟩ := nn_ aF aG
   obtain ⟨dU, dV, dW, dX⟩ := cf2_ aB
   obtain ⟨dY, dZ, eA, eB⟩ := cf2_ aE
   go_wp2
   go_meet
   case rel => exact ⟨_, (true), q_, H', ⟨by first | omega | exact Nat.le_refl _⟩, ⟨bk_ aB⟩, ⟨bk_ aE⟩, ⟨bl_ HB⟩⟩
  rw [if_pos c6] at H
  have bH := beq_iff_eq.mpr c6
  have cZ := bne_eq_false_iff_eq.mpr c6
  clear c6
  (first | rw [bH] | (simp only [i64_w, i32_w]; rw [bH]) | skip)
  have H' := Zk H
  clear H
  obtain ⟨fW, fX⟩ := nn_ aF aG
  obtain ⟨eO, eP, eQ, eR⟩ := cf2_ aB
  obtain ⟨eS, eT, eU, eV⟩ := cf2_ aE
  go_wp2
  go_meet
  case rel => exact ⟨_, (((l0_0.length : Int) != (l1_0.length : Int))), q_, H', ⟨by first | omega | exact Nat.le_refl _⟩, ⟨bk_ aB⟩, ⟨bk_ aE⟩, ⟨bl_ HB⟩⟩
 case rest =>
  clear HC3
  try clear bH
  try clear cZ
  obtain ⟨kq, bI, rfl, HA, HJ2, aB, aE, HB⟩ := hcut
  cases kq with
  | zero => exact absurd HA.out (by simp [assartref05_Same.j0])
  | succ kj2 =>
   have H := HA.out
   clear HA
   simp only [assartref05_Same.j0] at H
   by_cases c13 : bI = true
   case pos =>
    subst c13
    rw [if_pos rfl] at H
    exact absurd H (by simp)
   replace c13 := Bool.eq_false_iff.mpr c13
   subst c13
   rw [if_neg (show ¬ (false = true) by decide)] at H
   have H' := Zk H
   clear H
   go_wp2
   go_loopg [5] kj2 (fun kq v5 w' => ∃ (aA : Int), v5 = .int .i64 aA ∧ Aside0 (assartref05_Same.l0 kq aA l0_0 a0_1 l1_0 a1_1 = some r) ∧ Aside0 (kq ≤ kj2) ∧ Aside0 (w'.heap[bF]? = some (.cells #[(.slice A0_0 l0_0.length c0_0), .int .i64 a0_1] 30 (0, 0))) ∧ Aside0 (w'.heap[bG]? = some (.cells #[(.slice A1_0 l1_0.length c1_0), .int .i64 a1_1] 30 (0, 0))) ∧ Aside0 (Below w.heap.size w w'))
   case atStart => exact ⟨(0), q_, H', ⟨Nat.le_refl _⟩, ⟨bk_ aB⟩, ⟨bk_ aE⟩, ⟨bl_ HB⟩⟩
   case round =>
    clear H'
    try clear bH
    try clear cZ
    obtain ⟨aA, rfl, HA, HK2, aB, aE, HB⟩ := hrel
    cases gk with
    | zero => exact absurd HA.out (by simp [assartref05_Same.l0])
    | succ k2 =>
     have H := HA.out
     clear HA
     simp only [assartref05_Same.l0] at H
     by_cases c14 : aA < (l0_0.length : Int)
     case neg =>
      rw [if_neg c14] at H
      have dM : decide (aA < (l0_0.length : Int)) = false := decide_eq_false c14
      clear c14
      obtain rfl := Option.some.inj H
      obtain ⟨fN, fO⟩ := nn_ aF aG
      obtain ⟨eC, eD, eE, eF⟩ := cf2_ aB
      go_wp2
      go_ret
      exact ⟨e_, bl_ HB⟩
     rw [if_pos c14] at H
     have dM := decide_eq_true c14
     clear c14
     by_cases c15 : 0 ≤ aA
     case neg => exact no_ c15 H
     rw [if_pos c15] at H
     have fP := decide_eq_true c15
     clear c15
     by_cases c16 : aA < (l1_0.length : Int)
     case neg => exact no_ c16 H
     rw [if_pos c16] at H
     have fQ := decide_eq_true c16
     clear c16
     replace H := Option.bind_eq_some_iff.mp H
     obtain ⟨eW, dN, H⟩ := H
     (try dsimp only at H)
     have A17 := Zk dN
     clear dN
     by_cases c18 : eW = true
     case neg =>
      replace c18 := Bool.eq_false_iff.mpr c18
      subst c18
      rw [if_neg (show ¬ (false = true) by decide)] at H
      exact absurd H (by simp)
     subst c18
     rw [if_pos rfl] at H
     by_cases c19 : ((rd_T65 l0_0 aA).f0) = ((rd_T65 l1_0 aA).f0)
     case neg =>
      rw [if_neg c19] at H
      have dO : (((rd_T65 l0_0 aA).f0) == ((rd_T65 l1_0 aA).f0)) = false := beq_eq_false_iff_ne.mpr c19
      have dP : (((rd_T65 l0_0 aA).f0) != ((rd_T65 l1_0 aA).f0)) = true := bne_iff_ne.mpr c19
      exact absurd H (by simp)
     rw [if_pos c19] at H
     have dO := beq_iff_eq.mpr c19
     have dP := bne_eq_false_iff_eq.mpr c19
     clear c19
     by_cases c20 : (((rd_T65 l0_0 aA).f1) != ((rd_T65 l1_0 aA).f1)) = true
     case pos =>
      rw [if_pos c20] at H
      exact absurd H (by simp)
     rw [if_neg c20] at H
     have fR : (((rd_T65 l0_0 aA).f1) != ((rd_T65 l1_0 aA).f1)) = false := by simpa using c20
     (try (have fS : decide (((rd_T65 l0_0 aA).f1) = ((rd_T65 l1_0 aA).f1)) = true := by simpa using c20))
     (try (have fT : (((rd_T65 l0_0 aA).f1) == ((rd_T65 l1_0 aA).f1)) = true := by simpa using c20))
     clear c20
     have H' := Zk H
     clear H
     obtain ⟨fU, fV⟩ := nn_ aF aG
     obtain ⟨eG, eH, eI, eJ⟩ := cf2_ aB
     try go_wp2
     replace aB := Zk (blk_drew aB.out)
     replace aE := Zk (blk_drew aE.out)
     replace HB := Zk (below_drew1 HB.out)
     have dA : 0 ≤ (aA : Int) := of_decide_eq_true as_
     have dB : aA < (l0_0.length : Int) := of_decide_eq_true as_
     obtain ⟨aC, bV, bW, eX, aL, aM, aN, aO, hl231_3, hi231_3⟩ := at_T65 bT.out aA dA dB
     have bJ := aO
     have bK := aN
     have bL := aM
     have bM := aL
     cases eX
     replace aL := hx_ HB aL
     replace aM := hx_ HB aM
     replace aN := hx_ HB aN
     replace aO := hx_ HB aO
     have bN := Zk hi231_3
     have cD := Zk hl231_3
     clear hi231_3 hl231_3
     replace dA := eq_true dA
     replace dB := eq_true dB
     have dC : 0 ≤ (aA : Int) := of_decide_eq_true as_
     have dD : aA < (l1_0.length : Int) := of_decide_eq_true as_
     obtain ⟨aD, bX, bY, eY, aP, aQ, aR, aS, hl232_3, hi232_3⟩ := at_T65 bU.out aA dC dD
     have bO := aS
     have bP := aR
     have bQ := aQ
     have bR := aP
     cases eY
     replace aP := hx_ HB aP
     replace aQ := hx_ HB aQ
     replace aR := hx_ HB aR
     replace aS := hx_ HB aS
     have bS := Zk hi232_3
     have cE := Zk hl232_3
     clear hi232_3 hl232_3
     replace dC := eq_true dC
     replace dD := eq_true dD
     refine start_ (n := 14) (S := fun w' => w'.cell? ⟨bF, 0, none⟩ = some (.slice (some aC) l0_0.length c0_0) ∧ w'.cell? ⟨bF, 1, none⟩ = some (.int .i64 a0_1) ∧ w'.cell? ⟨bG, 0, none⟩ = some (.slice (some aD) l1_0.length c1_0) ∧ w'.cell? ⟨bG, 1, none⟩ = some (.int .i64 a1_1) ∧ w'.cell? (aC.add ((aA).toNat * 4)) = some (.int .i64 ((rd_T65 l0_0 aA).f0)) ∧ w'.cell? ⟨(aC.add ((aA).toNat * 4)).block, (aC.add ((aA).toNat * 4)).off + 1, none⟩ = some (.bool ((rd_T65 l0_0 aA).f1)) ∧ w'.cell? ⟨(aC.add ((aA).toNat * 4)).block, (aC.add ((aA).toNat * 4)).off + 2, none⟩ = some (.bool ((rd_T65 l0_0 aA).f2.f0)) ∧ w'.cell? ⟨(aC.add ((aA).toNat * 4)).block, (aC.add ((aA).toNat * 4)).off + 3, none⟩ = some (.slice bV ((rd_T65 l0_0 aA).f2.f1).length bW) ∧ w'.cell? (aD.add ((aA).toNat * 4)) = some (.int .i64 ((rd_T65 l1_0 aA).f0)) ∧ w'.cell? ⟨(aD.add ((aA).toNat * 4)).block, (aD.add ((aA).toNat * 4)).off + 1, none⟩ = some (.bool ((rd_T65 l1_0 aA).f1)) ∧ w'.cell? ⟨(aD.add ((aA).toNat * 4)).block, (aD.add ((aA).toNat * 4)).off + 2, none⟩ = some (.bool ((rd_T65 l1_0 aA).f2.f0)) ∧ w'.cell? ⟨(aD.add ((aA).toNat * 4)).block, (aD.add ((aA).toNat * 4)).off + 3, none⟩ = some (.slice bX ((rd_T65 l1_0 aA).f2.f1).length bY)) (ds := []) #[false, false, false, false, false, false, false, false, false, false, false, false, false, false] (by kernel_rfl) rfl rfl ⟨(blk_cell aB.out 0).trans rfl, (blk_cell aB.out 1).trans rfl, (blk_cell aE.out 0).trans rfl, (blk_cell aE.out 1).trans rfl, (hx_ HB bM), (hx_ HB bL), (hx_ HB bK), (hx_ HB bJ), (hx_ HB bR), (hx_ HB bQ), (hx_ HB bP), (hx_ HB bO)⟩ (fun hHeld => ?_); refine with_tabW assartref05_Same.tab6 assartref05_Same.bits6 (fun HT_ HW_ => ?_)
     generalize wr.drew = w23 at aB aE HB bN bS aL aM aN aO aP aQ aR aS hHeld ⊢
     refine pu_ 0 28 ?_
     refine pu_ 2 30 ?_
     refine pu_ 6 34 ?_
     refine pu_ 8 36 ?_
     refine tk_ 1 29 ?_
     refine pu_ 3 31 ?_
     refine pu_ 4 32 ?_
     refine tk_ 5 33 ?_
     refine tk_ 7 35 ?_
     refine pu_ 9 37 ?_
     refine pu_ 10 38 ?_
     refine tk_ 11 39 ?_
     refine one_ (i := 12) (N := some 40) #[true, true, true, true, true, true, true, true, true, true, true, true, true, false] rfl rfl (one_of HT_.out (by kernel_rfl)) (by decide) (fun K hK => ?_)
     refine goes_ Tryz.func61 (by kernel_rfl) rfl #[.agg #[.bool ((rd_T65 l0_0 aA).f2.f0), .slice bV ((rd_T65 l0_0 aA).f2.f1).length bW], .agg #[.bool ((rd_T65 l1_0 aA).f2.f0), .slice bX ((rd_T65 l1_0 aA).f2.f1).length bY]] (by rfl) rfl rfl (by (try simp only [List.map_toArray, List.map_cons, List.map_nil]); first | done | rfl | (simp only [List.length_drop, List.length_take]; rfl)) ?_
     with_reducible refine (assartref04_Same.calls k2 ((rd_T65 l0_0 aA).f2.f0) _ _ ((rd_T65 l0_0 aA).f2.f1) ((rd_T65 l1_0 aA).f2.f0) _ _ ((rd_T65 l1_0 aA).f2.f1) true _ ?side1 ?side2 ?side3 ?side4 A17.out).mono ?_
     (case side1 => repeat (first | exact (Kd.C_below bN.out HB.out) | (with_reducible refine Kd.C_alloc ?_ _) | (with_reducible refine Kd.C_drewN ?_ _) | (with_reducible refine Kd.C_drew ?_)))
     (case side2 => exact cD.out)
     (case side3 => repeat (first | exact (Kd.C_below bS.out HB.out) | (with_reducible refine Kd.C_alloc ?_ _) | (with_reducible refine Kd.C_drewN ?_ _) | (with_reducible refine Kd.C_drew ?_)))
     (case side4 => exact cE.out)
     rintro e w24 ⟨rfl, hb⟩
     refine ⟨_, rfl, ?_⟩
     replace aB := ab_ aB hb
     replace aE := ab_ aE hb
     replace HB := al_ HB hb
     (try clear hb)
     (try clear hb2)
     (try clear hk)
     (try clear hi)
     refine hK.out _ _ ⟨(blk_cell aB.out 0).trans rfl, (blk_cell aB.out 1).trans rfl, (blk_cell aE.out 0).trans rfl, (blk_cell aE.out 1).trans rfl, (hx_ HB bM), (hx_ HB bL), (hx_ HB bK), (hx_ HB bJ), (hx_ HB bR), (hx_ HB bQ), (hx_ HB bP), (hx_ HB bO)⟩ (fun hHeld => ?_)
     clear hK K
     refine norm_ (a' := ?_) ?_ ?_
     rotate_left
     ·show Act.put _ (some 40) _ = _
      simp only [Act.put, List.setIfInBounds_toArray, List.set_cons_zero, List.set_cons_succ, i64_w, i32_w]
      rfl
     refine pu_ 13 6 ?_
     refine done_ (done_of HT_.out (by kernel_rfl)) ?_
     try go_wp2
     replace aB := Zk (blk_drew aB.out)
     replace aE := Zk (blk_drew aE.out)
     replace HB := Zk (below_drew1 HB.out)
     have dE : 0 ≤ (aA : Int) := of_decide_eq_true as_
     have dF : aA < (l0_0.length : Int) := of_decide_eq_true as_
     obtain ⟨dQ, bZ, cA, eZ, aT, aU, aV, aH, hl234_3, hi234_3⟩ := at_T65 bT.out aA dE dF
     have cF := aH
     have cG := aV
     have cH := aU
     have cI := aT
     obtain rfl : aC = dQ := (by injection eZ)
     replace aT := hx_ HB aT
     replace aU := hx_ HB aU
     replace aV := hx_ HB aV
     replace aH := hx_ HB aH
     have cJ := Zk hi234_3
     have eK := Zk hl234_3
     clear hi234_3 hl234_3
     replace dE := eq_true dE
     replace dF := eq_true dF
     have dG : 0 ≤ (aA : Int) := of_decide_eq_true as_
     have dH : aA < (l1_0.length : Int) := of_decide_eq_true as_
     obtain ⟨dR, cB, cC, fA, aW, aX, aY, aI, hl235_3, hi235_3⟩ := at_T65 bU.out aA dG dH
     have cK := aI
     have cL := aY
     have cM := aX
     have cN := aW
     obtain rfl : aD = dR := (by injection fA)
     replace aW := hx_ HB aW
     replace aX := hx_ HB aX
     replace aY := hx_ HB aY
     replace aI := hx_ HB aI
     have cO := Zk hi235_3
     have eL := Zk hl235_3
     clear hi235_3 hl235_3
     replace dG := eq_true dG
     replace dH := eq_true dH
     have dI : 0 ≤ (aA : Int) := of_decide_eq_true as_
     have dJ : aA < (l0_0.length : Int) := of_decide_eq_true as_
     obtain ⟨dS, fB, fC, fD, aZ, bA, bB, aJ, hl236_3, hi236_3⟩ := at_T65 bT.out aA dI dJ
     have cP := aJ
     have cQ := bB
     have cR := bA
     have cS := aZ
     obtain rfl : aC = dS := (by injection fD)
     replace aZ := hx_ HB aZ
     replace bA := hx_ HB bA
     replace bB := hx_ HB bB
     replace aJ := hx_ HB aJ
     have cT := Zk hi236_3
     have eM := Zk hl236_3
     clear hi236_3 hl236_3
     replace dI := eq_true dI
     replace dJ := eq_true dJ
     have ea_ := Option.some.inj (aH.symm.trans aJ)
     injection ea_ with ea_ en_ ec_
     subst ea_
     subst ec_
     clear en_
     have dK : 0 ≤ (aA : Int) := of_decide_eq_true as_
     have dL : aA < (l1_0.length : Int) := of_decide_eq_true as_
     obtain ⟨dT, fE, fF, fG, bC, bD, bE, aK, hl237_3, hi237_3⟩ := at_T65 bU.out aA dK dL
     have cU := aK
     have cV := bE
     have cW := bD
     have cX := bC
     obtain rfl : aD = dT := (by injection fG)
     replace bC := hx_ HB bC
     replace bD := hx_ HB bD
     replace bE := hx_ HB bE
     replace aK := hx_ HB aK
     have cY := Zk hi237_3
     have eN := Zk hl237_3
     clear hi237_3 hl237_3
     replace dK := eq_true dK
     replace dL := eq_true dL
     have ea_ := Option.some.inj (aI.symm.trans aK)
     injection ea_ with ea_ en_ ec_
     subst ea_
     subst ec_
     clear en_
     refine start_ (n := 32) (S := fun w' => w'.cell? ⟨bF, 0, none⟩ = some (.slice (some aC) l0_0.length c0_0) ∧ w'.cell? ⟨bF, 1, none⟩ = some (.int .i64 a0_1) ∧ w'.cell? ⟨bG, 0, none⟩ = some (.slice (some aD) l1_0.length c1_0) ∧ w'.cell? ⟨bG, 1, none⟩ = some (.int .i64 a1_1) ∧ w'.cell? (aC.add ((aA).toNat * 4)) = some (.int .i64 ((rd_T65 l0_0 aA).f0)) ∧ w'.cell? ⟨(aC.add ((aA).toNat * 4)).block, (aC.add ((aA).toNat * 4)).off + 1, none⟩ = some (.bool ((rd_T65 l0_0 aA).f1)) ∧ w'.cell? ⟨(aC.add ((aA).toNat * 4)).block, (aC.add ((aA).toNat * 4)).off + 2, none⟩ = some (.bool ((rd_T65 l0_0 aA).f2.f0)) ∧ w'.cell? ⟨(aC.add ((aA).toNat * 4)).block, (aC.add ((aA).toNat * 4)).off + 3, none⟩ = some (.slice bZ ((rd_T65 l0_0 aA).f2.f1).length cA) ∧ w'.cell? (aD.add ((aA).toNat * 4)) = some (.int .i64 ((rd_T65 l1_0 aA).f0)) ∧ w'.cell? ⟨(aD.add ((aA).toNat * 4)).block, (aD.add ((aA).toNat * 4)).off + 1, none⟩ = some (.bool ((rd_T65 l1_0 aA).f1)) ∧ w'.cell? ⟨(aD.add ((aA).toNat * 4)).block, (aD.add ((aA).toNat * 4)).off + 2, none⟩ = some (.bool ((rd_T65 l1_0 aA).f2.f0)) ∧ w'.cell? ⟨(aD.add ((aA).toNat * 4)).block, (aD.add ((aA).toNat * 4)).off + 3, none⟩ = some (.slice cB ((rd_T65 l1_0 aA).f2.f1).length cC) ∧ w'.cell? (aC.add ((aA).toNat * 4)) = some (.int .i64 ((rd_T65 l0_0 aA).f0)) ∧ w'.cell? ⟨(aC.add ((aA).toNat * 4)).block, (aC.add ((aA).toNat * 4)).off + 1, none⟩ = some (.bool ((rd_T65 l0_0 aA).f1)) ∧ w'.cell? ⟨(aC.add ((aA).toNat * 4)).block, (aC.add ((aA).toNat * 4)).off + 2, none⟩ = some (.bool ((rd_T65 l0_0 aA).f2.f0)) ∧ w'.cell? ⟨(aC.add ((aA).toNat * 4)).block, (aC.add ((aA).toNat * 4)).off + 3, none⟩ = some (.slice bZ ((rd_T65 l0_0 aA).f2.f1).length cA) ∧ w'.cell? (aD.add ((aA).toNat * 4)) = some (.int .i64 ((rd_T65 l1_0 aA).f0)) ∧ w'.cell? ⟨(aD.add ((aA).toNat * 4)).block, (aD.add ((aA).toNat * 4)).off + 1, none⟩ = some (.bool ((rd_T65 l1_0 aA).f1)) ∧ w'.cell? ⟨(aD.add ((aA).toNat * 4)).block, (aD.add ((aA).toNat * 4)).off + 2, none⟩ = some (.bool ((rd_T65 l1_0 aA).f2.f0)) ∧ w'.cell? ⟨(aD.add ((aA).toNat * 4)).block, (aD.add ((aA).toNat * 4)).off + 3, none⟩ = some (.slice cB ((rd_T65 l1_0 aA).f2.f1).length cC)) (ds := []) #[false, false, false, false, false, false, false, false, false, false, false, false, false, false, false, false, false, false, false, false, false, false, false, false, false, false, false, false, false, false, false, false] (by kernel_rfl) rfl rfl ⟨(blk_cell aB.out 0).trans rfl, (blk_cell aB.out 1).trans rfl, (blk_cell aE.out 0).trans rfl, (blk_cell aE.out 1).trans rfl, (hx_ HB cI), (hx_ HB cH), (hx_ HB cG), (hx_ HB cF), (hx_ HB cN), (hx_ HB cM), (hx_ HB cL), (hx_ HB cK), (hx_ HB cS), (hx_ HB cR), (hx_ HB cQ), (hx_ HB cP), (hx_ HB cX), (hx_ HB cW), (hx_ HB cV), (hx_ HB cU)⟩ (fun hHeld => ?_); refine with_tabW assartref05_Same.tab7 assartref05_Same.bits7 (fun HT_ HW_ => ?_)
     generalize w24.drew = w25 at aB aE HB cJ cO cT cY aT aU aV aH aW aX aY aI aZ bA bB aJ bC bD bE aK hHeld ⊢
     refine pu_ 0 41 ?_
     refine pu_ 1 42 ?_
     refine pu_ 2 43 ?_
     refine pu_ 3 44 ?_
     refine pu_ 5 46 ?_
     refine pu_ 9 50 ?_
     refine pu_ 11 52 ?_
     refine tk_ 4 45 ?_
     refine pu_ 6 47 ?_
     refine pu_ 7 48 ?_
     refine tk_ 8 49 ?_
     refine tk_ 10 51 ?_
     refine pu_ 12 53 ?_
     refine pu_ 13 54 ?_
     refine tk_ 14 55 ?_
     refine pu_ 15 56 ?_
     refine pu_ 16 57 ?_
     refine pu_ 17 58 ?_
     refine pu_ 18 59 ?_
     refine pu_ 20 61 ?_
     refine pu_ 24 65 ?_
     refine pu_ 26 67 ?_
     refine tk_ 19 60 ?_
     refine pu_ 21 62 ?_
     refine pu_ 22 63 ?_
     refine tk_ 23 64 ?_
     refine tk_ 25 66 ?_
     refine pu_ 27 68 ?_
     refine pu_ 28 69 ?_
     refine tk_ 29 70 ?_
     refine pu_ 30 71 ?_
     refine pu_ 31 72 ?_
     refine done_ (done_of HT_.out (by kernel_rfl)) ?_
     try go_wp2
     go_roundg k2
     case measure => have := HJ2.out; have := HK2.out; omega
     case rel => exact ⟨(wrap64 (aA + 1)), q_, H', ⟨by have := HJ2.out; have := HK2.out; omega⟩, ⟨bk_ aB⟩, ⟨bk_ aE⟩, ⟨bl_ HB⟩⟩
end
section
attribute [local go_sem] max2_int min2_int max_two min_two max_three min_three max_four min_four
theorem eqA122 (d : Nat) (w : World) (x0 y0 : Int) (x1 y1 : Int) :
  (Op.equalIn (d + 2) 122 (.agg #[.int .i64 x0, .int .i64 x1]) (.agg #[.int .i64 y0, .int .i64 y1])).run Tryz.prog w = .ok (x0 == y0 && (x1 == y1)) w := by
 refine eqA_of Tryz.underlying122 (by kernel_rfl) ?_
 refine eqf_cons (by rfl) (by go_simp; rfl) (by go_simp; rfl) (by go_simp) ?_
 exact eqf_last (by rfl) (by go_simp; rfl) (by go_simp; rfl) (by go_simp)
end
section
attribute [local go_sem] max2_int min2_int max_two min_two max_three min_three max_four min_four
attribute [local go_sem high] eqA122
def assartref12_Vols.l0 : Nat → List (S122) → List (S122) → Int → Option (Bool)
 | 0, _, _, _ => none
 | k + 1, x0, x1, x5 => if x5 < (x0.length : Int) then (if 0 ≤ x5 then (if x5 < (x1.length : Int) then (if (!(((rd_T122 x0 x5).f0) == ((rd_T122 x1 x5).f0)) || (!(((rd_T122 x0 x5).f1) == ((rd_T122 x1 x5).f1)))) = true then (none) else (assartref12_Vols.l0 k x0 x1 (wrap64 (x5 + 1)))) else (none)) else (none)) else (some true)
def assartref12_Vols.f (k : Nat) (l0 : List (S122)) (l1 : List (S122)) : Option (Bool) := if (l0.length : Int) = (l1.length : Int) then (assartref12_Vols.l0 k l0 l1 0) else (none)
theorem assartref12_Vols.calls (k : Nat) (A0 : Option Addr) (c0 : Nat) (l0 : List (S122)) (A1 : Option Addr) (c1 : Nat) (l1 : List (S122)) (r : Bool) (w : World) (hr0 : Kd.C k122 w A0 l0.length l0) (hc0 : l0.length ≤ c0) (hr1 : Kd.C k122 w A1 l1.length l1) (hc1 : l1.length ≤ c1) (h : assartref12_Vols.f k l0 l1 = some r) :
  Calls Tryz.prog 26 #[.slice A0 l0.length c0, .slice A1 l1.length c1] w fun e w' => e = .returned (.bool r) ∧ Drawn0 w w' := by
 have hu122 := Tryz.underlying122
 have HR0 := Zk hr0
 have HC0 := Zk hc0
 clear hr0 hc0
 have HR1 := Zk hr1
 have HC1 := Zk hc1
 clear hr1 hc1
 have H : (if (l0.length : Int) = (l1.length : Int) then (assartref12_Vols.l0 k l0 l1 0) else (none)) = some r := h
 clear h
 by_cases c3 : (l0.length : Int) = (l1.length : Int)
 case neg => exact no_ c3 H
 rw [if_pos c3] at H
 have aJ := beq_iff_eq.mpr c3
 have aK := bne_eq_false_iff_eq.mpr c3
 have aL : (l0.length == l1.length) = true := by first | simpa using c3 | (simp at c3 ⊢; omega)
 clear c3
 have H' := Zk H
 clear H
 go_enter Tryz.func26, Tryz.ntmps26
 go_wp2
 repeat (go_quiet (fail); try go_wp2)
 go_loopg [5] k (fun kq v5 w' => ∃ (aA : Int), v5 = .int .i64 aA ∧ Aside0 (assartref12_Vols.l0 kq l0 l1 aA = some r) ∧ Aside0 (kq ≤ k) ∧ Drawn0 w w')
 case atStart => exact ⟨(0), q_, H', ⟨Nat.le_refl _⟩, by repeat (first | exact Drawn0.refl _ | apply Drawn0.step)⟩
 case round =>
  clear H'
  try clear aJ
  try clear aK
  try clear aL
  obtain ⟨aA, rfl, HA, HK1, ⟨m1, rfl⟩⟩ := hrel
  cases gk with
  | zero => exact absurd HA.out (by simp [assartref12_Vols.l0])
  | succ k1 =>
   have H := HA.out
   clear HA
   simp only [assartref12_Vols.l0] at H
   by_cases c4 : aA < (l0.length : Int)
   case neg =>
    rw [if_neg c4] at H
    have aM := decide_eq_false c4
    clear c4
    obtain rfl := Option.some.inj H
    go_wp2
    repeat (go_quiet (fail); try go_wp2)
    go_ret
    exact ⟨q_, by repeat (first | exact Drawn0.refl _ | apply Drawn0.step)⟩
   rw [if_pos c4] at H
   have aM := decide_eq_true c4
   clear c4
   by_cases c5 : 0 ≤ aA
   case neg => exact no_ c5 H
   rw [if_pos c5] at H
   have aR := decide_eq_true c5
   clear c5
   by_cases c6 : aA < (l1.length : Int)
   case neg => exact no_ c6 H
   rw [if_pos c6] at H
   have aS := decide_eq_true c6
   clear c6
   by_cases c7 : (!(((rd_T122 l0 aA).f0) == ((rd_T122 l1 aA).f0)) || (!(((rd_T122 l0 aA).f1) == ((rd_T122 l1 aA).f1)))) = true
   case pos =>
    rw [if_pos c7] at H
    exact absurd H (by simp)
   rw [if_neg c7] at H
   have aT : (!(((rd_T122 l0 aA).f0) == ((rd_T122 l1 aA).f0)) || (!(((rd_T122 l0 aA).f1) == ((rd_T122 l1 aA).f1)))) = false := by simpa using c7
   clear c7
   have H' := Zk H
   clear H
   have aB : 0 ≤ (aA : Int) := of_decide_eq_true as_
   have aC : aA < (l0.length : Int) := of_decide_eq_true as_
   obtain ⟨aP, aN, aF, aG⟩ := at_T122 HR0.out aA aB aC
   cases aN
   replace aB := eq_true aB
   replace aC := eq_true aC
   have aD : 0 ≤ (aA : Int) := of_decide_eq_true as_
   have aE : aA < (l1.length : Int) := of_decide_eq_true as_
   obtain ⟨aQ, aO, aH, aI⟩ := at_T122 HR1.out aA aD aE
   cases aO
   replace aD := eq_true aD
   replace aE := eq_true aE
   go_wp2
   repeat (go_quiet (fail); try go_wp2)
   go_roundg k1
   case measure => have := HK1.out; omega
   case rel => exact ⟨(wrap64 (aA + 1)), q_, H', ⟨by have := HK1.out; omega⟩, by repeat (first | exact Drawn0.refl _ | apply Drawn0.step)⟩
end
theorem feq_okT {a b : Nat} (ha : okT a = true) (hb : okT b = true) : Op.floatEq .f64 a b = decide (a = b) := by
 obtain ⟨p, hp, rfl⟩ := okT_of ha
 obtain ⟨q, hq, rfl⟩ := okT_of hb
 unfold Op.floatEq
 rw [fl_order hp hq]
 by_cases h : p = q
 case pos =>
  subst h
  simp [compare, compareOfLessAndEq]
 have h2 : fl p ≠ fl q := fun e => h (by have := bk_fl hp; rw [e, bk_fl hq] at this; omega)
 rw [decide_eq_false h2]
 by_cases hl : (p : Int) < q
 case pos => simp [compare, compareOfLessAndEq, hl]
 have h3 : ¬ ((p : Int) = q) := by omega
 simp [compare, compareOfLessAndEq, hl, h3]
def assartref06_Same.f (l0 l1 : List (Nat × Nat)) : Option Bool := if okTs l0 = true ∧ okTs l1 = true ∧ l0.length < 1000000 then some (decide (l0 = l1)) else none
theorem same_step {l0 l1 : List (Nat × Nat)} {j : Nat} (h0 : j < l0.length) (h1 : j < l1.length) (h : l0.take j = l1.take j) (e : rdC l0 (j : Nat) = rdC l1 (j : Nat)) : l0.take (j + 1) = l1.take (j + 1) := by
 have e0 : rdC l0 (j : Nat) = l0[j] := by simp [rdC, h0]
 have e1 : rdC l1 (j : Nat) = l1[j] := by simp [rdC, h1]
 rw [List.take_add_one, List.take_add_one, h, List.getElem?_eq_getElem h0, List.getElem?_eq_getElem h1, ← e0, ← e1, e]
theorem assartref06_Same.calls (A0 : Option Addr) (c0 : Nat) (l0 : List (Nat × Nat)) (A1 : Option Addr) (c1 : Nat) (l1 : List (Nat × Nat)) (r : Bool) (w : World) (hr0 : Kd.C kc w A0 l0.length l0) (hc0 : l0.length ≤ c0) (hr1 : Kd.C kc w A1 l1.length l1) (hc1 : l1.length ≤ c1) (h : assartref06_Same.f l0 l1 = some r) :
  Calls Tryz.prog 27 #[.slice A0 l0.length c0, .slice A1 l1.length c1] w fun e w' => e = .returned (.bool r) ∧ Drawn0 w w' := by
 unfold assartref06_Same.f at h
 by_cases hk : okTs l0 = true ∧ okTs l1 = true ∧ l0.length < 1000000
 case neg => rw [if_neg hk] at h; cases h
 rw [if_pos hk] at h
 obtain rfl := Option.some.inj h
 obtain ⟨hk0, hk1, hl⟩ := hk
 have HR0 := Zk hr0
 have HR1 := Zk hr1
 have HK0 := Zk hk0
 have HK1 := Zk hk1
 have HL := Zk hl
 clear hr0 hr1 hk0 hk1 h hl
 by_cases hll : l0.length = l1.length
 case neg =>
  have hlb : ((l0.length : Int) != (l1.length : Int)) = true := by simp; omega
  have hne : l0 ≠ l1 := fun e => hll (by rw [e])
  clear hll
  go_enter Tryz.func27, Tryz.ntmps27
  go_wp2
  go_ret
  exact ⟨by rw [decide_eq_false hne]; rfl, Drawn0.refl _⟩
 have hlb : ((l0.length : Int) != (l1.length : Int)) = false := by simp [hll]
 have HLL := Zk hll
 clear hll
 go_enter Tryz.func27, Tryz.ntmps27
 go_wp2
 go_loopg [5] l0.length (fun kx s5 wr => ∃ j : Nat, s5 = .int .i64 j ∧ j ≤ l0.length ∧ l0.length - j ≤ kx ∧ Aside0 (l0.take j = l1.take j) ∧ Aside0 (Drawn0 w wr))
 case atStart => exact ⟨0, rfl, Nat.zero_le _, Nat.le_refl _, ⟨rfl⟩, ⟨Drawn0.refl _⟩⟩
 case round =>
  obtain ⟨j, rfl, hj, hjk, HT, HD⟩ := hrel
  by_cases hjl : j < l0.length
  case neg =>
   obtain rfl : j = l0.length := by omega
   go_wp2
   go_ret
   have := HT.out
   rw [List.take_length, HLL.out, List.take_length] at this
   exact ⟨by rw [decide_eq_true this]; rfl, HD.out⟩
  have hj1 : j < l1.length := by have := HLL.out; omega
  have hjz : (0 : Int) ≤ j := by omega
  have hjl2 : (j : Int) < (l0.length : Int) := by omega
  have hjl3 : (j : Int) < (l1.length : Int) := by omega
  have hlm := HL.out
  obtain ⟨ad0, rfl, x0⟩ := at_C (Kd.C_below HR0.out HD.out.below) (j : Int) hjz hjl2
  obtain ⟨ad1, rfl, x1⟩ := at_C (Kd.C_below HR1.out HD.out.below) (j : Int) hjz hjl3
  rw [Int.toNat_natCast] at x0 x1
  obtain ⟨o1, o2⟩ := okTs_at HK0.out hjl
  obtain ⟨o3, o4⟩ := okTs_at HK1.out hj1
  have HST := Zk (same_step hjl hj1 HT.out)
  have f1 := feq_okT o1 o3
  have f2 := feq_okT o2 o4
  have HNE : Aside0 (rdC l0 (j : Nat) ≠ rdC l1 (j : Nat) → l0 ≠ l1) := ⟨fun h e => h (by rw [e])⟩
  obtain ⟨a, ha⟩ : ∃ a, rdC l0 (j : Nat) = a := ⟨_, rfl⟩
  obtain ⟨b, hb⟩ : ∃ a, rdC l1 (j : Nat) = a := ⟨_, rfl⟩
  rw [ha] at x0 f1 f2 HST HNE
  rw [hb] at x1 f1 f2 HST HNE
  clear o1 o2 o3 o4 ha hb
  obtain ⟨a1, a2⟩ := a
  obtain ⟨b1, b2⟩ := b
  simp only at x0 x1 f1 f2
  have HDD : Aside0 (Drawn0 w wr.drew) := ⟨HD.out.step 1⟩
  unfold Op.floatEq at f1 f2
  by_cases hab : a1 = b1
  case neg =>
   have hne : l0 ≠ l1 := HNE.out (fun e => hab (by injection e))
   rw [decide_eq_false hab] at f1
   clear f2
   have HN := Zk hne
   clear HST HNE hne
   go_wp2
   go_region_held3 (fun w' => w'.cell? (ad0.add j) = some (.complex .f64 a1 a2) ∧ w'.cell? (ad1.add j) = some (.complex .f64 b1 b2)) (go_keep) (fail)
   go_wp2
   go_ret
   exact ⟨by rw [decide_eq_false HN.out]; rfl, HDD.out⟩
  subst hab
  rw [decide_eq_true rfl] at f1
  by_cases hcd : a2 = b2
  case neg =>
   have hne : l0 ≠ l1 := HNE.out (fun e => hcd (by injection e))
   rw [decide_eq_false hcd] at f2
   have HN := Zk hne
   clear HST HNE hne
   go_wp2
   go_region_held3 (fun w' => w'.cell? (ad0.add j) = some (.complex .f64 a1 a2) ∧ w'.cell? (ad1.add j) = some (.complex .f64 a1 b2)) (go_keep) (fail)
   go_wp2
   go_ret
   exact ⟨by rw [decide_eq_false HN.out]; rfl, HDD.out⟩
  subst hcd
  rw [decide_eq_true rfl] at f2
  have HS2 := Zk (HST.out rfl)
  clear HST HNE
  go_wp2
  go_region_held3 (fun w' => w'.cell? (ad0.add j) = some (.complex .f64 a1 a2) ∧ w'.cell? (ad1.add j) = some (.complex .f64 a1 a2)) (go_keep) (fail)
  go_wp2
  go_roundg (l0.length - (j + 1))
  case measure => exact (show l0.length - (j + 1) < gk by omega)
  case rel => exact ⟨j + 1, rfl, by omega, Nat.le_refl _, HS2, HDD⟩
section
attribute [local go_sem] max2_int min2_int max_two min_two max_three min_three max_four min_four
def assartref12_Same.f (k : Nat) (l0_0 : List (S65)) (a0_1 : Int) (l0_2 : List (S122)) (l0_3 : List (Nat × Nat)) (a0_4 : Int) (a0_5 : Int) (l1_0 : List (S65)) (a1_1 : Int) (l1_2 : List (S122)) (l1_3 : List (Nat × Nat)) (a1_4 : Int) (a1_5 : Int) : Option (Bool) := (assartref05_Same.f k l0_0 a0_1 l1_0 a1_1).bind fun aA => ((assartref12_Vols.f k l0_2 l1_2).bind fun aB => ((assartref06_Same.f l0_3 l1_3).bind fun aC => (if aA = true then (if aB = true then (if aC = true then (if a0_4 = a1_4 then (some (a0_5 == a1_5)) else (none)) else (none)) else (none)) else (none))))
theorem assartref12_Same.calls (k : Nat) (A0_0 : Option Addr) (c0_0 : Nat) (l0_0 : List (S65)) (a0_1 : Int) (A0_2 : Option Addr) (c0_2 : Nat) (l0_2 : List (S122)) (A0_3 : Option Addr) (c0_3 : Nat) (l0_3 : List (Nat × Nat)) (a0_4 : Int) (a0_5 : Int) (A1_0 : Option Addr) (c1_0 : Nat) (l1_0 : List (S65)) (a1_1 : Int) (A1_2 : Option Addr) (c1_2 : Nat) (l1_2 : List (S122)) (A1_3 : Option Addr) (c1_3 : Nat) (l1_3 : List (Nat × Nat)) (a1_4 : Int) (a1_5 : Int) (r : Bool) (w : World) (hr0_0 : Kd.C k65 w A0_0 l0_0.length l0_0) (hc0_0 : l0_0.length ≤ c0_0) (hr0_2 : Kd.C k122 w A0_2 l0_2.length l0_2) (hc0_2 : l0_2.length ≤ c0_2) (hr0_3 : Kd.C kc w A0_3 l0_3.length l0_3) (hc0_3 : l0_3.length ≤ c0_3) (hr1_0 : Kd.C k65 w A1_0 l1_0.length l1_0) (hc1_0 : l1_0.length ≤ c1_0) (hr1_2 : Kd.C k122 w A1_2 l1_2.length l1_2) (hc1_2 : l1_2.length ≤ c1_2) (hr1_3 : Kd.C kc w A1_3 l1_3.length l1_3) (hc1_3 : l1_3.length ≤ c1_3) (h : assartref12_Same.f k l0_0 a0_1 l0_2 l0_3 a0_4 a0_5 l1_0 a1_1 l1_2 l1_3 a1_4 a1_5 = some r) :
  Calls Tryz.prog 11 #[.agg #[.slice A0_0 l0_0.length c0_0, .int .i64 a0_1, .slice A0_2 l0_2.length c0_2, .slice A0_3 l0_3.length c0_3, .int .i64 a0_4, .int .i64 a0_5], .agg #[.slice A1_0 l1_0.length c1_0, .int .i64 a1_1, .slice A1_2 l1_2.length c1_2, .slice A1_3 l1_3.length c1_3, .int .i64 a1_4, .int .i64 a1_5]] w fun e w' => e = .returned (.bool r) ∧ Below w.heap.size w w' := by
 have hu34 := Tryz.underlying34
 have hu30 := Tryz.underlying30
 have aH := Zk hr0_0
 have aI := Zk hc0_0
 clear hr0_0 hc0_0
 have aJ := Zk hr0_2
 have aK := Zk hc0_2
 clear hr0_2 hc0_2
 have aL := Zk hr0_3
 have aM := Zk hc0_3
 clear hr0_3 hc0_3
 have aN := Zk hr1_0
 have aO := Zk hc1_0
 clear hr1_0 hc1_0
 have aP := Zk hr1_2
 have aQ := Zk hc1_2
 clear hr1_2 hc1_2
 have aR := Zk hr1_3
 have aS := Zk hc1_3
 clear hr1_3 hc1_3
 have HB := Zk (Below.refl w.heap.size w)
 have H : ((assartref05_Same.f k l0_0 a0_1 l1_0 a1_1).bind fun aE => ((assartref12_Vols.f k l0_2 l1_2).bind fun aF => ((assartref06_Same.f l0_3 l1_3).bind fun aG => (if aE = true then (if aF = true then (if aG = true then (if a0_4 = a1_4 then (some (a0_5 == a1_5)) else (none)) else (none)) else (none)) else (none))))) = some r := h
 clear h
 replace H := Option.bind_eq_some_iff.mp H
 obtain ⟨aE, A30, H⟩ := H
 (try dsimp only at H)
 have A3 := Zk A30
 clear A30
 replace H := Option.bind_eq_some_iff.mp H
 obtain ⟨aF, A40, H⟩ := H
 (try dsimp only at H)
 have A4 := Zk A40
 clear A40
 replace H := Option.bind_eq_some_iff.mp H
 obtain ⟨aG, A50, H⟩ := H
 (try dsimp only at H)
 have A5 := Zk A50
 clear A50
 by_cases c6 : aE = true
 case neg =>
  replace c6 := Bool.eq_false_iff.mpr c6
  subst c6
  rw [if_neg (show ¬ (false = true) by decide)] at H
  exact absurd H (by simp)
 subst c6
 rw [if_pos rfl] at H
 by_cases c7 : aF = true
 case neg =>
  replace c7 := Bool.eq_false_iff.mpr c7
  subst c7
  rw [if_neg (show ¬ (false = true) by decide)] at H
  exact absurd H (by simp)
 subst c7
 rw [if_pos rfl] at H
 by_cases c8 : aG = true
 case neg =>
  replace c8 := Bool.eq_false_iff.mpr c8
  subst c8
  rw [if_neg (show ¬ (false = true) by decide)] at H
  exact absurd H (by simp)
 subst c8
 rw [if_pos rfl] at H
 by_cases c9 : a0_4 = a1_4
 case neg => exact no_ c9 H
 rw [if_pos c9] at H
 have cV := beq_iff_eq.mpr c9
 have cW := bne_eq_false_iff_eq.mpr c9
 clear c9
 obtain rfl := Option.some.inj H
 go_enter Tryz.func11, Tryz.ntmps11
 go_wp2_with (first | (refine gd_ 2 ?_; refine bx_ 2 #[.slice A0_0 l0_0.length c0_0, .int .i64 a0_1, .slice A0_2 l0_2.length c0_2, .slice A0_3 l0_3.length c0_3, .int .i64 a0_4, .int .i64 a0_5] 34 ?_; intro cP hg w10 hbox hb; have aA := Zk (hbox); have cQ := gw_ HB hg; replace HB := al_ HB hb; clear hb hbox hg) | (refine gd_ 3 ?_; refine bx_ 3 #[.slice A1_0 l1_0.length c1_0, .int .i64 a1_1, .slice A1_2 l1_2.length c1_2, .slice A1_3 l1_3.length c1_3, .int .i64 a1_4, .int .i64 a1_5] 34 ?_; intro cR hg w11 hbox hb; have aB := Zk (hbox); have cS := gw_ HB hg; replace HB := al_ HB hb; have aC := n1_ aA hg; have aD := n2_ aA hg; replace aA := ab_ aA hb; clear hb hbox hg; obtain ⟨cT, cU⟩ := nn_ aC aD; obtain ⟨aT, aU, aV, aW, aX, aY, aZ, bA, bB, bC, bD, bE⟩ := cf6_ aA; obtain ⟨bF, bG, bH, bI, bJ, bK, bL, bM, bN, bO, bP, bQ⟩ := cf6_ aB) | (refine gc_ 25 ?_; refine gl_ 25 (some 12) #[.agg #[.slice A0_0 l0_0.length c0_0, .int .i64 a0_1], .agg #[.slice A1_0 l1_0.length c1_0, .int .i64 a1_1]] Tryz.func25 ?_; (with_reducible refine (assartref05_Same.calls k _ _ l0_0 a0_1 _ _ l1_0 a1_1 true _ (cb_ aH HB) aI.out (cb_ aN HB) aO.out A3.out).mono ?_); rintro e w15 ⟨rfl, hb⟩; refine ⟨_, rfl, ?_⟩; replace aA := ab_ aA hb; replace aB := ab_ aB hb; replace HB := al_ HB hb; (try clear hb); obtain ⟨bR, bS, bT, bU, bV, bW, bX, bY, bZ, cA, cB, cC⟩ := cf6_ aA; obtain ⟨cD, cE, cF, cG, cH, cI, cJ, cK, cL, cM, cN, cO⟩ := cf6_ aB) | (refine gc_ 26 ?_; refine gl_ 26 (some 17) #[.slice A0_2 l0_2.length c0_2, .slice A1_2 l1_2.length c1_2] Tryz.func26 ?_; (with_reducible refine (assartref12_Vols.calls k _ _ l0_2 _ _ l1_2 true _ (cb_ aJ HB) aK.out (cb_ aP HB) aQ.out A4.out).mono ?_); rintro e w' ⟨rfl, ⟨nd, rfl⟩⟩; refine ⟨_, rfl, ?_⟩) | (refine gc_ 27 ?_; refine gl_ 27 (some 22) #[.slice A0_3 l0_3.length c0_3, .slice A1_3 l1_3.length c1_3] Tryz.func27 ?_; (with_reducible refine (assartref06_Same.calls _ _ l0_3 _ _ l1_3 true _ (ct_ (Kd.C_below aL.out (bl_ HB))) aM.out (ct_ (Kd.C_below aR.out (bl_ HB))) aS.out A5.out).mono ?_); rintro e w' ⟨rfl, ⟨nd, rfl⟩⟩; refine ⟨_, rfl, ?_⟩))
 go_ret
 exact ⟨e_, bl_ HB⟩
end
theorem items_same (it : List S84) (hl : it.length ≤ 4) (k : Nat) (hk : 6 ≤ k) : assartref04_Items.f k it it = some true := by
 have loop : ∀ (d k j : Nat), it.length = j + d → d < k → assartref04_Items.l0 k it it (j : Int) = some true := by
  intro d
  induction d with
  | zero =>
   intro k j hj hk
   obtain ⟨k, rfl⟩ : ∃ k', k = k' + 1 := ⟨k - 1, by omega⟩
   rw [assartref04_Items.l0, if_neg (by omega)]
  | succ d ih =>
   intro k j hj hk
   obtain ⟨k, rfl⟩ : ∃ k', k = k' + 1 := ⟨k - 1, by omega⟩
   rw [assartref04_Items.l0, if_pos (by omega), if_pos (by omega), if_pos (by omega)]
   simp only [beq_self_eq_true, Bool.not_true, Bool.or_self, Bool.false_eq_true, if_false]
   rw [show wrap64 ((j : Int) + 1) = ((j + 1 : Nat) : Int) from by rw [w64 (by omega) (by omega)]; push_cast; rfl]
   exact ih k (j + 1) (by omega) (by omega)
 unfold assartref04_Items.f
 first | (rw [if_pos rfl]; exact loop it.length k 0 (by omega) (by omega)) | exact loop it.length k 0 (by omega) (by omega)
theorem vols_same (vs : List S122) (hl : vs.length ≤ 20) (k : Nat) (hk : 30 ≤ k) : assartref12_Vols.f k vs vs = some true := by
 have loop : ∀ (d k j : Nat), vs.length = j + d → d < k → assartref12_Vols.l0 k vs vs (j : Int) = some true := by
  intro d
  induction d with
  | zero =>
   intro k j hj hk
   obtain ⟨k, rfl⟩ : ∃ k', k = k' + 1 := ⟨k - 1, by omega⟩
   rw [assartref12_Vols.l0, if_neg (by omega)]
  | succ d ih =>
   intro k j hj hk
   obtain ⟨k, rfl⟩ : ∃ k', k = k' + 1 := ⟨k - 1, by omega⟩
   rw [assartref12_Vols.l0, if_pos (by omega), if_pos (by omega), if_pos (by omega)]
   simp only [beq_self_eq_true, Bool.not_true, Bool.or_self, Bool.false_eq_true, if_false]
   rw [show wrap64 ((j : Int) + 1) = ((j + 1 : Nat) : Int) from by rw [w64 (by omega) (by omega)]; push_cast; rfl]
   exact ih k (j + 1) (by omega) (by omega)
 unfold assartref12_Vols.f
 rw [if_pos rfl]
 exact loop vs.length k 0 (by omega) (by omega)
theorem heap_same (l : List S65) (kp : Int) (h1 : l.length ≤ 2000) (h2 : ∀ x ∈ l, x.f2.f1.length ≤ 4) (k : Nat) (hk : 3000 ≤ k) : assartref05_Same.f k l kp l kp = some true := by
 have loop : ∀ (d k j : Nat), l.length = j + d → d + 10 < k → assartref05_Same.l0 k (j : Int) l kp l kp = some true := by
  intro d
  induction d with
  | zero =>
   intro k j hj hk
   obtain ⟨k, rfl⟩ : ∃ k', k = k' + 1 := ⟨k - 1, by omega⟩
   rw [assartref05_Same.l0, if_neg (by omega)]
  | succ d ih =>
   intro k j hj hk
   obtain ⟨k, rfl⟩ : ∃ k', k = k' + 1 := ⟨k - 1, by omega⟩
   rw [assartref05_Same.l0, if_pos (by omega), if_pos (by omega), if_pos (by omega)]
   unfold assartref04_Same.f
   rw [if_pos (by simp), items_same _ (h2 _ (rd65_mem (by omega) (by omega))) k (by omega)]
   simp only [Option.bind_some, if_true, bne_self_eq_false, Bool.false_eq_true, if_false]
   rw [show wrap64 ((j : Int) + 1) = ((j + 1 : Nat) : Int) from by rw [w64 (by omega) (by omega)]; push_cast; rfl]
   exact ih k (j + 1) (by omega) (by omega)
 unfold assartref05_Same.f
 rw [if_pos rfl]
 obtain ⟨k, rfl⟩ : ∃ k', k = k' + 1 := ⟨k - 1, by omega⟩
 rw [assartref05_Same.j0, if_neg (by simp)]
 exact loop l.length k 0 (by omega) (by omega)
theorem state_same {r : MountT} (h : MountOk r) : assartref12_Same.f 100000 r.1 r.2.1 r.2.2.1 r.2.2.2.1 r.2.2.2.2.1 r.2.2.2.2.2.1 r.1 r.2.1 r.2.2.1 r.2.2.2.1 r.2.2.2.2.1 r.2.2.2.2.2.1 = some true := by
 have key : ∀ K, 3000 ≤ K → assartref12_Same.f K r.1 r.2.1 r.2.2.1 r.2.2.2.1 r.2.2.2.2.1 r.2.2.2.2.2.1 r.1 r.2.1 r.2.2.1 r.2.2.2.1 r.2.2.2.2.1 r.2.2.2.2.2.1 = some true := fun K hK => by
  unfold assartref12_Same.f
  rw [heap_same _ _ h.cl h.il K hK, vols_same _ h.vl K (by omega)]
  unfold assartref06_Same.f
  have ht := h.tl
  rw [if_pos ⟨h.ok, h.ok, by omega⟩]
  simp
 exact key 100000 (by decide)
section
attribute [local go_sem] max2_int min2_int max_two min_two max_three min_three max_four min_four
mutual
def assartref02_New.j0 : Nat → Int → Bool → Option (List ByteArray × (List (S98)) × Int)
 | 0, _, _ => none
 | k + 1, x0, x12 => if x12 = true then (some (([] : List ByteArray), ([] : List (S98)), 1)) else (if 40 ≤ 281474976710656 then (assartref02_New.l0 k x0 (strOfNums (List.replicate 40 0)) 0 ([] : List ByteArray)) else (none))
def assartref02_New.l0 : Nat → Int → ByteArray → Int → List ByteArray → Option (List ByteArray × (List (S98)) × Int)
 | 0, _, _, _, _ => none
 | k + 1, x0, x5, x6, aA => if x6 < x0 then (if aA.length < 8796093022208 then (assartref02_New.l0 k x0 x5 (wrap64 (x6 + 1)) (aA ++ [x5])) else (none)) else (some (aA, ([] : List (S98)), 0))
end
def assartref02_New.f (k : Nat) (a0 : Int) : Option (List ByteArray × (List (S98)) × Int) := if a0 < 1 then (assartref02_New.j0 k a0 true) else (assartref02_New.j0 k a0 (decide (a0 > 4000)))
theorem assartref02_New.calls (k : Nat) (a0 : Int) (r1 : List ByteArray) (r2 : List (S98)) (r3 : Int) (w : World) (h : assartref02_New.f k a0 = some (r1, r2, r3)) :
  Calls Tryz.prog 9 #[.int .i64 a0] w fun e w' => ∃ v0_ v1_ : Value, e = .returned (.tuple #[.agg #[v0_, v1_], .int .i64 r3]) ∧ Kd.R Kd.string 9 w' w.heap.size (fun _ => True) v0_ r1 ∧ Kd.R k98 98 w' w.heap.size (fun _ => True) v1_ r2 ∧ Below w.heap.size w w' := by
 have hu25 := Tryz.underlying25
 have HB := Zk (Below.refl w.heap.size w)
 have H : (if a0 < 1 then (assartref02_New.j0 k a0 true) else (assartref02_New.j0 k a0 (decide (a0 > 4000)))) = some (r1, r2, r3) := h
 clear h
 have HC2 := Zk H
 clear H
 go_enter Tryz.func9, Tryz.ntmps9
 go_upto_region 1 with (first | (refine gd_ 2 ?_; refine bx_ 2 #[.slice none 0 0, .slice none 0 0] 25 ?_; intro aJ hg w3 hbox hb; have aA := Zk (hbox); have cH := gw_ HB hg; replace HB := al_ HB hb; clear hb hbox hg))
 (try simp only [Act.put, List.setIfInBounds_toArray, List.set_cons_zero, List.set_cons_succ])
 go_cut [12] (fun v12 wc => ∃ (kq : Nat) (aM : Bool), v12 = .bool aM ∧ Aside0 (assartref02_New.j0 kq a0 aM = some (r1, r2, r3)) ∧ Aside0 (kq ≤ k) ∧ Aside0 (wc.heap[aJ]? = some (.cells #[(.slice none 0 0), (.slice none 0 0)] 25 (0, 0))) ∧ Aside0 (Below w.heap.size w wc))
 case first =>
  have H := HC2.out
  clear HC2
  by_cases c4 : a0 < 1
  case pos =>
   rw [if_pos c4] at H
   have aK := decide_eq_true c4
   clear c4
   (first | rw [aK] | (simp only [i64_w, i32_w]; rw [aK]) | skip)
   have H' := Zk H
   clear H
   go_wp2
   go_meet
   case rel => exact ⟨_, (true), q_, H', ⟨by first | omega | exact Nat.le_refl _⟩, ⟨bk_ aA⟩, ⟨bl_ HB⟩⟩
  rw [if_neg c4] at H
  have aK := decide_eq_false c4
  clear c4
  (first | rw [aK] | (simp only [i64_w, i32_w]; rw [aK]) | skip)
  have H' := Zk H
  clear H
  go_wp2
  go_meet
  case rel => exact ⟨_, (decide (a0 > 4000)), q_, H', ⟨by first | omega | exact Nat.le_refl _⟩, ⟨bk_ aA⟩, ⟨bl_ HB⟩⟩
 case rest =>
  clear HC2
  try clear aK
  obtain ⟨kq, aM, rfl, HA, HJ1, aA, HB⟩ := hcut
  cases kq with
  | zero => exact absurd HA.out (by simp [assartref02_New.j0])
  | succ kj1 =>
   have H := HA.out
   clear HA
   simp only [assartref02_New.j0] at H
   by_cases c5 : aM = true
   case pos =>
    subst c5
    rw [if_pos rfl] at H
    simp only [Option.some.injEq, Prod.mk.injEq] at H
    obtain ⟨rfl, rfl, rfl⟩ := H
    obtain ⟨bX, bY, bZ, cA⟩ := cf2_ aA
    go_wp2
    refine bodyPost_ret (results_ct rfl _ _ aJ 25 #[.slice none 0 0, .slice none 0 0] (0, 0) _ rfl (bp_ aA) Tryz.underlying25 rfl (by kernel_rfl)) rfl ?_
    exact ⟨_, _, e_, by first | exact Kd.R_nil _ _ _ _ _ | exact Kd.N_nil _ _ _ _ _ | exact Kd.V_nil _ _ _ _ _ | exact Kd.Q_nil _ _ _ _ _ | exact Kd.S_nil _ _ _ _ _, by first | exact Kd.R_nil _ _ _ _ _ | exact Kd.N_nil _ _ _ _ _ | exact Kd.V_nil _ _ _ _ _ | exact Kd.Q_nil _ _ _ _ _ | exact Kd.S_nil _ _ _ _ _, bl_ HB⟩
   replace c5 := Bool.eq_false_iff.mpr c5
   subst c5
   rw [if_neg (show ¬ (false = true) by decide)] at H
   by_cases c7 : 40 ≤ 281474976710656
   case neg => exact no_ c7 H
   rw [if_pos c7] at H
   have cB := eq_true c7
   have cC := decide_eq_true c7
   clear c7
   obtain ⟨aT, aN⟩ : ∃ y_ : List Int, y_ = (List.replicate 40 0) := ⟨_, rfl⟩
   first | replace H := bnd_ aN H | rw [← aN] at H
   have aU := Zk aN
   clear aN
   have H' := Zk H
   clear H
   go_wp2_with (first | (refine gd_ 4 ?_; refine bx_ 4 #[.slice none 0 0, .slice none 0 0] 25 ?_; intro aV hg w8 hbox hb; have aE := Zk (hbox); have cI := gw_ HB hg; replace HB := al_ HB hb; have aH := n1_ aA hg; have aI := n2_ aA hg; replace aA := ab_ aA hb; clear hb hbox hg; obtain ⟨cN, cO⟩ := nn_ aI aH; obtain ⟨bD, bE, bF, bG⟩ := cf2_ aE) | (refine gd_ 15 ?_; refine Kd.R_make (Kd.int .u8) _ 5 rfl (N := 15) rfl 54 _ _ rfl 40 rfl rfl Tryz.underlying54 (.int .u8 0) 1 info5 rfl (by decide) (by omega) 0 (ok := fun _ => True) (okp := fun _ => True) rfl (fun _ hk => hk) trivial (by omega) (by omega) (Below.refl _ _) (Nat.le_refl _) ?_; intro cP w11 ho12 hb hg_ hnew_; clear hg_ hnew_; (first | rw [← aU.out] at ho12 | (simp only [Int.reduceToNat] at ho12; rw [← aU.out] at ho12)); have aX := Zk (Kd.R_lower ho12 (below_size (bl_ HB))); replace aA := ab_ aA hb; replace aE := abp_ aE hb; replace HB := al_ HB hb; clear hb ho12; have hcv13 := own_string (P := Tryz.prog) Tryz.underlying54 Tryz.underlying5 Tryz.underlying9 (Kd.own_of_R aX.out)))
   go_loopg [6] kj1 (fun kq v6 w' => ∃ (aR : Int) (aC : List ByteArray) (aG : Value), v6 = .int .i64 aR ∧ Aside0 (assartref02_New.l0 kq a0 (strOfNums aT) aR aC = some (r1, r2, r3)) ∧ Aside0 (kq ≤ kj1) ∧ Aside0 (Kd.R Kd.string 9 w' w.heap.size (fun _ => True) aG aC) ∧ Aside0 (w'.heap[aJ]? = some (.cells #[(.slice none 0 0), (.slice none 0 0)] 25 (0, 0))) ∧ Aside0 (w'.heap[aV]? = some (.cells #[aG, (.slice none 0 0)] 25 (0, 0))) ∧ Aside0 (Below w.heap.size w w'))
   case atStart => exact ⟨(0), (([] : List ByteArray)), (.slice none 0 0), q_, H', ⟨Nat.le_refl _⟩, ⟨by first | exact Kd.R_nil _ _ _ _ _ | exact Kd.N_nil _ _ _ _ _ | exact Kd.V_nil _ _ _ _ _ | exact Kd.Q_nil _ _ _ _ _ | exact Kd.S_nil _ _ _ _ _⟩, ⟨bk_ aA⟩, ⟨bk_ aE⟩, ⟨bl_ HB⟩⟩
   case round =>
    clear H'
    try clear hcv1
    try clear aK
    try clear cB
    try clear cC
    try clear hcv13
    obtain ⟨aR, aC, aG, rfl, HA, HK2, aD, aA, aE, HB⟩ := hrel
    cases gk with
    | zero => exact absurd HA.out (by simp [assartref02_New.l0])
    | succ k2 =>
     have H := HA.out
     clear HA
     simp only [assartref02_New.l0] at H
     by_cases c14 : aR < a0
     case neg =>
      rw [if_neg c14] at H
      have aY := decide_eq_false c14
      clear c14
      simp only [Option.some.injEq, Prod.mk.injEq] at H
      obtain ⟨rfl, rfl, rfl⟩ := H
      obtain ⟨cJ, cK⟩ := nn_ aI aH
      obtain ⟨bH, bI, bJ, bK⟩ := cf2_ aE
      obtain ⟨aZ, bA, cD⟩ := Kd.R_slice aD.out
      subst cD
      obtain ⟨bL, bM, bN, bO⟩ := cf2_ aA
      go_wp2
      refine bodyPost_ret (results_ct rfl _ _ aJ 25 #[.slice aZ aC.length bA, .slice none 0 0] (0, 0) _ rfl (bp_ aA) Tryz.underlying25 rfl (by kernel_rfl)) rfl ?_
      exact ⟨_, _, e_, by (with_reducible repeat (first | apply Kd.R_alloc | apply Kd.R_drewN | apply Kd.R_drew)); exact Kd.R_mono (Kd.R_far (p := ⟨aJ, 1, none⟩) (Kd.R_far (p := ⟨aJ, 0, none⟩) (Kd.R_types aD.out aA.out (by decide)) (fun _ hk => hk.2) (.slice aZ aC.length bA)) (fun _ hk => hk.2) (.slice none 0 0)) (fun _ hk => trivial), by first | exact Kd.R_nil _ _ _ _ _ | exact Kd.N_nil _ _ _ _ _ | exact Kd.V_nil _ _ _ _ _ | exact Kd.Q_nil _ _ _ _ _ | exact Kd.S_nil _ _ _ _ _, bl_ HB⟩
     rw [if_pos c14] at H
     have aY := decide_eq_true c14
     clear c14
     by_cases c15 : aC.length < 8796093022208
     case neg => exact no_ c15 H
     rw [if_pos c15] at H
     have LMc15 := Zk c15
     clear c15
     obtain ⟨bB, aQ⟩ : ∃ y_ : List ByteArray, y_ = (aC ++ [(strOfNums aT)]) := ⟨_, rfl⟩
     first | replace H := bnd_ aQ H | rw [← aQ] at H
     have bC := Zk aQ
     clear aQ
     have H' := Zk H
     clear H
     obtain ⟨cL, cM⟩ := nn_ aI aH
     obtain ⟨bP, bQ, bR, bS⟩ := cf2_ aE
     go_wp2_with (first | ((with_reducible refine gate_builtin (b := .append) (xs := #[.tmp 23, .tmp 25]) rfl ?_); at_builtin; refine Kd.R_append Kd.string (w0 := w) w.heap.size rfl (.tmp 23) (.tmp 25) 22 9 (.string ⟨#[]⟩) 16 rfl Tryz.underlying22 info9 rfl (by decide) (by omega) aG aC (strOfNums aT) [.string (strOfNums aT)] (fun _ => True) (fun _ => False) rfl rfl ?aP (fun _ hk => hk.elim) ?aF ?aO ?aB ?aS ?aL ?_; (case aP => exact rfl); (case aB => exact (bl_ HB)); (case aF => exact (fun _ _ => trivial)); (case aO => exact (r_ aD)); (case aS => exact (below_size (bl_ HB))); (case aL => have := LMc15.out; omega); intro cQ w18 ho hb hg hat; rw [← bC.out] at ho; replace aA := Zk (blk_grown (g := aJ) (o := .cells #[.slice none 0 0, .slice none 0 0] 25 (0, 0)) (bk_ aA) hg (Kd.R_ne aD.out aA.out (by decide))); replace aE := Zk (blk_grown (g := aV) (o := .cells #[aG, .slice none 0 0] 25 (0, 0)) (bk_ aE) hg (Kd.R_ne aD.out aE.out (by decide))); replace HB := Zk (hb); have aW := Zk (ho); clear aD; clear ho hb hg hat; obtain ⟨cE, cF, cG⟩ := Kd.R_slice aW.out; subst cG; obtain ⟨bT, bU, bV, bW⟩ := cf2_ aE))
     go_roundg k2
     case measure => have := HJ1.out; have := HK2.out; omega
     case rel => exact ⟨(wrap64 (aR + 1)), (bB), (.slice cE bB.length cF), q_, H', ⟨by have := HJ1.out; have := HK2.out; omega⟩, ⟨rg_ (Kd.R_types aW.out aE.out (by decide)) (fun _ hk => trivial)⟩, ⟨bk_ aA⟩, ⟨bp_ aE⟩, ⟨bl_ HB⟩⟩
end
section
attribute [local go_sem] max2_int min2_int max_two min_two max_three min_three max_four min_four
def mount_Check.l0 : Nat → Int → Int → List (S65) → Int → Int → Option (Int × Int)
 | 0, _, _, _, _, _ => none
 | k + 1, x5, x6, x16, x17, x18 => if x18 < x17 then (if 0 ≤ x18 then (if x18 < (x16.length : Int) then (if ((rd_T65 x16 x18).f0) > 0 then (mount_Check.l0 k x5 (wrap64 (x6 + 1)) x16 x17 (wrap64 (x18 + 1))) else (mount_Check.l0 k x5 x6 x16 x17 (wrap64 (x18 + 1)))) else (none)) else (none)) else (some (x6, x5))
def mount_Check.f (k : Nat) (l0_0 : List ByteArray) (l0_1 : List (S98)) : Option (Int × Int) := (mount_Mount.f l0_0 l0_1).bind fun bt208 => (mount_Check.l0 k bt208.2.2.2.2.2.2 0 bt208.1 (bt208.1.length : Int) 0)
theorem mount_Check.mono_l : ∀ k, (∀ y0 y1 y2 y3 y4, LeO (mount_Check.l0 k y0 y1 y2 y3 y4) (mount_Check.l0 (k + 1) y0 y1 y2 y3 y4))
 | 0 => fun _ _ _ _ _ r h => by simp [mount_Check.l0] at h
 | k + 1 => by
  have ih0 := mount_Check.mono_l k
  ·intro y0 y1 y2 y3 y4
   unfold mount_Check.l0
   repeat' first
   | (with_reducible exact ih0 _ _ _ _ _)
   | (with_reducible exact LeO.refl _)
   | (with_reducible exact LeO.none _)
   | (with_reducible refine LeO.ite ?_ ?_)
   | (with_reducible refine LeO.bind ?_ (fun _ => ?_))
   | exact ih0 _ _ _ _ _
   | exact LeO.none _
   | refine LeO.ite ?_ ?_
   | refine LeO.bind ?_ (fun _ => ?_)
theorem mount_Check.mono : ∀ a0 a1 k, LeO (mount_Check.f k a0 a1) (mount_Check.f (k + 1) a0 a1) := by
 intro a0 a1 k
 have ih0 := mount_Check.mono_l k
 unfold mount_Check.f
 repeat' first
   | (with_reducible exact ih0 _ _ _ _ _)
   | (with_reducible exact LeO.refl _)
   | (with_reducible exact LeO.none _)
   | (with_reducible refine LeO.ite ?_ ?_)
   | (with_reducible refine LeO.bind ?_ (fun _ => ?_))
   | exact ih0 _ _ _ _ _
   | exact LeO.none _
   | refine LeO.ite ?_ ?_
   | refine LeO.bind ?_ (fun _ => ?_)
theorem mount_Check.calls (k : Nat) (A0_0 : Option Addr) (c0_0 : Nat) (l0_0 : List ByteArray) (A0_1 : Option Addr) (c0_1 : Nat) (l0_1 : List (S98)) (r1 : Int) (r2 : Int) (w : World) (hr0_0 : Kd.C Kd.string w A0_0 l0_0.length l0_0) (hc0_0 : l0_0.length ≤ c0_0) (hr0_1 : Kd.C k98 w A0_1 l0_1.length l0_1) (hc0_1 : l0_1.length ≤ c0_1) (h : mount_Check.f k l0_0 l0_1 = some (r1, r2)) :
  Calls Tryz.prog 10 #[.agg #[.slice A0_0 l0_0.length c0_0, .slice A0_1 l0_1.length c0_1]] w fun e w' => e = .returned (.tuple #[.int .i64 r1, .int .i64 r2]) ∧ Below w.heap.size w w' := by
 have hu25 := Tryz.underlying25
 have hu34 := Tryz.underlying34
 have hu65 := Tryz.underlying65
 have bO := Zk hr0_0
 have bP := Zk hc0_0
 clear hr0_0 hc0_0
 have bQ := Zk hr0_1
 have bR := Zk hc0_1
 clear hr0_1 hc0_1
 have HB := Zk (Below.refl w.heap.size w)
 have H : ((mount_Mount.f l0_0 l0_1).bind fun bt208 => (mount_Check.l0 k bt208.2.2.2.2.2.2 0 bt208.1 (bt208.1.length : Int) 0)) = some (r1, r2) := h
 clear h
 replace H := Option.bind_eq_some_iff.mp H
 obtain ⟨⟨aJ, bS, bE, bF, bT, bU, bV⟩, A20, H⟩ := H
 (try dsimp only at H)
 have A2 := Zk A20
 clear A20
 have H' := Zk H
 clear H
 go_enter Tryz.func10, Tryz.ntmps10
 go_wp2_with (first | (refine gd_ 1 ?_; refine bx_ 1 #[.slice A0_0 l0_0.length c0_0, .slice A0_1 l0_1.length c0_1] 25 ?_; intro bW hg w3 hbox hb; have aB := Zk (hbox); have dP := gw_ HB hg; replace HB := al_ HB hb; clear hb hbox hg; obtain ⟨cX, cY, cZ, dA⟩ := cf2_ aB) | (refine gc_ 6 ?_; refine gl_ 6 (some 11) #[.agg #[.slice A0_0 l0_0.length c0_0, .slice A0_1 l0_1.length c0_1]] Tryz.func6 ?_; (with_reducible refine (mount_Mount.calls _ _ l0_0 _ _ l0_1 aJ bS bE bF bT bU bV _ (cb_ bO HB) bP.out (cb_ bQ HB) bR.out A2.out).mono ?_); rintro e w5 ⟨eB, eC, eD, rfl, ho0, ho1, ho2, hb⟩; refine ⟨_, rfl, ?_⟩; have aW := Zk (Kd.S_lower ho0 (below_size (bl_ HB))); have aZ := Zk (Kd.R_lower ho1 (below_size (bl_ HB))); have bA := Zk (Kd.R_lower ho2 (below_size (bl_ HB))); replace aB := ab_ aB hb; replace HB := al_ HB hb; (try clear hb); (try clear ho0); (try clear ho1); (try clear ho2)) | (refine gd_ 4 ?_; refine bx_ 4 #[.slice none 0 0, .int .i64 0, .slice none 0 0, .slice none 0 0, .int .i64 0, .int .i64 0] 34 ?_; intro bX hg w6 hbox hb; replace aW := Zk (Kd.S_below (s_ aW) hb); replace aZ := ar_ aZ hb; replace bA := ar_ bA hb; have aD := Zk (hbox); have dQ := gw_ HB hg; replace HB := al_ HB hb; have bB := n1_ aB hg; have bC := n2_ aB hg; replace aB := ab_ aB hb; clear hb hbox hg; obtain ⟨Ao7, co7, eo7⟩ := Kd.S_slice aW.out; subst eo7; obtain ⟨eE, eF⟩ := nn_ bC bB; obtain ⟨dB, dC, dD, dE, dF, dG, dH, dI, dJ, dK, dL, dM⟩ := cf6_ aD; obtain ⟨bY, bZ, dN⟩ := Kd.R_slice aZ.out; subst dN; obtain ⟨cA, cB, dO⟩ := Kd.R_slice bA.out; subst dO))
 go_loopg [6, 18] k (fun kq v6 v18 w' => ∃ (bD : Int) (aA : Int), v6 = .int .i64 bD ∧ v18 = .int .i64 aA ∧ Aside0 (mount_Check.l0 kq bV bD aJ (aJ.length : Int) aA = some (r1, r2)) ∧ Aside0 (kq ≤ k) ∧ Aside0 (Kd.S k65 65 w' w.heap.size (fun _ => True) (.slice Ao7 aJ.length co7) aJ) ∧ Aside0 (Kd.S k65 65 w' w.heap.size (fun _ => True) (.slice Ao7 aJ.length co7) aJ) ∧ Aside0 (Kd.R k122 122 w' w.heap.size (fun _ => True) (.slice bY bE.length bZ) bE) ∧ Aside0 (Kd.R kc 79 w' w.heap.size (fun _ => True) (.slice cA bF.length cB) bF) ∧ Aside0 (w'.heap[bW]? = some (.cells #[(.slice A0_0 l0_0.length c0_0), (.slice A0_1 l0_1.length c0_1)] 25 (0, 0))) ∧ Aside0 (w'.heap[bX]? = some (.cells #[(.slice Ao7 aJ.length co7), .int .i64 bS, (.slice bY bE.length bZ), (.slice cA bF.length cB), .int .i64 bT, .int .i64 bU] 34 (0, 0))) ∧ Aside0 (Below w.heap.size w w'))
 case atStart => exact ⟨(0), (0), q_, q_, H', ⟨Nat.le_refl _⟩, ⟨sg_ (Kd.S_types aW.out aD.out (by decide)) (fun _ hk => trivial)⟩, ⟨sg_ (Kd.S_types aW.out aD.out (by decide)) (fun _ hk => trivial)⟩, ⟨rg_ (Kd.R_types aZ.out aD.out (by decide)) (fun _ hk => trivial)⟩, ⟨rg_ (Kd.R_types bA.out aD.out (by decide)) (fun _ hk => trivial)⟩, ⟨bk_ aB⟩, ⟨bp_ aD⟩, ⟨bl_ HB⟩⟩
 case round =>
  clear H'
  obtain ⟨bD, aA, rfl, rfl, HA, HK1, aI, aE, aF, aG, aB, aD, HB⟩ := hrel
  cases gk with
  | zero => exact absurd HA.out (by simp [mount_Check.l0])
  | succ k1 =>
   have H := HA.out
   clear HA
   simp only [mount_Check.l0] at H
   by_cases c12 : aA < (aJ.length : Int)
   case neg =>
    rw [if_neg c12] at H
    have cC : decide (aA < (aJ.length : Int)) = false := decide_eq_false c12
    clear c12
    simp only [Option.some.injEq, Prod.mk.injEq] at H
    obtain ⟨rfl, rfl⟩ := H
    go_wp2
    go_ret2
    exact ⟨e_, bl_ HB⟩
   rw [if_pos c12] at H
   have cC := decide_eq_true c12
   clear c12
   by_cases c13 : 0 ≤ aA
   case neg => exact no_ c13 H
   rw [if_pos c13] at H
   have dR := decide_eq_true c13
   clear c13
   by_cases c14 : aA < (aJ.length : Int)
   case neg => exact no_ c14 H
   rw [if_pos c14] at H
   have dS := decide_eq_true c14
   clear c14
   by_cases c15 : ((rd_T65 aJ aA).f0) > 0
   case neg =>
    rw [if_neg c15] at H
    have cD : decide (0 < ((rd_T65 aJ aA).f0)) = false := decide_eq_false c15
    clear c15
    have H' := Zk H
    clear H
    have aT : 0 ≤ (aA : Int) := of_decide_eq_true as_
    have aU : aA < (aJ.length : Int) := of_decide_eq_true as_
    obtain ⟨cE, bL, bM, bN, bG, bH, bI, aV, hl222_3, hi222_3⟩ := at_T65 (Kd.S_reads' aI.out).2.2 aA aT aU
    cases bN
    obtain ⟨cF, aX, aY, aR⟩ := Kd.S_get aI.out z65 aA aT (by first | exact aU | exact of_decide_eq_true as_ | (have e_ := (Kd.S_reads' aI.out).1; omega))
    obtain ⟨bJ, rfl, aH⟩ := k65_openM aY
    have aC := aR 3 _ rfl
    rw [add_field _ _ 3 (by omega)] at aC
    replace aC := Option.some.inj (aC.symm.trans aV)
    rw [aC] at aH
    have aK := Zk (show Kd.R k84 84 _ _ _ _ ((rd_T65 aJ aA).f2.f1) from aH)
    clear aC aH
    clear aR aX
    have aL := Zk hi222_3
    have bK := Zk hl222_3
    clear hi222_3 hl222_3
    replace aT := eq_true aT
    replace aU := eq_true aU
    go_wp2_with (first | (refine gd_ 8 ?_; refine bx_ 8 #[.int .i64 0, .bool false, .bool false, .slice none 0 0] 65 ?_; intro aM hg w20 hbox hb; replace aI := Zk (Kd.S_below (Kd.S_elderB (s_ aI) aM (Nat.le_of_eq hg.symm)) hb); replace aE := Zk (Kd.S_below (Kd.S_elderB (s_ aE) aM (Nat.le_of_eq hg.symm)) hb); replace aF := ar_ aF hb; replace aG := ar_ aG hb; replace aK := ar_ aK hb; replace aL := Zk (Kd.C_below (c_ aL) hb); have aS := Zk (hbox); have cG := gw_ HB hg; replace HB := al_ HB hb; have aN := n1_ aB hg; have aO := n2_ aB hg; replace aB := ab_ aB hb; have aP := n1_ aD hg; have aQ := n2_ aD hg; replace aD := ab_ aD hb; clear hb hbox hg; obtain ⟨dT, dU⟩ := nn_ aO aN; obtain ⟨dV, dW⟩ := nn_ aQ aP; obtain ⟨cH, cI, cJ, cK, cL, cM, cN, cO⟩ := cf4_ aS))
    go_roundg k1
    case measure => have := HK1.out; omega
    case rel => exact ⟨(bD), (wrap64 (aA + 1)), q_, q_, H', ⟨by have := HK1.out; omega⟩, ⟨sg_ (Kd.S_mono aI.out (fun k_ hk => (⟨hk, hk.2⟩ : _ ∧ k_ ≠ aM))) (fun _ hk => trivial)⟩, ⟨sg_ (Kd.S_mono aE.out (fun k_ hk => (⟨hk, hk.2⟩ : _ ∧ k_ ≠ aM))) (fun _ hk => trivial)⟩, ⟨rg_ (Kd.R_types aF.out aS.out (by decide)) (fun _ hk => trivial)⟩, ⟨rg_ (Kd.R_types aG.out aS.out (by decide)) (fun _ hk => trivial)⟩, ⟨bk_ aB⟩, ⟨bk_ aD⟩, ⟨bl_ HB⟩⟩
   rw [if_pos c15] at H
   have cD : decide (0 < ((rd_T65 aJ aA).f0)) = true := decide_eq_true c15
   clear c15
   have H' := Zk H
   clear H
   have aT : 0 ≤ (aA : Int) := of_decide_eq_true as_
   have aU : aA < (aJ.length : Int) := of_decide_eq_true as_
   obtain ⟨cE, bL, bM, bN, bG, bH, bI, aV, hl222_3, hi222_3⟩ := at_T65 (Kd.S_reads' aI.out).2.2 aA aT aU
   cases bN
   obtain ⟨cF, aX, aY, aR⟩ := Kd.S_get aI.out z65 aA aT (by first | exact aU | exact of_decide_eq_true as_ | (have e_ := (Kd.S_reads' aI.out).1; omega))
   obtain ⟨bJ, rfl, aH⟩ := k65_openM aY
   have aC := aR 3 _ rfl
   rw [add_field _ _ 3 (by omega)] at aC
   replace aC := Option.some.inj (aC.symm.trans aV)
   rw [aC] at aH
   have aK := Zk (show Kd.R k84 84 _ _ _ _ ((rd_T65 aJ aA).f2.f1) from aH)
   clear aC aH
   clear aR aX
   have aL := Zk hi222_3
   have bK := Zk hl222_3
   clear hi222_3 hl222_3
   replace aT := eq_true aT
   replace aU := eq_true aU
   go_wp2_with (first | (refine gd_ 8 ?_; refine bx_ 8 #[.int .i64 0, .bool false, .bool false, .slice none 0 0] 65 ?_; intro aM hg w16 hbox hb; replace aI := Zk (Kd.S_below (Kd.S_elderB (s_ aI) aM (Nat.le_of_eq hg.symm)) hb); replace aE := Zk (Kd.S_below (Kd.S_elderB (s_ aE) aM (Nat.le_of_eq hg.symm)) hb); replace aF := ar_ aF hb; replace aG := ar_ aG hb; replace aK := ar_ aK hb; replace aL := Zk (Kd.C_below (c_ aL) hb); have aS := Zk (hbox); have cG := gw_ HB hg; replace HB := al_ HB hb; have aN := n1_ aB hg; have aO := n2_ aB hg; replace aB := ab_ aB hb; have aP := n1_ aD hg; have aQ := n2_ aD hg; replace aD := ab_ aD hb; clear hb hbox hg; obtain ⟨dX, dY⟩ := nn_ aO aN; obtain ⟨dZ, eA⟩ := nn_ aQ aP; obtain ⟨cP, cQ, cR, cS, cT, cU, cV, cW⟩ := cf4_ aS))
   go_roundg k1
   case measure => have := HK1.out; omega
   case rel => exact ⟨(wrap64 (bD + 1)), (wrap64 (aA + 1)), q_, q_, H', ⟨by have := HK1.out; omega⟩, ⟨sg_ (Kd.S_mono aI.out (fun k_ hk => (⟨hk, hk.2⟩ : _ ∧ k_ ≠ aM))) (fun _ hk => trivial)⟩, ⟨sg_ (Kd.S_mono aE.out (fun k_ hk => (⟨hk, hk.2⟩ : _ ∧ k_ ≠ aM))) (fun _ hk => trivial)⟩, ⟨rg_ (Kd.R_types aF.out aS.out (by decide)) (fun _ hk => trivial)⟩, ⟨rg_ (Kd.R_types aG.out aS.out (by decide)) (fun _ hk => trivial)⟩, ⟨bk_ aB⟩, ⟨bk_ aD⟩, ⟨bl_ HB⟩⟩
end
def zs : ByteArray := strOfNums (List.replicate 40 0)
theorem zs_open : isSealed (bytesOf zs) = false := by decide +kernel
theorem no_open : isSealed (bytesOf ByteArray.empty) = false := by decide +kernel
theorem parse_not {b : ByteArray} (h : isSealed (bytesOf b) = false) : slot_Parse.f b = some (0, 0, 0, 2) := by
 have ho : num_Open.f b = some ([], 2) := by unfold num_Open.f; rw [h]; rfl
 obtain ⟨p, hp⟩ := prefix_any b
 unfold slot_Parse.f
 rw [ho, Option.bind_some, hp, Option.bind_some, if_neg (by simp)]
theorem new_loop (n : Nat) (hn : n ≤ 135) (z : ByteArray) : ∀ (d k j : Nat), n = j + d → d < k → assartref02_New.l0 k (n : Int) z (j : Int) (List.replicate j z) = some (List.replicate n z, [], 0) := by
 intro d
 induction d with
 | zero =>
  intro k j hj hk
  obtain ⟨k, rfl⟩ : ∃ k', k = k' + 1 := ⟨k - 1, by omega⟩
  obtain rfl : n = j := hj
  rw [assartref02_New.l0, if_neg (by omega)]
 | succ d ih =>
  intro k j hj hk
  obtain ⟨k, rfl⟩ : ∃ k', k = k' + 1 := ⟨k - 1, by omega⟩
  rw [assartref02_New.l0, if_pos (by omega), if_pos (by rw [List.length_replicate]; omega), show wrap64 ((j : Int) + 1) = ((j + 1 : Nat) : Int) from by rw [w64 (by omega) (by omega)]; push_cast; rfl]
  rw [show List.replicate j z ++ [z] = List.replicate (j + 1) z from (List.replicate_succ' ..).symm]
  exact ih k (j + 1) (by omega) (by omega)
theorem new_val (n : Nat) (h1 : 1 ≤ n) (hn : n ≤ 135) : assartref02_New.f 100000 (n : Int) = some (List.replicate n zs, [], 0) := by
 have key : ∀ K, 200 ≤ K → assartref02_New.f K (n : Int) = some (List.replicate n zs, [], 0) := fun K hK => by
  unfold assartref02_New.f
  obtain ⟨K, rfl⟩ : ∃ k', K = k' + 1 := ⟨K - 1, by omega⟩
  rw [if_neg (by omega), assartref02_New.j0, if_neg (by simp; omega), if_pos (by omega)]
  exact new_loop n hn zs n K 0 (by omega) (by omega)
 exact key 100000 (by decide)
theorem new_read (n : Nat) (i : Int) : (readB (List.replicate n zs) [] i).1 = zs ∨ (readB (List.replicate n zs) [] i).1 = ByteArray.empty := by
 unfold readB
 by_cases h : i < 0 ∨ ((List.replicate n zs).length : Int) ≤ i
 case pos => rw [if_pos h]; right; rfl
 rw [if_neg h]
 left
 show rdOf ByteArray.empty (List.replicate n zs) i = zs
 rw [List.length_replicate] at h
 unfold rdOf
 rw [List.getD_eq_getElem?_getD, List.getElem?_replicate, if_pos (by omega)]
 rfl
theorem new_parse (n : Nat) (i : Int) : slot_Parse.f (readB (List.replicate n zs) [] i).1 = some (0, 0, 0, 2) := by
 rcases new_read n i with h | h
 ·rw [h]; exact parse_not zs_open
 ·rw [h]; exact parse_not no_open
theorem new_super (n : Nat) : mount_Super.f 100000 (List.replicate n zs) [] = some (0, 0, 0, 4) := by
 have key : ∀ K, mount_Super.f (K + 1) (List.replicate n zs) [] = some (0, 0, 0, 4) := fun K => by
  unfold mount_Super.f
  have hd : ∀ i, disk_Read.f (List.replicate n zs) [] i = some (readB (List.replicate n zs) [] i) := fun i => by unfold disk_Read.f; rw [if_pos (by simp)]
  rw [hd, hd]
  simp only [Option.bind_some]
  rw [pick_val K (new_parse n 0) (new_parse n 1)]
  rfl
 exact key 99999
theorem new_mount (n : Nat) (hn : n ≤ 135) : mount_Mount.f (List.replicate n zs) [] = some (badM 4) := by
 unfold mount_Mount.f
 rw [if_pos ⟨by rw [List.length_replicate]; omega, by simp⟩, new_super, Option.bind_some, if_neg (by decide)]
theorem new_check (n : Nat) (hn : n ≤ 135) : mount_Check.f 100000 (List.replicate n zs) [] = some (0, 4) := by
 have key : ∀ K, mount_Check.f (K + 1) (List.replicate n zs) [] = some (0, 4) := fun K => by
  unfold mount_Check.f
  rw [new_mount n hn, Option.bind_some, mount_Check.l0, if_neg (by simp [badM])]
  rfl
 exact key 99999
section
section
variable {a0 b0 : List ByteArray} {a1 b1 : List S98}
theorem read_congr (h1 : a1.length < 1000000) (h2 : b1.length < 1000000) (hr : ∀ i, readB a0 a1 i = readB b0 b1 i) (i : Int) : disk_Read.f a0 a1 i = disk_Read.f b0 b1 i := by
 unfold disk_Read.f
 rw [if_pos h1, if_pos h2, hr]
theorem super_congr (hl : a0.length = b0.length) (h1 : a1.length < 1000000) (h2 : b1.length < 1000000) (hr : ∀ i, readB a0 a1 i = readB b0 b1 i) (k : Nat) : mount_Super.f k a0 a1 = mount_Super.f k b0 b1 := by
 unfold mount_Super.f
 rw [read_congr h1 h2 hr, read_congr h1 h2 hr, hl]
theorem text_congr (hr : ∀ i, readB a0 a1 i = readB b0 b1 i) (size : Int) : ∀ (k : Nat) (b : List Int) (i : Int), textF a0 a1 size k b i = textF b0 b1 size k b i
 | 0, b, i => rfl
 | k + 1, b, i => by
  rw [textF, textF, hr]
  simp only [text_congr hr size k]
theorem mtext_congr (h1 : a1.length < 1000000) (h2 : b1.length < 1000000) (hr : ∀ i, readB a0 a1 i = readB b0 b1 i) (p q : Int) : mount_text.f a0 a1 p q = mount_text.f b0 b1 p q := by
 unfold mount_text.f
 simp only [h1, h2, text_congr hr]
theorem node_congr (hr : ∀ i, readB a0 a1 i = readB b0 b1 i) (n i : Nat) : nodeN a0 a1 n i = nodeN b0 b1 n i := by
 unfold nodeN; rw [hr]
theorem cells_congr (hr : ∀ i, readB a0 a1 i = readB b0 b1 i) (refs : List Int) : cellsM a0 a1 refs = cellsM b0 b1 refs := by
 unfold cellsM
 simp only [node_congr hr]
theorem mountB_congr (hr : ∀ i, readB a0 a1 i = readB b0 b1 i) (gen sum : Int) (n : Nat) (b : List Int) : mountB a0 a1 gen sum n b = mountB b0 b1 gen sum n b := by
 unfold mountB
 simp only [hr, cells_congr hr]
theorem mount_congr (hl : a0.length = b0.length) (h1 : a1.length < 1000000) (h2 : b1.length < 1000000) (hr : ∀ i, readB a0 a1 i = readB b0 b1 i) : mount_Mount.f a0 a1 = mount_Mount.f b0 b1 := by
 unfold mount_Mount.f
 rw [super_congr hl h1 h2 hr, hl]
 simp only [h1, h2, mtext_congr h1 h2 hr, mountB_congr hr]
end
theorem mount_flush (bs : List ByteArray) (ws : List S98) (hw : ws.length < 1000000) (hin : inW bs.length ws) : mount_Mount.f (applyW bs ws) [] = mount_Mount.f bs ws :=
 mount_congr (applyW_len ws bs) (by simp) hw (fun i => flush_read bs ws hin i)
theorem super_flush (bs : List ByteArray) (ws : List S98) (hw : ws.length < 1000000) (hin : inW bs.length ws) (k : Nat) : mount_Super.f k (applyW bs ws) [] = mount_Super.f k bs ws :=
 super_congr (applyW_len ws bs) (by simp) hw (fun i => flush_read bs ws hin i) k
end
section
attribute [local go_sem] max2_int min2_int max_two min_two max_three min_three max_four min_four
def assartref05_New.f (a0 : Int) (a1 : Int) : Option ((List (S65)) × Int × Int) := if a0 < 1 then (none) else (if a0 > 2000 then (none) else (if a1 < 0 then (none) else (if a1 > a0 then (none) else (if 0 ≤ a0 then (if (a0 : Int).toNat ≤ 5864062014805 then (some ((List.replicate (a0 : Int).toNat z65), a1, 0)) else (none)) else (none)))))
theorem assartref05_New.calls (a0 : Int) (a1 : Int) (r1 : List (S65)) (r2 : Int) (r3 : Int) (w : World) (h : assartref05_New.f a0 a1 = some (r1, r2, r3)) :
  Calls Tryz.prog 76 #[.int .i64 a0, .int .i64 a1] w fun e w' => ∃ v0_ : Value, e = .returned (.tuple #[.agg #[v0_, .int .i64 r2], .int .i64 r3]) ∧ Kd.S k65 65 w' w.heap.size (fun _ => True) v0_ r1 ∧ Below w.heap.size w w' := by
 have hu30 := Tryz.underlying30
 have HB := Zk (Below.refl w.heap.size w)
 have H : (if a0 < 1 then (none) else (if a0 > 2000 then (none) else (if a1 < 0 then (none) else (if a1 > a0 then (none) else (if 0 ≤ a0 then (if (a0 : Int).toNat ≤ 5864062014805 then (some ((List.replicate (a0 : Int).toNat z65), a1, 0)) else (none)) else (none)))))) = some (r1, r2, r3) := h
 clear h
 by_cases c3 : a0 < 1
 case pos =>
  rw [if_pos c3] at H
  exact absurd H (by simp)
 rw [if_neg c3] at H
 have aO := decide_eq_false c3
 clear c3
 by_cases c4 : a0 > 2000
 case pos =>
  rw [if_pos c4] at H
  exact absurd H (by simp)
 rw [if_neg c4] at H
 have aP : decide (2000 < a0) = false := decide_eq_false c4
 clear c4
 by_cases c5 : a1 < 0
 case pos =>
  rw [if_pos c5] at H
  exact absurd H (by simp)
 rw [if_neg c5] at H
 have aQ := decide_eq_false c5
 clear c5
 by_cases c6 : a1 > a0
 case pos =>
  rw [if_pos c6] at H
  exact absurd H (by simp)
 rw [if_neg c6] at H
 have aR : decide (a0 < a1) = false := decide_eq_false c6
 clear c6
 by_cases c7 : 0 ≤ a0
 case neg => exact no_ c7 H
 rw [if_pos c7] at H
 have aS := eq_true c7
 have aT := decide_eq_true c7
 clear c7
 by_cases c8 : (a0 : Int).toNat ≤ 5864062014805
 case neg => exact no_ c8 H
 rw [if_pos c8] at H
 have aU := eq_true c8
 have aV := decide_eq_true c8
 clear c8
 obtain ⟨aF, aB⟩ : ∃ y_ : List (S65), y_ = (List.replicate (a0 : Int).toNat z65) := ⟨_, rfl⟩
 first | replace H := bnd_ aB H | rw [← aB] at H
 have aD := Zk aB
 clear aB
 simp only [Option.some.injEq, Prod.mk.injEq] at H
 obtain ⟨rfl, rfl, rfl⟩ := H
 go_enter Tryz.func76, Tryz.ntmps76
 go_wp2_with (first | (refine gd_ 4 ?_; refine bx_ 4 #[.slice none 0 0, .int .i64 0] 30 ?_; intro aC hg w9 hbox hb; have aA := Zk (hbox); have aN := gw_ HB hg; replace HB := al_ HB hb; clear hb hbox hg) | (refine gd_ 23 ?_; refine Kd.S_make k65 _ 65 rfl (N := 23) rfl 28 _ _ rfl a0 rfl rfl Tryz.underlying28 (.agg #[(.int .i64 0), (.bool false), (.bool false), (.slice none 0 0)]) 48 info65 rfl (by decide) (by omega) z65 (ok := fun _ => True) (okp := fun _ => True) (k65_mkM _ _ _ z65 (Kd.R_nil _ _ _ _ _)) (fun _ hk => hk) trivial (of_decide_eq_true as_) (Nat.le_trans (Nat.mul_le_mul_right _ (of_decide_eq_true as_ : a0.toNat ≤ 5864062014805)) (by omega)) (Below.refl _ _) (Nat.le_refl _) ?_; intro aW w10 ho11 hb hg_ hnew_; clear hg_ hnew_; (first | rw [← aD.out] at ho11 | (simp only [Int.reduceToNat] at ho11; rw [← aD.out] at ho11)); have aE := Zk (Kd.S_lower ho11 (below_size (bl_ HB))); replace aA := ab_ aA hb; replace HB := al_ HB hb; clear hb ho11; obtain ⟨aG, aH, aM⟩ := Kd.S_slice aE.out; subst aM; obtain ⟨aI, aJ, aK, aL⟩ := cf2_ aA))
 refine bodyPost_ret (results_ct rfl _ _ aC 30 #[.slice aG aF.length aH, .int .i64 a1] (0, 0) _ rfl (bp_ aA) Tryz.underlying30 rfl (by kernel_rfl)) rfl ?_
 exact ⟨_, e_, by (with_reducible repeat (first | apply Kd.S_alloc | apply Kd.S_drewN | apply Kd.S_drew)); exact Kd.S_mono (Kd.S_far (p := ⟨aC, 1, none⟩) (Kd.S_far (p := ⟨aC, 0, none⟩) (Kd.S_types aE.out aA.out (by decide)) (fun _ hk => hk.2) (.slice aG aF.length aH)) (fun _ hk => hk.2) (.int .i64 a1)) (fun _ hk => trivial), bl_ HB⟩
end
section
attribute [local go_sem] max2_int min2_int max_two min_two max_three min_three max_four min_four
def assartref12_New.f (a0 : Int) (a1 : Int) : Option ((List (S65)) × Int × (List (S122)) × List (Nat × Nat) × Int × Int × Int) := (assartref05_New.f a0 a1).bind fun bt258 => (if bt258.2.2 = 0 then (some (bt258.1, bt258.2.1, ([] : List (S122)), ([] : List (Nat × Nat)), 1, 0, 0)) else (none))
theorem assartref12_New.calls (a0 : Int) (a1 : Int) (r1 : List (S65)) (r2 : Int) (r3 : List (S122)) (r4 : List (Nat × Nat)) (r5 : Int) (r6 : Int) (r7 : Int) (w : World) (h : assartref12_New.f a0 a1 = some (r1, r2, r3, r4, r5, r6, r7)) :
  Calls Tryz.prog 43 #[.int .i64 a0, .int .i64 a1] w fun e w' => ∃ v0_ v2_ v3_ : Value, e = .returned (.tuple #[.agg #[v0_, .int .i64 r2, v2_, v3_, .int .i64 r5, .int .i64 r6], .int .i64 r7]) ∧ Kd.S k65 65 w' w.heap.size (fun _ => True) v0_ r1 ∧ Kd.R k122 122 w' w.heap.size (fun _ => True) v2_ r3 ∧ Kd.R kc 79 w' w.heap.size (fun _ => True) v3_ r4 ∧ Below w.heap.size w w' := by
 have hu34 := Tryz.underlying34
 have hu30 := Tryz.underlying30
 have HB := Zk (Below.refl w.heap.size w)
 have H : ((assartref05_New.f a0 a1).bind fun bt258 => (if bt258.2.2 = 0 then (some (bt258.1, bt258.2.1, ([] : List (S122)), ([] : List (Nat × Nat)), 1, 0, 0)) else (none))) = some (r1, r2, r3, r4, r5, r6, r7) := h
 clear h
 replace H := Option.bind_eq_some_iff.mp H
 obtain ⟨⟨aF, aG, aJ⟩, A30, H⟩ := H
 (try dsimp only at H)
 have A3 := Zk A30
 clear A30
 by_cases c4 : aJ = 0
 case neg => exact no_ c4 H
 rw [if_pos c4] at H
 have bC := beq_iff_eq.mpr c4
 have bD := bne_eq_false_iff_eq.mpr c4
 clear c4
 simp only [Option.some.injEq, Prod.mk.injEq] at H
 obtain ⟨rfl, rfl, rfl, rfl, rfl, rfl, rfl⟩ := H
 go_enter Tryz.func43, Tryz.ntmps43
 go_wp2_with (first | (refine gd_ 4 ?_; refine bx_ 4 #[.slice none 0 0, .int .i64 0, .slice none 0 0, .slice none 0 0, .int .i64 0, .int .i64 0] 34 ?_; intro aB hg w5 hbox hb; have aA := Zk (hbox); have bA := gw_ HB hg; replace HB := al_ HB hb; clear hb hbox hg) | (refine gc_ 76 ?_; refine gl_ 76 (some 11) #[.int .i64 a0, .int .i64 a1] Tryz.func76 ?_; (with_reducible refine (assartref05_New.calls a0 a1 aF aG aJ _ A3.out).mono ?_); rintro e w6 ⟨bE, rfl, ho0, hb⟩; refine ⟨_, rfl, ?_⟩; have aC := Zk (Kd.S_lower ho0 (below_size (bl_ HB))); replace aA := ab_ aA hb; replace HB := al_ HB hb; (try clear hb); (try clear ho0)) | (refine gd_ 6 ?_; refine bx_ 6 #[.slice none 0 0, .int .i64 0] 30 ?_; intro aH hg w7 hbox hb; replace aC := Zk (Kd.S_below (s_ aC) hb); have aI := Zk (hbox); have bB := gw_ HB hg; replace HB := al_ HB hb; have aD := n1_ aA hg; have aE := n2_ aA hg; replace aA := ab_ aA hb; clear hb hbox hg; obtain ⟨Ao8, co8, eo8⟩ := Kd.S_slice aC.out; subst eo8; obtain ⟨bF, bG⟩ := nn_ aE aD; obtain ⟨aK, aL, aM, aN⟩ := cf2_ aI; obtain ⟨aO, aP, aQ, aR, aS, aT, aU, aV, aW, aX, aY, aZ⟩ := cf6_ aA))
 refine bodyPost_ret (results_ct rfl _ _ aB 34 #[.slice Ao8 aF.length co8, .int .i64 aG, .slice none 0 0, .slice none 0 0, .int .i64 1, .int .i64 0] (0, 0) _ rfl (bp_ aA) Tryz.underlying34 rfl (by kernel_rfl)) rfl ?_
 exact ⟨_, _, _, e_, by (with_reducible repeat (first | apply Kd.S_alloc | apply Kd.S_drewN | apply Kd.S_drew)); exact Kd.S_mono (Kd.S_far (p := ⟨aB, 5, none⟩) (Kd.S_far (p := ⟨aB, 4, none⟩) (Kd.S_far (p := ⟨aB, 3, none⟩) (Kd.S_far (p := ⟨aB, 2, none⟩) (Kd.S_far (p := ⟨aB, 1, none⟩) (Kd.S_far (p := ⟨aB, 0, none⟩) (Kd.S_far (p := ⟨aH, 1, none⟩) (Kd.S_far (p := ⟨aH, 0, none⟩) (Kd.S_types (Kd.S_types aC.out aI.out (by decide)) aA.out (by decide)) (fun _ hk => hk.1.2) (.slice Ao8 aF.length co8)) (fun _ hk => hk.1.2) (.int .i64 aG)) (fun _ hk => hk.2) (.slice Ao8 aF.length co8)) (fun _ hk => hk.2) (.int .i64 aG)) (fun _ hk => hk.2) (.slice none 0 0)) (fun _ hk => hk.2) (.slice none 0 0)) (fun _ hk => hk.2) (.int .i64 1)) (fun _ hk => hk.2) (.int .i64 0)) (fun _ hk => trivial), by first | exact Kd.R_nil _ _ _ _ _ | exact Kd.N_nil _ _ _ _ _ | exact Kd.V_nil _ _ _ _ _ | exact Kd.Q_nil _ _ _ _ _ | exact Kd.S_nil _ _ _ _ _, by first | exact Kd.R_nil _ _ _ _ _ | exact Kd.N_nil _ _ _ _ _ | exact Kd.V_nil _ _ _ _ _ | exact Kd.Q_nil _ _ _ _ _ | exact Kd.S_nil _ _ _ _ _, bl_ HB⟩
end
section
attribute [local go_sem] max2_int min2_int max_two min_two max_three min_three max_four min_four
def assartref14_Area.l0 : Nat → Int → Int → Option (Int)
 | 0, _, _ => none
 | k + 1, x0, x3 => if (wrap64 (40 * x3)) < (wrap64 (1631 + (wrap64 (2 * x0)))) then (assartref14_Area.l0 k x0 (wrap64 (x3 + 1))) else (some x3)
def assartref14_Area.f (k : Nat) (a0 : Int) : Option (Int) := assartref14_Area.l0 k a0 0
theorem assartref14_Area.calls (k : Nat) (a0 : Int) (r : Int) (w : World) (h : assartref14_Area.f k a0 = some r) :
  Calls Tryz.prog 94 #[.int .i64 a0] w fun e w' => e = .returned (.int .i64 r) ∧ Drawn0 w w' := by
 have H : (assartref14_Area.l0 k a0 0) = some r := h
 clear h
 have H' := Zk H
 clear H
 go_enter Tryz.func94, Tryz.ntmps94
 go_wp2
 go_loopg [3] k (fun kq v3 w' => ∃ (aA : Int), v3 = .int .i64 aA ∧ Aside0 (assartref14_Area.l0 kq a0 aA = some r) ∧ Aside0 (kq ≤ k) ∧ Drawn0 w w')
 case atStart => exact ⟨(0), q_, H', ⟨Nat.le_refl _⟩, by repeat (first | exact Drawn0.refl _ | apply Drawn0.step)⟩
 case round =>
  clear H'
  obtain ⟨aA, rfl, HA, HK1, ⟨m1, rfl⟩⟩ := hrel
  cases gk with
  | zero => exact absurd HA.out (by simp [assartref14_Area.l0])
  | succ k1 =>
   have H := HA.out
   clear HA
   simp only [assartref14_Area.l0] at H
   by_cases c2 : (wrap64 (40 * aA)) < (wrap64 (1631 + (wrap64 (2 * a0))))
   case neg =>
    rw [if_neg c2] at H
    have aB := decide_eq_false c2
    clear c2
    obtain rfl := Option.some.inj H
    go_wp2
    go_ret
    exact ⟨q_, by repeat (first | exact Drawn0.refl _ | apply Drawn0.step)⟩
   rw [if_pos c2] at H
   have aB := decide_eq_true c2
   clear c2
   have H' := Zk H
   clear H
   go_wp2
   go_roundg k1
   case measure => have := HK1.out; omega
   case rel => exact ⟨(wrap64 (aA + 1)), q_, H', ⟨by have := HK1.out; omega⟩, by repeat (first | exact Drawn0.refl _ | apply Drawn0.step)⟩
end
section
attribute [local go_sem] max2_int min2_int max_two min_two max_three min_three max_four min_four
def assartref14_Base.f (k : Nat) (a0 : Int) : Option (Int) := (assartref14_Area.f k a0).bind fun aA => (some (wrap64 (2 + (wrap64 (2 * aA)))))
theorem assartref14_Base.calls (k : Nat) (a0 : Int) (r : Int) (w : World) (h : assartref14_Base.f k a0 = some r) :
  Calls Tryz.prog 77 #[.int .i64 a0] w fun e w' => e = .returned (.int .i64 r) ∧ Drawn0 w w' := by
 have H : ((assartref14_Area.f k a0).bind fun aA => (some (wrap64 (2 + (wrap64 (2 * aA)))))) = some r := h
 clear h
 replace H := Option.bind_eq_some_iff.mp H
 obtain ⟨aA, A20, H⟩ := H
 (try dsimp only at H)
 have A2 := Zk A20
 clear A20
 obtain rfl := Option.some.inj H
 go_enter Tryz.func77, Tryz.ntmps77
 go_wp2_with (first | (refine gc_ 94 ?_; refine gl_ 94 (some 4) #[.int .i64 a0] Tryz.func94 ?_; (with_reducible refine (assartref14_Area.calls k a0 aA _ A2.out).mono ?_); rintro e w' ⟨rfl, ⟨nd, rfl⟩⟩; refine ⟨_, rfl, ?_⟩))
 go_ret
 exact ⟨q_, by repeat (first | exact Drawn0.refl _ | apply Drawn0.step)⟩
end
section
attribute [local go_sem] max2_int min2_int max_two min_two max_three min_three max_four min_four
def assartref14_Cells.l0 : Nat → Int → Int → Option (Int)
 | 0, _, _ => none
 | k + 1, x0, x3 => if x3 < 2000 then ((assartref14_Base.f k (wrap64 (x3 + 1))).bind fun aA => (if (wrap64 ((wrap64 (aA + x3)) + 1)) ≤ x0 then (assartref14_Cells.l0 k x0 (wrap64 (x3 + 1))) else (some x3))) else (some x3)
def assartref14_Cells.f (k : Nat) (a0 : Int) : Option (Int) := assartref14_Cells.l0 k a0 0
theorem assartref14_Cells.calls (k : Nat) (a0 : Int) (r : Int) (w : World) (h : assartref14_Cells.f k a0 = some r) :
  Calls Tryz.prog 44 #[.int .i64 a0] w fun e w' => e = .returned (.int .i64 r) ∧ Drawn0 w w' := by
 have H : (assartref14_Cells.l0 k a0 0) = some r := h
 clear h
 have H' := Zk H
 clear H
 go_enter Tryz.func44, Tryz.ntmps44
 go_wp2
 go_loopg [3] k (fun kq v3 w' => ∃ (aA : Int), v3 = .int .i64 aA ∧ Aside0 (assartref14_Cells.l0 kq a0 aA = some r) ∧ Aside0 (kq ≤ k) ∧ Drawn0 w w')
 case atStart => exact ⟨(0), q_, H', ⟨Nat.le_refl _⟩, by repeat (first | exact Drawn0.refl _ | apply Drawn0.step)⟩
 case round =>
  clear H'
  obtain ⟨aA, rfl, HA, HK1, ⟨m1, rfl⟩⟩ := hrel
  cases gk with
  | zero => exact absurd HA.out (by simp [assartref14_Cells.l0])
  | succ k1 =>
   have H := HA.out
   clear HA
   simp only [assartref14_Cells.l0] at H
   by_cases c2 : aA < 2000
   case neg =>
    rw [if_neg c2] at H
    have aC := decide_eq_false c2
    clear c2
    obtain rfl := Option.some.inj H
    go_wp2
    go_ret
    exact ⟨q_, by repeat (first | exact Drawn0.refl _ | apply Drawn0.step)⟩
   rw [if_pos c2] at H
   have aC := decide_eq_true c2
   clear c2
   replace H := Option.bind_eq_some_iff.mp H
   obtain ⟨aB, A30, H⟩ := H
   (try dsimp only at H)
   have A3 := Zk A30
   clear A30
   by_cases c4 : (wrap64 ((wrap64 (aB + aA)) + 1)) ≤ a0
   case neg =>
    rw [if_neg c4] at H
    have aD := decide_eq_false c4
    clear c4
    obtain rfl := Option.some.inj H
    go_wp2_with (first | (go_at_call 77; (with_reducible refine (assartref14_Base.calls k1 (wrap64 (aA + 1)) aB _ A3.out).mono ?_); rintro e w' ⟨rfl, ⟨nd, rfl⟩⟩))
    go_ret
    exact ⟨q_, by repeat (first | exact Drawn0.refl _ | apply Drawn0.step)⟩
   rw [if_pos c4] at H
   have aD := decide_eq_true c4
   clear c4
   have H' := Zk H
   clear H
   go_wp2_with (first | (go_at_call 77; (with_reducible refine (assartref14_Base.calls k1 (wrap64 (aA + 1)) aB _ A3.out).mono ?_); rintro e w' ⟨rfl, ⟨nd, rfl⟩⟩))
   go_roundg k1
   case measure => have := HK1.out; omega
   case rel => exact ⟨(wrap64 (aA + 1)), q_, H', ⟨by have := HK1.out; omega⟩, by repeat (first | exact Drawn0.refl _ | apply Drawn0.step)⟩
end
section
attribute [local go_sem] max2_int min2_int max_two min_two max_three min_three max_four min_four
def assartref03_Right.f (a0_0 : Int) (a0_1 : Int) (a0_2 : Int) : Option (Bool) := if a0_0 ≥ 1 then (if a0_0 ≤ 2147483647 then (if a0_1 ≥ 0 then (if a0_1 ≤ 2147483647 then (if a0_2 ≥ 0 then (some (decide (a0_2 ≤ 4294967295))) else (none)) else (none)) else (none)) else (none)) else (none)
theorem assartref03_Right.calls (a0_0 : Int) (a0_1 : Int) (a0_2 : Int) (r : Bool) (w : World) (h : assartref03_Right.f a0_0 a0_1 a0_2 = some r) :
  Calls Tryz.prog 119 #[.agg #[.int .i64 a0_0, .int .i64 a0_1, .int .i64 a0_2]] w fun e w' => e = .returned (.bool r) ∧ Below w.heap.size w w' := by
 have hu40 := Tryz.underlying40
 have HB := Zk (Below.refl w.heap.size w)
 have H : (if a0_0 ≥ 1 then (if a0_0 ≤ 2147483647 then (if a0_1 ≥ 0 then (if a0_1 ≤ 2147483647 then (if a0_2 ≥ 0 then (some (decide (a0_2 ≤ 4294967295))) else (none)) else (none)) else (none)) else (none)) else (none)) = some r := h
 clear h
 by_cases c2 : a0_0 ≥ 1
 case neg => exact no_ c2 H
 rw [if_pos c2] at H
 have aJ : decide (1 ≤ a0_0) = true := decide_eq_true c2
 clear c2
 by_cases c3 : a0_0 ≤ 2147483647
 case neg => exact no_ c3 H
 rw [if_pos c3] at H
 have aK := decide_eq_true c3
 clear c3
 by_cases c4 : a0_1 ≥ 0
 case neg => exact no_ c4 H
 rw [if_pos c4] at H
 have aL : decide (0 ≤ a0_1) = true := decide_eq_true c4
 clear c4
 by_cases c5 : a0_1 ≤ 2147483647
 case neg => exact no_ c5 H
 rw [if_pos c5] at H
 have aM := decide_eq_true c5
 clear c5
 by_cases c6 : a0_2 ≥ 0
 case neg => exact no_ c6 H
 rw [if_pos c6] at H
 have aN : decide (0 ≤ a0_2) = true := decide_eq_true c6
 clear c6
 obtain rfl := Option.some.inj H
 go_enter Tryz.func119, Tryz.ntmps119
 go_wp2_with (first | (refine gd_ 1 ?_; refine bx_ 1 #[.int .i64 a0_0, .int .i64 a0_1, .int .i64 a0_2] 40 ?_; intro aH hg w7 hbox hb; have aA := Zk (hbox); have aI := gw_ HB hg; replace HB := al_ HB hb; clear hb hbox hg; obtain ⟨aB, aC, aD, aE, aF, aG⟩ := cf3_ aA))
 go_ret
 exact ⟨e_, bl_ HB⟩
end
section
attribute [local go_sem] max2_int min2_int max_two min_two max_three min_three max_four min_four
def assartref03_Print.f (k : Nat) (a0_0 : Int) (a0_1 : Int) (a0_2 : Int) : Option (ByteArray × Int) := (assartref03_Right.f a0_0 a0_1 a0_2).bind fun aG => (if aG = true then ((some (([97, 115] : List Int) : List Int)).bind fun aA => ((assartref01_Put.f k a0_0 4).bind fun aB => (if aA.length + aB.length < 140737488355328 then ((some (aA ++ aB : List Int)).bind fun aC => ((assartref01_Put.f k a0_1 4).bind fun aD => (if aC.length + aD.length < 140737488355328 then ((some (aC ++ aD : List Int)).bind fun aE => ((assartref01_Put.f k a0_2 4).bind fun aF => (if aE.length + aF.length < 140737488355328 then ((assartref01_Seal.f k (aE ++ aF)).bind fun bt403 => (some (bt403.1, bt403.2))) else (none)))) else (none)))) else (none)))) else (none))
theorem assartref03_Print.calls (k : Nat) (a0_0 : Int) (a0_1 : Int) (a0_2 : Int) (r1 : ByteArray) (r2 : Int) (w : World) (h : assartref03_Print.f k a0_0 a0_1 a0_2 = some (r1, r2)) :
  Calls Tryz.prog 100 #[.agg #[.int .i64 a0_0, .int .i64 a0_1, .int .i64 a0_2]] w fun e w' => e = .returned (.tuple #[.string r1, .int .i64 r2]) ∧ Below w.heap.size w w' := by
 have hu40 := Tryz.underlying40
 have HB := Zk (Below.refl w.heap.size w)
 have H : ((assartref03_Right.f a0_0 a0_1 a0_2).bind fun bE => (if bE = true then ((some (([97, 115] : List Int) : List Int)).bind fun aV => ((assartref01_Put.f k a0_0 4).bind fun aE => (if aV.length + aE.length < 140737488355328 then ((some (aV ++ aE : List Int)).bind fun aW => ((assartref01_Put.f k a0_1 4).bind fun aG => (if aW.length + aG.length < 140737488355328 then ((some (aW ++ aG : List Int)).bind fun aX => ((assartref01_Put.f k a0_2 4).bind fun aI => (if aX.length + aI.length < 140737488355328 then ((assartref01_Seal.f k (aX ++ aI)).bind fun bt403 => (some (bt403.1, bt403.2))) else (none)))) else (none)))) else (none)))) else (none))) = some (r1, r2) := h
 clear h
 replace H := Option.bind_eq_some_iff.mp H
 obtain ⟨bE, A20, H⟩ := H
 (try dsimp only at H)
 have A2 := Zk A20
 clear A20
 by_cases c3 : bE = true
 case neg =>
  replace c3 := Bool.eq_false_iff.mpr c3
  subst c3
  rw [if_neg (show ¬ (false = true) by decide)] at H
  exact absurd H (by simp)
 subst c3
 rw [if_pos rfl] at H
 obtain ⟨aV, aP⟩ : ∃ y_ : List Int, y_ = (([97, 115] : List Int)) := ⟨_, rfl⟩
 first | replace H := bnd_ aP H | rw [← aP] at H
 have bD := Zk aP
 clear aP
 replace H := Option.bind_eq_some_iff.mp H
 obtain ⟨aE, A40, H⟩ := H
 (try dsimp only at H)
 have A4 := Zk A40
 clear A40
 by_cases c5 : aV.length + aE.length < 140737488355328
 case neg => exact no_ c5 H
 rw [if_pos c5] at H
 have LMc5 := Zk c5
 clear c5
 obtain ⟨aW, aQ⟩ : ∃ y_ : List Int, y_ = (aV ++ aE) := ⟨_, rfl⟩
 first | replace H := bnd_ aQ H | rw [← aQ] at H
 have bH := Zk aQ
 clear aQ
 replace H := Option.bind_eq_some_iff.mp H
 obtain ⟨aG, A60, H⟩ := H
 (try dsimp only at H)
 have A6 := Zk A60
 clear A60
 by_cases c7 : aW.length + aG.length < 140737488355328
 case neg => exact no_ c7 H
 rw [if_pos c7] at H
 have LMc7 := Zk c7
 clear c7
 obtain ⟨aX, aT⟩ : ∃ y_ : List Int, y_ = (aW ++ aG) := ⟨_, rfl⟩
 first | replace H := bnd_ aT H | rw [← aT] at H
 have bI := Zk aT
 clear aT
 replace H := Option.bind_eq_some_iff.mp H
 obtain ⟨aI, A80, H⟩ := H
 (try dsimp only at H)
 have A8 := Zk A80
 clear A80
 by_cases c9 : aX.length + aI.length < 140737488355328
 case neg => exact no_ c9 H
 rw [if_pos c9] at H
 have LMc9 := Zk c9
 clear c9
 obtain ⟨bJ, aU⟩ : ∃ y_ : List Int, y_ = (aX ++ aI) := ⟨_, rfl⟩
 first | replace H := bnd_ aU H | rw [← aU] at H
 have bK := Zk aU
 clear aU
 replace H := Option.bind_eq_some_iff.mp H
 obtain ⟨⟨cK, cL⟩, bL, H⟩ := H
 (try dsimp only at H)
 have A10 := Zk bL
 clear bL
 simp only [Option.some.injEq, Prod.mk.injEq] at H
 obtain ⟨rfl, rfl⟩ := H
 go_enter Tryz.func100, Tryz.ntmps100
 go_wp2_with (first | (refine gd_ 1 ?_; refine bx_ 1 #[.int .i64 a0_0, .int .i64 a0_1, .int .i64 a0_2] 40 ?_; intro bA hg w11 hbox hb; have aA := Zk (hbox); have cV := gw_ HB hg; replace HB := al_ HB hb; clear hb hbox hg; obtain ⟨bM, bN, bO, bP, bQ, bR⟩ := cf3_ aA) | (refine gc_ 119 ?_; refine gl_ 119 (some 7) #[.agg #[.int .i64 a0_0, .int .i64 a0_1, .int .i64 a0_2]] Tryz.func119 ?_; (with_reducible refine (assartref03_Right.calls a0_0 a0_1 a0_2 true _ A2.out).mono ?_); rintro e w13 ⟨rfl, hb⟩; refine ⟨_, rfl, ?_⟩; replace aA := ab_ aA hb; replace HB := al_ HB hb; (try clear hb)) | (refine gd_ 10 ?_; refine Kd.R_lit (Kd.int .u8) _ 5 ?hg (N := 10) ?hd (xs := ([97, 115] : List Int)) (inner := [.int .u8 97, .int .u8 115]) (ok := fun _ => True) (okp := fun _ => True) ?hr ?hp (fun _ hk => hk) trivial (Below.refl _ _) (Nat.le_refl _) (by simp) ?_; (case hd => rfl); (case hg => rfl); (case hr => first | (go_simp; done) | (go_simp; rfl)); (case hp => exact (Reps.one (show Kd.M (Kd.int .u8) _ _ _ 97 [.int .u8 97] from rfl) (Reps.one (show Kd.M (Kd.int .u8) _ _ _ 115 [.int .u8 115] from rfl) (Reps.none _ _)))); intro cM w14 ho15 hb hg_ hnew_; clear hg_ hnew_; (first | rw [← bD.out] at ho15 | (simp only [Int.reduceToNat] at ho15; rw [← bD.out] at ho15)); have aJ := Zk (Kd.R_lower ho15 (below_size (bl_ HB))); replace aA := ab_ aA hb; replace HB := al_ HB hb; clear hb ho15; obtain ⟨bS, bT, bU, bV, bW, bX⟩ := cf3_ aA) | (refine gc_ 113 ?_; refine gl_ 113 (some 14) #[.int .i64 a0_0, .int .i64 4] Tryz.func113 ?_; (with_reducible refine (assartref01_Put.calls k a0_0 4 aE _ A4.out).mono ?_); rintro e w17 ⟨cW, rfl, ho0, hb⟩; refine ⟨_, rfl, ?_⟩; have aC := Zk (Kd.R_lower (Kd.R_new' ho0 (Kd.R_lt (r_ aJ))) (below_size (bl_ HB))); replace aJ := Zk (Kd.R_elder' (r_ aJ) (Kd.R_base ho0) hb); replace aA := ab_ aA hb; replace HB := al_ HB hb; (try clear hb); (try clear ho0); obtain ⟨aY, aZ, cN⟩ := Kd.R_slice aC.out; subst cN) | ((with_reducible refine gate_builtin (b := .append) (xs := #[.tmp 11, .tmp 14]) rfl ?_); at_builtin; refine Kd.R_append_rows (Kd.int .u8) (w0 := w) w.heap.size rfl (.tmp 11) (.tmp 14) 54 5 (.int .u8 0) 1 rfl Tryz.underlying54 info5 rfl (by decide) (by omega) cM aV aE _ _ _ (fun k_ => some k_ ≠ (.slice aY aE.length aZ : Value).ownBlock) (fun _ => False) rfl rfl ?aO ?aR (fun _ _ h => h) (fun _ h => h.elim) ?aF ?aB ?aS ?aL ?_; (case aR => repeat (first | exact (Kd.R_reads' aC.out).2.2 | (with_reducible refine Kd.C_alloc ?_ _) | (with_reducible refine Kd.C_drewN ?_ _) | (with_reducible refine Kd.C_drew ?_))); (case aB => exact (bl_ HB)); (case aF => exact (fun k_ hk => Kd.fresh' (Kd.R_lt (r_ aC)) k_ hk)); (case aO => exact (by (with_reducible repeat (first | apply Kd.R_alloc | apply Kd.R_drewN | apply Kd.R_drew)); exact Kd.R_mono aJ.out (fun _ hk => hk.2))); (case aS => exact (below_size (bl_ HB))); (case aL => have := LMc5.out; omega); intro cO w18 ho hb hg hat; rw [← bH.out] at ho; replace aA := Zk (blk_grown (g := bA) (o := .cells #[.int .i64 a0_0, .int .i64 a0_1, .int .i64 a0_2] 40 (0, 0)) (bk_ aA) hg (Kd.R_ne aJ.out aA.out (by decide))); replace aC := Zk (Kd.R_after (ok := (fun _ => True)) (r_ aC) hg hat); replace HB := Zk (hb); have aK := Zk (ho); clear aJ; clear ho hb hg hat; obtain ⟨bY, bZ, cA, cB, cC, cD⟩ := cf3_ aA) | (refine gc_ 113 ?_; refine gl_ 113 (some 19) #[.int .i64 a0_1, .int .i64 4] Tryz.func113 ?_; (with_reducible refine (assartref01_Put.calls k a0_1 4 aG _ A6.out).mono ?_); rintro e w21 ⟨cX, rfl, ho0, hb⟩; refine ⟨_, rfl, ?_⟩; have aD := Zk (Kd.R_lower (Kd.R_new' (Kd.R_new' ho0 (Kd.R_lt (r_ aC))) (Kd.R_lt (r_ aK))) (below_size (bl_ HB))); replace aC := Zk (Kd.R_elder' (r_ aC) (Kd.R_base ho0) hb); replace aK := Zk (Kd.R_elder' (r_ aK) (Kd.R_base ho0) hb); replace aA := ab_ aA hb; replace HB := al_ HB hb; (try clear hb); (try clear ho0); obtain ⟨bB, bC, cP⟩ := Kd.R_slice aD.out; subst cP) | ((with_reducible refine gate_builtin (b := .append) (xs := #[.tmp 16, .tmp 19]) rfl ?_); at_builtin; refine Kd.R_append_rows (Kd.int .u8) (w0 := w) w.heap.size rfl (.tmp 16) (.tmp 19) 54 5 (.int .u8 0) 1 rfl Tryz.underlying54 info5 rfl (by decide) (by omega) cO aW aG _ _ _ (fun k_ => some k_ ≠ (.slice aY aE.length aZ : Value).ownBlock ∧ some k_ ≠ (.slice bB aG.length bC : Value).ownBlock) (fun _ => False) rfl rfl ?aO ?aR (fun _ _ h => h) (fun _ h => h.elim) ?aF ?aB ?aS ?aL ?_; (case aR => repeat (first | exact (Kd.R_reads' aD.out).2.2 | (with_reducible refine Kd.C_alloc ?_ _) | (with_reducible refine Kd.C_drewN ?_ _) | (with_reducible refine Kd.C_drew ?_))); (case aB => exact (bl_ HB)); (case aF => exact (fun k_ hk => ⟨Kd.fresh' (Kd.R_lt (r_ aC)) k_ hk, Kd.fresh' (Kd.R_lt (r_ aD)) k_ hk⟩)); (case aO => exact (r_ aK)); (case aS => exact (below_size (bl_ HB))); (case aL => have := LMc7.out; omega); intro cQ w22 ho hb hg hat; rw [← bI.out] at ho; replace aA := Zk (blk_grown (g := bA) (o := .cells #[.int .i64 a0_0, .int .i64 a0_1, .int .i64 a0_2] 40 (0, 0)) (bk_ aA) hg (Kd.R_ne aK.out aA.out (by decide))); replace aC := Zk (Kd.R_after (ok := (fun k_ => some k_ ≠ (.slice bB aG.length bC : Value).ownBlock)) (by (with_reducible repeat (first | apply Kd.R_alloc | apply Kd.R_drewN | apply Kd.R_drew)); exact Kd.R_mono aC.out (fun _ hk => ⟨hk.2, hk.1.2⟩)) hg hat); replace aD := Zk (Kd.R_after (ok := (fun k_ => some k_ ≠ (.slice aY aE.length aZ : Value).ownBlock)) (by (with_reducible repeat (first | apply Kd.R_alloc | apply Kd.R_drewN | apply Kd.R_drew)); exact Kd.R_mono aD.out (fun _ hk => ⟨hk.1.2, hk.2⟩)) hg hat); replace HB := Zk (hb); have aM := Zk (ho); clear aK; clear ho hb hg hat; obtain ⟨cE, cF, cG, cH, cI, cJ⟩ := cf3_ aA) | (refine gc_ 113 ?_; refine gl_ 113 (some 24) #[.int .i64 a0_2, .int .i64 4] Tryz.func113 ?_; (with_reducible refine (assartref01_Put.calls k a0_2 4 aI _ A8.out).mono ?_); rintro e w25 ⟨cY, rfl, ho0, hb⟩; refine ⟨_, rfl, ?_⟩; have aH := Zk (Kd.R_lower (Kd.R_new' (Kd.R_new' (Kd.R_new' ho0 (Kd.R_lt (r_ aC))) (Kd.R_lt (r_ aD))) (Kd.R_lt (r_ aM))) (below_size (bl_ HB))); replace aC := Zk (Kd.R_elder' (r_ aC) (Kd.R_base ho0) hb); replace aD := Zk (Kd.R_elder' (r_ aD) (Kd.R_base ho0) hb); replace aM := Zk (Kd.R_elder' (r_ aM) (Kd.R_base ho0) hb); replace aA := ab_ aA hb; replace HB := al_ HB hb; (try clear hb); (try clear ho0); obtain ⟨bF, bG, cR⟩ := Kd.R_slice aH.out; subst cR) | ((with_reducible refine gate_builtin (b := .append) (xs := #[.tmp 21, .tmp 24]) rfl ?_); at_builtin; refine Kd.R_append_rows (Kd.int .u8) (w0 := w) w.heap.size rfl (.tmp 21) (.tmp 24) 54 5 (.int .u8 0) 1 rfl Tryz.underlying54 info5 rfl (by decide) (by omega) cQ aX aI _ _ _ (fun k_ => some k_ ≠ (.slice aY aE.length aZ : Value).ownBlock ∧ some k_ ≠ (.slice bB aG.length bC : Value).ownBlock ∧ some k_ ≠ (.slice bF aI.length bG : Value).ownBlock) (fun _ => False) rfl rfl ?aO ?aR (fun _ _ h => h) (fun _ h => h.elim) ?aF ?aB ?aS ?aL ?_; (case aR => repeat (first | exact (Kd.R_reads' aH.out).2.2 | (with_reducible refine Kd.C_alloc ?_ _) | (with_reducible refine Kd.C_drewN ?_ _) | (with_reducible refine Kd.C_drew ?_))); (case aB => exact (bl_ HB)); (case aF => exact (fun k_ hk => ⟨Kd.fresh' (Kd.R_lt (r_ aC)) k_ hk, Kd.fresh' (Kd.R_lt (r_ aD)) k_ hk, Kd.fresh' (Kd.R_lt (r_ aH)) k_ hk⟩)); (case aO => exact (by (with_reducible repeat (first | apply Kd.R_alloc | apply Kd.R_drewN | apply Kd.R_drew)); exact Kd.R_mono aM.out (fun _ hk => ⟨hk.1.1, ⟨hk.1.2, hk.2⟩⟩))); (case aS => exact (below_size (bl_ HB))); (case aL => have := LMc9.out; omega); intro cZ w26 ho hb hg hat; rw [← bK.out] at ho; replace aA := Zk (blk_grown (g := bA) (o := .cells #[.int .i64 a0_0, .int .i64 a0_1, .int .i64 a0_2] 40 (0, 0)) (bk_ aA) hg (Kd.R_ne aM.out aA.out (by decide))); replace aC := Zk (Kd.R_after (ok := (fun k_ => some k_ ≠ (.slice bB aG.length bC : Value).ownBlock ∧ some k_ ≠ (.slice bF aI.length bG : Value).ownBlock)) (by (with_reducible repeat (first | apply Kd.R_alloc | apply Kd.R_drewN | apply Kd.R_drew)); exact Kd.R_mono aC.out (fun _ hk => ⟨⟨hk.1.1, hk.2⟩, hk.1.2⟩)) hg hat); replace aD := Zk (Kd.R_after (ok := (fun k_ => some k_ ≠ (.slice aY aE.length aZ : Value).ownBlock ∧ some k_ ≠ (.slice bF aI.length bG : Value).ownBlock)) (by (with_reducible repeat (first | apply Kd.R_alloc | apply Kd.R_drewN | apply Kd.R_drew)); exact Kd.R_mono aD.out (fun _ hk => ⟨⟨hk.1.1, hk.2⟩, hk.1.2⟩)) hg hat); replace aH := Zk (Kd.R_after (ok := (fun k_ => some k_ ≠ (.slice aY aE.length aZ : Value).ownBlock ∧ some k_ ≠ (.slice bB aG.length bC : Value).ownBlock)) (by (with_reducible repeat (first | apply Kd.R_alloc | apply Kd.R_drewN | apply Kd.R_drew)); exact Kd.R_mono aH.out (fun _ hk => ⟨⟨hk.1.1.2, hk.1.2⟩, hk.2⟩)) hg hat); replace HB := Zk (hb); have aN := Zk (ho); clear aM; clear ho hb hg hat; obtain ⟨cS, cT, cU⟩ := Kd.R_slice aN.out; subst cU) | (refine gc_ 116 ?_; refine gl_ 116 (some 27) #[.slice cS bJ.length cT] Tryz.func116 ?_; (with_reducible refine (assartref01_Seal.calls k _ _ bJ cK cL _ (ct_ (Kd.R_reads' aN.out).2.2) ((Kd.R_reads' aN.out).2.1) A10.out).mono ?_); rintro e w29 ⟨rfl, hb⟩; refine ⟨_, rfl, ?_⟩; replace aC := ar_ aC hb; replace aD := ar_ aD hb; replace aH := ar_ aH hb; replace aN := ar_ aN hb; replace aA := ab_ aA hb; replace HB := al_ HB hb; (try clear hb)))
 go_ret2
 exact ⟨e_, bl_ HB⟩
end
section
attribute [local go_sem] max2_int min2_int max_two min_two max_three min_three max_four min_four
def assartref06_Print.l0 : Nat → List (Nat × Nat) → List Int → Int → Option (List Int)
 | 0, _, _, _ => none
 | k + 1, x0, x3, x4 => if x4 < (x0.length : Int) then (none) else (some x3)
def assartref06_Print.f (k : Nat) (l0 : List (Nat × Nat)) : Option (List Int) := (assartref01_Put.f k (l0.length : Int) 2).bind fun aA => (assartref06_Print.l0 k l0 aA 0)
theorem assartref06_Print.calls (k : Nat) (A0 : Option Addr) (c0 : Nat) (l0 : List (Nat × Nat)) (r : List Int) (w : World) (hr0 : Kd.C kc w A0 l0.length l0) (hc0 : l0.length ≤ c0) (h : assartref06_Print.f k l0 = some r) :
  Calls Tryz.prog 114 #[.slice A0 l0.length c0] w fun e w' => ∃ v0_ : Value, e = .returned (v0_) ∧ Kd.R (Kd.int .u8) 5 w' w.heap.size (fun _ => True) v0_ r ∧ Below w.heap.size w w' := by
 have HR0 := Zk hr0
 have HC0 := Zk hc0
 clear hr0 hc0
 have HB := Zk (Below.refl w.heap.size w)
 have H : ((assartref01_Put.f k (l0.length : Int) 2).bind fun aA => (assartref06_Print.l0 k l0 aA 0)) = some r := h
 clear h
 replace H := Option.bind_eq_some_iff.mp H
 obtain ⟨aA, A20, H⟩ := H
 (try dsimp only at H)
 have A2 := Zk A20
 clear A20
 have H' := Zk H
 clear H
 go_enter Tryz.func114, Tryz.ntmps114
 go_wp2_with (first | (refine gc_ 113 ?_; refine gl_ 113 (some 7) #[.int .i64 (l0.length : Int), .int .i64 2] Tryz.func113 ?_; (with_reducible refine (assartref01_Put.calls k (l0.length : Int) 2 aA _ A2.out).mono ?_); rintro e w3 ⟨aF, rfl, ho0, hb⟩; refine ⟨_, rfl, ?_⟩; have aD := Zk (Kd.R_lower ho0 (below_size (bl_ HB))); replace HB := al_ HB hb; (try clear hb); (try clear ho0)))
 go_loopg [3, 4] k (fun kq v3 v4 w' => ∃ (aC : List Int) (aB : Int), v4 = .int .i64 aB ∧ Aside0 (assartref06_Print.l0 kq l0 aC aB = some r) ∧ Aside0 (kq ≤ k) ∧ Aside0 (Kd.R (Kd.int .u8) 5 w' w.heap.size (fun _ => True) v3 aC) ∧ Aside0 (Below w.heap.size w w'))
 case atStart => exact ⟨(aA), (0), q_, H', ⟨Nat.le_refl _⟩, ⟨r_ aD⟩, ⟨bl_ HB⟩⟩
 case round =>
  clear H'
  obtain ⟨aC, aB, rfl, HA, HK1, aE, HB⟩ := hrel
  cases gk with
  | zero => exact absurd HA.out (by simp [assartref06_Print.l0])
  | succ k1 =>
   have H := HA.out
   clear HA
   simp only [assartref06_Print.l0] at H
   by_cases c4 : aB < (l0.length : Int)
   case pos =>
    rw [if_pos c4] at H
    exact absurd H (by simp)
   rw [if_neg c4] at H
   have aG := decide_eq_false c4
   clear c4
   obtain rfl := Option.some.inj H
   go_wp2
   go_ret
   exact ⟨_, e_, r_ aE, bl_ HB⟩
end
section
attribute [local go_sem] max2_int min2_int max_two min_two max_three min_three max_four min_four
mutual
def assartref13_Print.l0 : Nat → List Int → Int → List (S65) → Int → List (S122) → List (Nat × Nat) → Int → Int → Option (List Int × Int)
 | 0, _, _, _, _, _, _, _, _ => none
 | k + 1, x4, x5, aA, aB, aC, aD, aE, aF => if x5 < (aC.length : Int) then (none) else ((assartref06_Print.f k aD).bind fun aG => (if x4.length + aG.length < 140737488355328 then ((some (x4 ++ aG : List Int)).bind fun aH => ((assartref01_Put.f k aB 2).bind fun aI => (if aH.length + aI.length < 140737488355328 then ((some (aH ++ aI : List Int)).bind fun aJ => ((assartref01_Put.f k (aA.length : Int) 2).bind fun aK => (if aJ.length + aK.length < 140737488355328 then (assartref13_Print.l1 k (aJ ++ aK) 0 aA aB aC aD aE aF) else (none)))) else (none)))) else (none)))
def assartref13_Print.l1 : Nat → List Int → Int → List (S65) → Int → List (S122) → List (Nat × Nat) → Int → Int → Option (List Int × Int)
 | 0, _, _, _, _, _, _, _, _ => none
 | k + 1, x4, x6, aA, aB, aC, aD, aE, aF => if x6 < (aA.length : Int) then (if 0 ≤ x6 then (if ((rd_T65 aA x6).f0) > 65535 then (none) else ((assartref01_Put.f k ((rd_T65 aA x6).f0) 2).bind fun aL => (if x4.length + aL.length < 140737488355328 then (assartref13_Print.l1 k (x4 ++ aL) (wrap64 (x6 + 1)) aA aB aC aD aE aF) else (none)))) else (none)) else (some (x4, 0))
end
def assartref13_Print.f (k : Nat) (l0_0 : List (S65)) (a0_1 : Int) (l0_2 : List (S122)) (l0_3 : List (Nat × Nat)) (a0_4 : Int) (a0_5 : Int) : Option (List Int × Int) := (assartref01_Put.f k a0_4 4).bind fun aA => ((assartref01_Put.f k (l0_2.length : Int) 1).bind fun aB => (if aA.length + aB.length < 140737488355328 then (assartref13_Print.l0 k (aA ++ aB) 0 l0_0 a0_1 l0_2 l0_3 a0_4 a0_5) else (none)))
theorem assartref13_Print.calls (k : Nat) (A0_0 : Option Addr) (c0_0 : Nat) (l0_0 : List (S65)) (a0_1 : Int) (A0_2 : Option Addr) (c0_2 : Nat) (l0_2 : List (S122)) (A0_3 : Option Addr) (c0_3 : Nat) (l0_3 : List (Nat × Nat)) (a0_4 : Int) (a0_5 : Int) (r1 : List Int) (r2 : Int) (w : World) (hr0_0 : Kd.C k65 w A0_0 l0_0.length l0_0) (hc0_0 : l0_0.length ≤ c0_0) (hr0_2 : Kd.C k122 w A0_2 l0_2.length l0_2) (hc0_2 : l0_2.length ≤ c0_2) (hr0_3 : Kd.C kc w A0_3 l0_3.length l0_3) (hc0_3 : l0_3.length ≤ c0_3) (h : assartref13_Print.f k l0_0 a0_1 l0_2 l0_3 a0_4 a0_5 = some (r1, r2)) :
  Calls Tryz.prog 95 #[.agg #[.slice A0_0 l0_0.length c0_0, .int .i64 a0_1, .slice A0_2 l0_2.length c0_2, .slice A0_3 l0_3.length c0_3, .int .i64 a0_4, .int .i64 a0_5]] w fun e w' => ∃ v0_ : Value, e = .returned (.tuple #[v0_, .int .i64 r2]) ∧ Kd.R (Kd.int .u8) 5 w' w.heap.size (fun _ => True) v0_ r1 ∧ Below w.heap.size w w' := by
 have hu34 := Tryz.underlying34
 have bS := Zk hr0_0
 have gY := Zk hc0_0
 clear hr0_0 hc0_0
 have gZ := Zk hr0_2
 have hA := Zk hc0_2
 clear hr0_2 hc0_2
 have cC := Zk hr0_3
 have cD := Zk hc0_3
 clear hr0_3 hc0_3
 have HB := Zk (Below.refl w.heap.size w)
 have H : ((assartref01_Put.f k a0_4 4).bind fun aX => ((assartref01_Put.f k (l0_2.length : Int) 1).bind fun aT => (if aX.length + aT.length < 140737488355328 then (assartref13_Print.l0 k (aX ++ aT) 0 l0_0 a0_1 l0_2 l0_3 a0_4 a0_5) else (none)))) = some (r1, r2) := h
 clear h
 replace H := Option.bind_eq_some_iff.mp H
 obtain ⟨aX, A20, H⟩ := H
 (try dsimp only at H)
 have A2 := Zk A20
 clear A20
 replace H := Option.bind_eq_some_iff.mp H
 obtain ⟨aT, A30, H⟩ := H
 (try dsimp only at H)
 have A3 := Zk A30
 clear A30
 by_cases c4 : aX.length + aT.length < 140737488355328
 case neg => exact no_ c4 H
 rw [if_pos c4] at H
 have LMc4 := Zk c4
 clear c4
 obtain ⟨fF, aZ⟩ : ∃ y_ : List Int, y_ = (aX ++ aT) := ⟨_, rfl⟩
 first | replace H := bnd_ aZ H | rw [← aZ] at H
 have cE := Zk aZ
 clear aZ
 have H' := Zk H
 clear H
 go_enter Tryz.func95, Tryz.ntmps95
 go_wp2_with (first | (refine gd_ 1 ?_; refine bx_ 1 #[.slice A0_0 l0_0.length c0_0, .int .i64 a0_1, .slice A0_2 l0_2.length c0_2, .slice A0_3 l0_3.length c0_3, .int .i64 a0_4, .int .i64 a0_5] 34 ?_; intro aH hg w5 hbox hb; have aA := Zk (hbox); have hB := gw_ HB hg; replace HB := al_ HB hb; clear hb hbox hg; obtain ⟨fG, fH, fI, fJ, fK, fL, fM, fN, fO, fP, fQ, fR⟩ := cf6_ aA) | (refine gc_ 113 ?_; refine gl_ 113 (some 9) #[.int .i64 a0_4, .int .i64 4] Tryz.func113 ?_; (with_reducible refine (assartref01_Put.calls k a0_4 4 aX _ A2.out).mono ?_); rintro e w7 ⟨fS, rfl, ho0, hb⟩; refine ⟨_, rfl, ?_⟩; have aJ := Zk (Kd.R_lower ho0 (below_size (bl_ HB))); replace aA := ab_ aA hb; replace HB := al_ HB hb; (try clear hb); (try clear ho0); obtain ⟨fT, fU, fV, fW, fX, fY, fZ, gA, gB, gC, gD, gE⟩ := cf6_ aA) | (refine gc_ 113 ?_; refine gl_ 113 (some 14) #[.int .i64 (l0_2.length : Int), .int .i64 1] Tryz.func113 ?_; (with_reducible refine (assartref01_Put.calls k (l0_2.length : Int) 1 aT _ A3.out).mono ?_); rintro e w9 ⟨hE, rfl, ho0, hb⟩; refine ⟨_, rfl, ?_⟩; have aU := Zk (Kd.R_lower (Kd.R_new' ho0 (Kd.R_lt (r_ aJ))) (below_size (bl_ HB))); replace aJ := Zk (Kd.R_elder' (r_ aJ) (Kd.R_base ho0) hb); replace aA := ab_ aA hb; replace HB := al_ HB hb; (try clear hb); (try clear ho0); obtain ⟨gF, gG, gH⟩ := Kd.R_slice aU.out; subst gH) | ((with_reducible refine gate_builtin (b := .append) (xs := #[.tmp 10, .tmp 14]) rfl ?_); at_builtin; refine Kd.R_append_rows (Kd.int .u8) (w0 := w) w.heap.size rfl (.tmp 10) (.tmp 14) 54 5 (.int .u8 0) 1 rfl Tryz.underlying54 info5 rfl (by decide) (by omega) fS aX aT _ _ _ (fun k_ => some k_ ≠ (.slice gF aT.length gG : Value).ownBlock) (fun _ => False) rfl rfl ?aO ?aR (fun _ _ h => h) (fun _ h => h.elim) ?aF ?aB ?aS ?aL ?_; (case aR => repeat (first | exact (Kd.R_reads' aU.out).2.2 | (with_reducible refine Kd.C_alloc ?_ _) | (with_reducible refine Kd.C_drewN ?_ _) | (with_reducible refine Kd.C_drew ?_))); (case aB => exact (bl_ HB)); (case aF => exact (fun k_ hk => Kd.fresh' (Kd.R_lt (r_ aU)) k_ hk)); (case aO => exact (by (with_reducible repeat (first | apply Kd.R_alloc | apply Kd.R_drewN | apply Kd.R_drew)); exact Kd.R_mono aJ.out (fun _ hk => hk.2))); (case aS => exact (below_size (bl_ HB))); (case aL => have := LMc4.out; omega); intro hF w10 ho hb hg hat; rw [← cE.out] at ho; replace aA := Zk (blk_grown (g := aH) (o := .cells #[.slice A0_0 l0_0.length c0_0, .int .i64 a0_1, .slice A0_2 l0_2.length c0_2, .slice A0_3 l0_3.length c0_3, .int .i64 a0_4, .int .i64 a0_5] 34 (0, 0)) (bk_ aA) hg (Kd.R_ne aJ.out aA.out (by decide))); replace aU := Zk (Kd.R_after (ok := (fun _ => True)) (r_ aU) hg hat); replace HB := Zk (hb); have cF := Zk (ho); clear aJ; clear ho hb hg hat))
 go_loopg [4, 5] k (fun kq v4 v5 w' => ∃ (bK : List Int) (bR : Int), v5 = .int .i64 bR ∧ Aside0 (assartref13_Print.l0 kq bK bR l0_0 a0_1 l0_2 l0_3 a0_4 a0_5 = some (r1, r2)) ∧ Aside0 (kq ≤ k) ∧ Aside0 (Kd.R (Kd.int .u8) 5 w' w.heap.size (fun _ => True) v4 bK) ∧ Aside0 (w'.heap[aH]? = some (.cells #[(.slice A0_0 l0_0.length c0_0), .int .i64 a0_1, (.slice A0_2 l0_2.length c0_2), (.slice A0_3 l0_3.length c0_3), .int .i64 a0_4, .int .i64 a0_5] 34 (0, 0))) ∧ Aside0 (Below w.heap.size w w'))
 case atStart => exact ⟨(fF), (0), q_, H', ⟨Nat.le_refl _⟩, ⟨by (with_reducible repeat (first | apply Kd.R_alloc | apply Kd.R_drewN | apply Kd.R_drew)); exact Kd.R_mono cF.out (fun _ hk => trivial)⟩, ⟨bk_ aA⟩, ⟨bl_ HB⟩⟩
 case round =>
  clear H'
  obtain ⟨bK, bR, rfl, HA, HK1, aG, aA, HB⟩ := hrel
  cases gk with
  | zero => exact absurd HA.out (by simp [assartref13_Print.l0])
  | succ k1 =>
   have H := HA.out
   clear HA
   simp only [assartref13_Print.l0] at H
   by_cases c12 : bR < (l0_2.length : Int)
   case pos =>
    rw [if_pos c12] at H
    exact absurd H (by simp)
   rw [if_neg c12] at H
   have cG := decide_eq_false c12
   clear c12
   replace H := Option.bind_eq_some_iff.mp H
   obtain ⟨aI, cH, H⟩ := H
   (try dsimp only at H)
   have A13 := Zk cH
   clear cH
   by_cases c14 : bK.length + aI.length < 140737488355328
   case neg => exact no_ c14 H
   rw [if_pos c14] at H
   have LMc14 := Zk c14
   clear c14
   obtain ⟨bU, bA⟩ : ∃ y_ : List Int, y_ = (bK ++ aI) := ⟨_, rfl⟩
   first | replace H := bnd_ bA H | rw [← bA] at H
   have cI := Zk bA
   clear bA
   replace H := Option.bind_eq_some_iff.mp H
   obtain ⟨aN, cJ, H⟩ := H
   (try dsimp only at H)
   have A15 := Zk cJ
   clear cJ
   by_cases c16 : bU.length + aN.length < 140737488355328
   case neg => exact no_ c16 H
   rw [if_pos c16] at H
   have LMc16 := Zk c16
   clear c16
   obtain ⟨bV, bB⟩ : ∃ y_ : List Int, y_ = (bU ++ aN) := ⟨_, rfl⟩
   first | replace H := bnd_ bB H | rw [← bB] at H
   have cK := Zk bB
   clear bB
   replace H := Option.bind_eq_some_iff.mp H
   obtain ⟨aY, cL, H⟩ := H
   (try dsimp only at H)
   have A17 := Zk cL
   clear cL
   by_cases c18 : bV.length + aY.length < 140737488355328
   case neg => exact no_ c18 H
   rw [if_pos c18] at H
   have LMc18 := Zk c18
   clear c18
   obtain ⟨gI, bC⟩ : ∃ y_ : List Int, y_ = (bV ++ aY) := ⟨_, rfl⟩
   first | replace H := bnd_ bC H | rw [← bC] at H
   have cM := Zk bC
   clear bC
   have H' := Zk H
   clear H
   obtain ⟨cT, cU, cV, cW, cX, cY, cZ, dA, dB, dC, dD, dE⟩ := cf6_ aA
   go_wp2_with (first | (refine gc_ 114 ?_; refine gl_ 114 (some 45) #[.slice A0_3 l0_3.length c0_3] Tryz.func114 ?_; (with_reducible refine (assartref06_Print.calls k1 _ _ l0_3 aI _ (cb_ cC HB) cD.out A13.out).mono ?_); rintro e w20 ⟨hG, rfl, ho0, hb⟩; refine ⟨_, rfl, ?_⟩; have aC := Zk (Kd.R_lower (Kd.R_new' ho0 (Kd.R_lt (r_ aG))) (below_size (bl_ HB))); replace aG := Zk (Kd.R_elder' (r_ aG) (Kd.R_base ho0) hb); replace aA := ab_ aA hb; replace HB := al_ HB hb; (try clear hb); (try clear ho0); obtain ⟨bL, bM, gJ⟩ := Kd.R_slice aC.out; subst gJ) | ((with_reducible refine gate_builtin (b := .append) (xs := #[.tmp 42, .tmp 45]) rfl ?_); at_builtin; refine Kd.R_append_rows (Kd.int .u8) (w0 := w) w.heap.size rfl (.tmp 42) (.tmp 45) 54 5 (.int .u8 0) 1 rfl Tryz.underlying54 info5 rfl (by decide) (by omega) u4 bK aI _ _ _ (fun k_ => some k_ ≠ (.slice bL aI.length bM : Value).ownBlock) (fun _ => False) rfl rfl ?aO ?aR (fun _ _ h => h) (fun _ h => h.elim) ?aF ?aB ?aS ?aL ?_; (case aR => repeat (first | exact (Kd.R_reads' aC.out).2.2 | (with_reducible refine Kd.C_alloc ?_ _) | (with_reducible refine Kd.C_drewN ?_ _) | (with_reducible refine Kd.C_drew ?_))); (case aB => exact (bl_ HB)); (case aF => exact (fun k_ hk => Kd.fresh' (Kd.R_lt (r_ aC)) k_ hk)); (case aO => exact (by (with_reducible repeat (first | apply Kd.R_alloc | apply Kd.R_drewN | apply Kd.R_drew)); exact Kd.R_mono aG.out (fun _ hk => hk.2))); (case aS => exact (below_size (bl_ HB))); (case aL => have := LMc14.out; omega); intro gK w21 ho hb hg hat; rw [← cI.out] at ho; replace aA := Zk (blk_grown (g := aH) (o := .cells #[.slice A0_0 l0_0.length c0_0, .int .i64 a0_1, .slice A0_2 l0_2.length c0_2, .slice A0_3 l0_3.length c0_3, .int .i64 a0_4, .int .i64 a0_5] 34 (0, 0)) (bk_ aA) hg (Kd.R_ne aG.out aA.out (by decide))); replace aC := Zk (Kd.R_after (ok := (fun _ => True)) (r_ aC) hg hat); replace HB := Zk (hb); have aK := Zk (ho); clear aG; clear ho hb hg hat; obtain ⟨dF, dG, dH, dI, dJ, dK, dL, dM, dN, dO, dP, dQ⟩ := cf6_ aA) | (refine gc_ 113 ?_; refine gl_ 113 (some 51) #[.int .i64 a0_1, .int .i64 2] Tryz.func113 ?_; (with_reducible refine (assartref01_Put.calls k1 a0_1 2 aN _ A15.out).mono ?_); rintro e w24 ⟨hH, rfl, ho0, hb⟩; refine ⟨_, rfl, ?_⟩; have aD := Zk (Kd.R_lower (Kd.R_new' (Kd.R_new' ho0 (Kd.R_lt (r_ aC))) (Kd.R_lt (r_ aK))) (below_size (bl_ HB))); replace aC := Zk (Kd.R_elder' (r_ aC) (Kd.R_base ho0) hb); replace aK := Zk (Kd.R_elder' (r_ aK) (Kd.R_base ho0) hb); replace aA := ab_ aA hb; replace HB := al_ HB hb; (try clear hb); (try clear ho0); obtain ⟨bO, bP, gL⟩ := Kd.R_slice aD.out; subst gL) | ((with_reducible refine gate_builtin (b := .append) (xs := #[.tmp 47, .tmp 51]) rfl ?_); at_builtin; refine Kd.R_append_rows (Kd.int .u8) (w0 := w) w.heap.size rfl (.tmp 47) (.tmp 51) 54 5 (.int .u8 0) 1 rfl Tryz.underlying54 info5 rfl (by decide) (by omega) gK bU aN _ _ _ (fun k_ => some k_ ≠ (.slice bL aI.length bM : Value).ownBlock ∧ some k_ ≠ (.slice bO aN.length bP : Value).ownBlock) (fun _ => False) rfl rfl ?aO ?aR (fun _ _ h => h) (fun _ h => h.elim) ?aF ?aB ?aS ?aL ?_; (case aR => repeat (first | exact (Kd.R_reads' aD.out).2.2 | (with_reducible refine Kd.C_alloc ?_ _) | (with_reducible refine Kd.C_drewN ?_ _) | (with_reducible refine Kd.C_drew ?_))); (case aB => exact (bl_ HB)); (case aF => exact (fun k_ hk => ⟨Kd.fresh' (Kd.R_lt (r_ aC)) k_ hk, Kd.fresh' (Kd.R_lt (r_ aD)) k_ hk⟩)); (case aO => exact (r_ aK)); (case aS => exact (below_size (bl_ HB))); (case aL => have := LMc16.out; omega); intro gM w25 ho hb hg hat; rw [← cK.out] at ho; replace aA := Zk (blk_grown (g := aH) (o := .cells #[.slice A0_0 l0_0.length c0_0, .int .i64 a0_1, .slice A0_2 l0_2.length c0_2, .slice A0_3 l0_3.length c0_3, .int .i64 a0_4, .int .i64 a0_5] 34 (0, 0)) (bk_ aA) hg (Kd.R_ne aK.out aA.out (by decide))); replace aC := Zk (Kd.R_after (ok := (fun k_ => some k_ ≠ (.slice bO aN.length bP : Value).ownBlock)) (by (with_reducible repeat (first | apply Kd.R_alloc | apply Kd.R_drewN | apply Kd.R_drew)); exact Kd.R_mono aC.out (fun _ hk => ⟨hk.2, hk.1.2⟩)) hg hat); replace aD := Zk (Kd.R_after (ok := (fun k_ => some k_ ≠ (.slice bL aI.length bM : Value).ownBlock)) (by (with_reducible repeat (first | apply Kd.R_alloc | apply Kd.R_drewN | apply Kd.R_drew)); exact Kd.R_mono aD.out (fun _ hk => ⟨hk.1.2, hk.2⟩)) hg hat); replace HB := Zk (hb); have aM := Zk (ho); clear aK; clear ho hb hg hat; obtain ⟨dR, dS, dT, dU, dV, dW, dX, dY, dZ, eA, eB, eC⟩ := cf6_ aA) | (refine gc_ 113 ?_; refine gl_ 113 (some 58) #[.int .i64 (l0_0.length : Int), .int .i64 2] Tryz.func113 ?_; (with_reducible refine (assartref01_Put.calls k1 (l0_0.length : Int) 2 aY _ A17.out).mono ?_); rintro e w28 ⟨hI, rfl, ho0, hb⟩; refine ⟨_, rfl, ?_⟩; have aV := Zk (Kd.R_lower (Kd.R_new' (Kd.R_new' (Kd.R_new' ho0 (Kd.R_lt (r_ aC))) (Kd.R_lt (r_ aD))) (Kd.R_lt (r_ aM))) (below_size (bl_ HB))); replace aC := Zk (Kd.R_elder' (r_ aC) (Kd.R_base ho0) hb); replace aD := Zk (Kd.R_elder' (r_ aD) (Kd.R_base ho0) hb); replace aM := Zk (Kd.R_elder' (r_ aM) (Kd.R_base ho0) hb); replace aA := ab_ aA hb; replace HB := al_ HB hb; (try clear hb); (try clear ho0); obtain ⟨bW, bX, gN⟩ := Kd.R_slice aV.out; subst gN) | ((with_reducible refine gate_builtin (b := .append) (xs := #[.tmp 53, .tmp 58]) rfl ?_); at_builtin; refine Kd.R_append_rows (Kd.int .u8) (w0 := w) w.heap.size rfl (.tmp 53) (.tmp 58) 54 5 (.int .u8 0) 1 rfl Tryz.underlying54 info5 rfl (by decide) (by omega) gM bV aY _ _ _ (fun k_ => some k_ ≠ (.slice bL aI.length bM : Value).ownBlock ∧ some k_ ≠ (.slice bO aN.length bP : Value).ownBlock ∧ some k_ ≠ (.slice bW aY.length bX : Value).ownBlock) (fun _ => False) rfl rfl ?aO ?aR (fun _ _ h => h) (fun _ h => h.elim) ?aF ?aB ?aS ?aL ?_; (case aR => repeat (first | exact (Kd.R_reads' aV.out).2.2 | (with_reducible refine Kd.C_alloc ?_ _) | (with_reducible refine Kd.C_drewN ?_ _) | (with_reducible refine Kd.C_drew ?_))); (case aB => exact (bl_ HB)); (case aF => exact (fun k_ hk => ⟨Kd.fresh' (Kd.R_lt (r_ aC)) k_ hk, Kd.fresh' (Kd.R_lt (r_ aD)) k_ hk, Kd.fresh' (Kd.R_lt (r_ aV)) k_ hk⟩)); (case aO => exact (by (with_reducible repeat (first | apply Kd.R_alloc | apply Kd.R_drewN | apply Kd.R_drew)); exact Kd.R_mono aM.out (fun _ hk => ⟨hk.1.1, ⟨hk.1.2, hk.2⟩⟩))); (case aS => exact (below_size (bl_ HB))); (case aL => have := LMc18.out; omega); intro hJ w29 ho hb hg hat; rw [← cM.out] at ho; replace aA := Zk (blk_grown (g := aH) (o := .cells #[.slice A0_0 l0_0.length c0_0, .int .i64 a0_1, .slice A0_2 l0_2.length c0_2, .slice A0_3 l0_3.length c0_3, .int .i64 a0_4, .int .i64 a0_5] 34 (0, 0)) (bk_ aA) hg (Kd.R_ne aM.out aA.out (by decide))); replace aC := Zk (Kd.R_after (ok := (fun k_ => some k_ ≠ (.slice bO aN.length bP : Value).ownBlock ∧ some k_ ≠ (.slice bW aY.length bX : Value).ownBlock)) (by (with_reducible repeat (first | apply Kd.R_alloc | apply Kd.R_drewN | apply Kd.R_drew)); exact Kd.R_mono aC.out (fun _ hk => ⟨⟨hk.1.1, hk.2⟩, hk.1.2⟩)) hg hat); replace aD := Zk (Kd.R_after (ok := (fun k_ => some k_ ≠ (.slice bL aI.length bM : Value).ownBlock ∧ some k_ ≠ (.slice bW aY.length bX : Value).ownBlock)) (by (with_reducible repeat (first | apply Kd.R_alloc | apply Kd.R_drewN | apply Kd.R_drew)); exact Kd.R_mono aD.out (fun _ hk => ⟨⟨hk.1.1, hk.2⟩, hk.1.2⟩)) hg hat); replace aV := Zk (Kd.R_after (ok := (fun k_ => some k_ ≠ (.slice bL aI.length bM : Value).ownBlock ∧ some k_ ≠ (.slice bO aN.length bP : Value).ownBlock)) (by (with_reducible repeat (first | apply Kd.R_alloc | apply Kd.R_drewN | apply Kd.R_drew)); exact Kd.R_mono aV.out (fun _ hk => ⟨⟨hk.1.1.2, hk.1.2⟩, hk.2⟩)) hg hat); replace HB := Zk (hb); have cN := Zk (ho); clear aM; clear ho hb hg hat))
   go_loopg [4, 6] k1 (fun kq v4 v6 w' => ∃ (bN : List Int) (aE : Int), v6 = .int .i64 aE ∧ Aside0 (assartref13_Print.l1 kq bN aE l0_0 a0_1 l0_2 l0_3 a0_4 a0_5 = some (r1, r2)) ∧ Aside0 (kq ≤ k1) ∧ Aside0 (Kd.R (Kd.int .u8) 5 w' w.heap.size (fun _ => True) v4 bN) ∧ Aside0 (w'.heap[aH]? = some (.cells #[(.slice A0_0 l0_0.length c0_0), .int .i64 a0_1, (.slice A0_2 l0_2.length c0_2), (.slice A0_3 l0_3.length c0_3), .int .i64 a0_4, .int .i64 a0_5] 34 (0, 0))) ∧ Aside0 (Below w.heap.size w w'))
   case atStart => exact ⟨(gI), (0), q_, H', ⟨Nat.le_refl _⟩, ⟨by (with_reducible repeat (first | apply Kd.R_alloc | apply Kd.R_drewN | apply Kd.R_drew)); exact Kd.R_mono cN.out (fun _ hk => trivial)⟩, ⟨bk_ aA⟩, ⟨bl_ HB⟩⟩
   case round =>
    clear H'
    try clear cG
    obtain ⟨bN, aE, rfl, HA, HK2, aG, aA, HB⟩ := hrel
    cases gk with
    | zero => exact absurd HA.out (by simp [assartref13_Print.l1])
    | succ k2 =>
     have H := HA.out
     clear HA
     simp only [assartref13_Print.l1] at H
     by_cases c31 : aE < (l0_0.length : Int)
     case neg =>
      rw [if_neg c31] at H
      have cO : decide (aE < (l0_0.length : Int)) = false := decide_eq_false c31
      clear c31
      simp only [Option.some.injEq, Prod.mk.injEq] at H
      obtain ⟨rfl, rfl⟩ := H
      obtain ⟨eD, eE, eF, eG, eH, eI, eJ, eK, eL, eM, eN, eO⟩ := cf6_ aA
      go_wp2
      go_ret2
      exact ⟨_, e_, r_ aG, bl_ HB⟩
     rw [if_pos c31] at H
     have cO := decide_eq_true c31
     clear c31
     by_cases c32 : 0 ≤ aE
     case neg => exact no_ c32 H
     rw [if_pos c32] at H
     have hC := decide_eq_true c32
     clear c32
     by_cases c33 : ((rd_T65 l0_0 aE).f0) > 65535
     case pos =>
      rw [if_pos c33] at H
      exact absurd H (by simp)
     rw [if_neg c33] at H
     have hD : decide (65535 < ((rd_T65 l0_0 aE).f0)) = false := decide_eq_false c33
     clear c33
     replace H := Option.bind_eq_some_iff.mp H
     obtain ⟨bQ, cP, H⟩ := H
     (try dsimp only at H)
     have A34 := Zk cP
     clear cP
     by_cases c35 : bN.length + bQ.length < 140737488355328
     case neg => exact no_ c35 H
     rw [if_pos c35] at H
     have LMc35 := Zk c35
     clear c35
     obtain ⟨gO, bD⟩ : ∃ y_ : List Int, y_ = (bN ++ bQ) := ⟨_, rfl⟩
     first | replace H := bnd_ bD H | rw [← bD] at H
     have cQ := Zk bD
     clear bD
     have H' := Zk H
     clear H
     obtain ⟨eP, eQ, eR, eS, eT, eU, eV, eW, eX, eY, eZ, fA⟩ := cf6_ aA
     have bY : 0 ≤ (aE : Int) := of_decide_eq_true as_
     have bZ : aE < (l0_0.length : Int) := of_decide_eq_true as_
     obtain ⟨bT, gP, gQ, gR, bE, bF, bG, aP, hl301_3, hi301_3⟩ := at_T65 bS.out aE bY bZ
     cases gR
     replace bE := hx_ HB bE
     replace bF := hx_ HB bF
     replace bG := hx_ HB bG
     replace aP := hx_ HB aP
     have fB := Zk hi301_3
     have fC := Zk hl301_3
     clear hi301_3 hl301_3
     replace bY := eq_true bY
     replace bZ := eq_true bZ
     have cA : 0 ≤ (aE : Int) := of_decide_eq_true as_
     have cB : aE < (l0_0.length : Int) := of_decide_eq_true as_
     obtain ⟨cR, gS, gT, gU, bH, bI, bJ, aQ, hl302_3, hi302_3⟩ := at_T65 bS.out aE cA cB
     obtain rfl : bT = cR := (by injection gU)
     replace bH := hx_ HB bH
     replace bI := hx_ HB bI
     replace bJ := hx_ HB bJ
     replace aQ := hx_ HB aQ
     have fD := Zk hi302_3
     have fE := Zk hl302_3
     clear hi302_3 hl302_3
     replace cA := eq_true cA
     replace cB := eq_true cB
     have ea_ := Option.some.inj (aP.symm.trans aQ)
     injection ea_ with ea_ en_ ec_
     subst ea_
     subst ec_
     clear en_
     go_wp2_with (first | (refine gc_ 113 ?_; refine gl_ 113 (some 84) #[.int .i64 ((rd_T65 l0_0 aE).f0), .int .i64 2] Tryz.func113 ?_; (with_reducible refine (assartref01_Put.calls k2 ((rd_T65 l0_0 aE).f0) 2 bQ _ A34.out).mono ?_); rintro e w37 ⟨hK, rfl, ho0, hb⟩; refine ⟨_, rfl, ?_⟩; have aW := Zk (Kd.R_lower (Kd.R_new' ho0 (Kd.R_lt (r_ aG))) (below_size (bl_ HB))); replace aG := Zk (Kd.R_elder' (r_ aG) (Kd.R_base ho0) hb); replace aA := ab_ aA hb; replace HB := al_ HB hb; (try clear hb); (try clear ho0); obtain ⟨gV, gW, gX⟩ := Kd.R_slice aW.out; subst gX) | ((with_reducible refine gate_builtin (b := .append) (xs := #[.tmp 76, .tmp 84]) rfl ?_); at_builtin; refine Kd.R_append_rows (Kd.int .u8) (w0 := w) w.heap.size rfl (.tmp 76) (.tmp 84) 54 5 (.int .u8 0) 1 rfl Tryz.underlying54 info5 rfl (by decide) (by omega) u4 bN bQ _ _ _ (fun k_ => some k_ ≠ (.slice gV bQ.length gW : Value).ownBlock) (fun _ => False) rfl rfl ?aO ?aR (fun _ _ h => h) (fun _ h => h.elim) ?aF ?aB ?aS ?aL ?_; (case aR => repeat (first | exact (Kd.R_reads' aW.out).2.2 | (with_reducible refine Kd.C_alloc ?_ _) | (with_reducible refine Kd.C_drewN ?_ _) | (with_reducible refine Kd.C_drew ?_))); (case aB => exact (bl_ HB)); (case aF => exact (fun k_ hk => Kd.fresh' (Kd.R_lt (r_ aW)) k_ hk)); (case aO => exact (by (with_reducible repeat (first | apply Kd.R_alloc | apply Kd.R_drewN | apply Kd.R_drew)); exact Kd.R_mono aG.out (fun _ hk => hk.2))); (case aS => exact (below_size (bl_ HB))); (case aL => have := LMc35.out; omega); intro hL w38 ho hb hg hat; rw [← cQ.out] at ho; replace aA := Zk (blk_grown (g := aH) (o := .cells #[.slice (some bT) l0_0.length c0_0, .int .i64 a0_1, .slice A0_2 l0_2.length c0_2, .slice A0_3 l0_3.length c0_3, .int .i64 a0_4, .int .i64 a0_5] 34 (0, 0)) (bk_ aA) hg (Kd.R_ne aG.out aA.out (by decide))); replace aW := Zk (Kd.R_after (ok := (fun _ => True)) (r_ aW) hg hat); replace HB := Zk (hb); have cS := Zk (ho); clear aG; clear ho hb hg hat))
     go_roundg k2
     case measure => have := HK1.out; have := HK2.out; omega
     case rel => exact ⟨(gO), (wrap64 (aE + 1)), q_, H', ⟨by have := HK1.out; have := HK2.out; omega⟩, ⟨by (with_reducible repeat (first | apply Kd.R_alloc | apply Kd.R_drewN | apply Kd.R_drew)); exact Kd.R_mono cS.out (fun _ hk => trivial)⟩, ⟨bk_ aA⟩, ⟨bl_ HB⟩⟩
end
section
attribute [local go_sem] max2_int min2_int max_two min_two max_three min_three max_four min_four
def assartref02_Read.l0 : Nat → Int → ByteArray → Int → List ByteArray → List (S98) → Option (ByteArray × Int)
 | 0, _, _, _, _, _ => none
 | k + 1, x1, x6, x7, aB, aA => if x7 < (aA.length : Int) then (if 0 ≤ x7 then (if ((rd_T98 aA x7).f0) = x1 then (assartref02_Read.l0 k x1 ((rd_T98 aA x7).f1) (wrap64 (x7 + 1)) aB aA) else (assartref02_Read.l0 k x1 x6 (wrap64 (x7 + 1)) aB aA)) else (none)) else (some (x6, 0))
def assartref02_Read.f (k : Nat) (l0_0 : List ByteArray) (l0_1 : List (S98)) (a1 : Int) : Option (ByteArray × Int) := if a1 < 0 then (none) else (if a1 ≥ (l0_0.length : Int) then (some ((⟨#[]⟩ : ByteArray), 1)) else (if 0 ≤ a1 then (if a1 < (l0_0.length : Int) then (assartref02_Read.l0 k a1 (rdOf ByteArray.empty l0_0 a1) 0 l0_0 l0_1) else (none)) else (none)))
theorem assartref02_Read.calls (k : Nat) (A0_0 : Option Addr) (c0_0 : Nat) (l0_0 : List ByteArray) (A0_1 : Option Addr) (c0_1 : Nat) (l0_1 : List (S98)) (a1 : Int) (r1 : ByteArray) (r2 : Int) (w : World) (hr0_0 : Kd.C Kd.string w A0_0 l0_0.length l0_0) (hc0_0 : l0_0.length ≤ c0_0) (hr0_1 : Kd.C k98 w A0_1 l0_1.length l0_1) (hc0_1 : l0_1.length ≤ c0_1) (h : assartref02_Read.f k l0_0 l0_1 a1 = some (r1, r2)) :
  Calls Tryz.prog 117 #[.agg #[.slice A0_0 l0_0.length c0_0, .slice A0_1 l0_1.length c0_1], .int .i64 a1] w fun e w' => e = .returned (.tuple #[.string r1, .int .i64 r2]) ∧ Below w.heap.size w w' := by
 have hu25 := Tryz.underlying25
 have aS := Zk hr0_0
 have bZ := Zk hc0_0
 clear hr0_0 hc0_0
 have aJ := Zk hr0_1
 have cA := Zk hc0_1
 clear hr0_1 hc0_1
 have HB := Zk (Below.refl w.heap.size w)
 have H : (if a1 < 0 then (none) else (if a1 ≥ (l0_0.length : Int) then (some ((⟨#[]⟩ : ByteArray), 1)) else (if 0 ≤ a1 then (if a1 < (l0_0.length : Int) then (assartref02_Read.l0 k a1 (rdOf ByteArray.empty l0_0 a1) 0 l0_0 l0_1) else (none)) else (none)))) = some (r1, r2) := h
 clear h
 by_cases c3 : a1 < 0
 case pos =>
  rw [if_pos c3] at H
  exact absurd H (by simp)
 rw [if_neg c3] at H
 have bQ := decide_eq_false c3
 clear c3
 by_cases c4 : a1 ≥ (l0_0.length : Int)
 case pos =>
  rw [if_pos c4] at H
  have aT : decide ((l0_0.length : Int) ≤ a1) = true := decide_eq_true c4
  clear c4
  simp only [Option.some.injEq, Prod.mk.injEq] at H
  obtain ⟨rfl, rfl⟩ := H
  go_enter Tryz.func117, Tryz.ntmps117
  go_wp2_with (first | (refine gd_ 2 ?_; (try (refine gate_guard (by rfl) ?_; dsimp only)); refine bx_ 2 #[.slice A0_0 l0_0.length c0_0, .slice A0_1 l0_1.length c0_1] 25 ?_; intro aM hg w5 hbox hb; have aB := Zk (hbox); have aU := gw_ HB hg; replace HB := al_ HB hb; clear hb hbox hg; obtain ⟨bR, bS, bT, bU⟩ := cf2_ aB))
  go_ret2
  exact ⟨e_, bl_ HB⟩
 rw [if_neg c4] at H
 have aT : decide ((l0_0.length : Int) ≤ a1) = false := decide_eq_false c4
 clear c4
 by_cases c7 : 0 ≤ a1
 case neg => exact no_ c7 H
 rw [if_pos c7] at H
 have bV := decide_eq_true c7
 clear c7
 by_cases c8 : a1 < (l0_0.length : Int)
 case neg => exact no_ c8 H
 rw [if_pos c8] at H
 have bW := decide_eq_true c8
 clear c8
 have H' := Zk H
 clear H
 go_enter Tryz.func117, Tryz.ntmps117
 go_wp2_with (first | (refine gd_ 2 ?_; (try (refine gate_guard (by rfl) ?_; dsimp only)); refine bx_ 2 #[.slice A0_0 l0_0.length c0_0, .slice A0_1 l0_1.length c0_1] 25 ?_; intro aM hg w9 hbox hb; have aB := Zk (hbox); have aU := gw_ HB hg; replace HB := al_ HB hb; clear hb hbox hg; obtain ⟨bA, bB, bC, bD⟩ := cf2_ aB; have aO : 0 ≤ (a1 : Int) := of_decide_eq_true as_; have aK : a1 < (l0_0.length : Int) := of_decide_eq_true as_; obtain ⟨aV, bX, aE⟩ := Kd.at_string aS.out a1 aO aK; cases bX; replace aE := hx_ HB aE; replace aO := eq_true aO; replace aK := eq_true aK))
 go_loopg [6, 7] k (fun kq v6 v7 w' => ∃ (aL : ByteArray) (aA : Int), v6 = .string aL ∧ v7 = .int .i64 aA ∧ Aside0 (assartref02_Read.l0 kq a1 aL aA l0_0 l0_1 = some (r1, r2)) ∧ Aside0 (kq ≤ k) ∧ Aside0 (w'.heap[aM]? = some (.cells #[(.slice (some aV) l0_0.length c0_0), (.slice A0_1 l0_1.length c0_1)] 25 (0, 0))) ∧ Aside0 (Below w.heap.size w w'))
 case atStart => exact ⟨(rdOf ByteArray.empty l0_0 a1), (0), q_, q_, H', ⟨Nat.le_refl _⟩, ⟨bk_ aB⟩, ⟨bl_ HB⟩⟩
 case round =>
  clear H'
  try clear bQ
  try clear q3
  try clear hx3
  try clear aT
  try clear bV
  try clear bW
  try clear aE
  try clear aK
  obtain ⟨aL, aA, rfl, rfl, HA, HK1, aB, HB⟩ := hrel
  cases gk with
  | zero => exact absurd HA.out (by simp [assartref02_Read.l0])
  | succ k1 =>
   have H := HA.out
   clear HA
   simp only [assartref02_Read.l0] at H
   by_cases c11 : aA < (l0_1.length : Int)
   case neg =>
    rw [if_neg c11] at H
    have aW := decide_eq_false c11
    clear c11
    simp only [Option.some.injEq, Prod.mk.injEq] at H
    obtain ⟨rfl, rfl⟩ := H
    obtain ⟨bE, bF, bG, bH⟩ := cf2_ aB
    go_wp2
    go_ret2
    exact ⟨e_, bl_ HB⟩
   rw [if_pos c11] at H
   have aW := decide_eq_true c11
   clear c11
   by_cases c12 : 0 ≤ aA
   case neg => exact no_ c12 H
   rw [if_pos c12] at H
   have cB := decide_eq_true c12
   clear c12
   by_cases c13 : ((rd_T98 l0_1 aA).f0) = a1
   case neg =>
    rw [if_neg c13] at H
    have aX := beq_eq_false_iff_ne.mpr c13
    have aY := bne_iff_ne.mpr c13
    have H' := Zk H
    clear H
    obtain ⟨bI, bJ, bK, bL⟩ := cf2_ aB
    have aF : 0 ≤ (aA : Int) := of_decide_eq_true as_
    have aG : aA < (l0_1.length : Int) := of_decide_eq_true as_
    obtain ⟨aN, aP, aC, aD⟩ := at_T98 aJ.out aA aF aG
    cases aP
    replace aC := hx_ HB aC
    replace aD := hx_ HB aD
    replace aF := eq_true aF
    replace aG := eq_true aG
    go_wp2
    go_roundg k1
    case measure => have := HK1.out; omega
    case rel => exact ⟨(aL), (wrap64 (aA + 1)), q_, q_, H', ⟨by have := HK1.out; omega⟩, ⟨bk_ aB⟩, ⟨bl_ HB⟩⟩
   rw [if_pos c13] at H
   have aX := beq_iff_eq.mpr c13
   have aY := bne_eq_false_iff_eq.mpr c13
   clear c13
   have H' := Zk H
   clear H
   obtain ⟨bM, bN, bO, bP⟩ := cf2_ aB
   have aF : 0 ≤ (aA : Int) := of_decide_eq_true as_
   have aG : aA < (l0_1.length : Int) := of_decide_eq_true as_
   obtain ⟨aN, aP, aC, aD⟩ := at_T98 aJ.out aA aF aG
   cases aP
   replace aC := hx_ HB aC
   replace aD := hx_ HB aD
   replace aF := eq_true aF
   replace aG := eq_true aG
   have aQ : 0 ≤ (aA : Int) := of_decide_eq_true as_
   have aR : aA < (l0_1.length : Int) := of_decide_eq_true as_
   obtain ⟨aZ, bY, aH, aI⟩ := at_T98 aJ.out aA aQ aR
   obtain rfl : aN = aZ := (by injection bY)
   replace aH := hx_ HB aH
   replace aI := hx_ HB aI
   replace aQ := eq_true aQ
   replace aR := eq_true aR
   go_wp2
   go_roundg k1
   case measure => have := HK1.out; omega
   case rel => exact ⟨((rd_T98 l0_1 aA).f1), (wrap64 (aA + 1)), q_, q_, H', ⟨by have := HK1.out; omega⟩, ⟨bk_ aB⟩, ⟨bl_ HB⟩⟩
end
section
attribute [local go_sem] max2_int min2_int max_two min_two max_three min_three max_four min_four
def assartref14_asked.f (k : Nat) (l0_0 : List ByteArray) (l0_1 : List (S98)) (l1 : List (S98)) (a2 : Int) (a3 : ByteArray) : Option ((List (S98))) := (assartref02_Read.f k l0_0 l0_1 a2).bind fun bt392 => (if bt392.1.toList = a3.toList then (some l1) else (if l1.length < 5864062014805 then (some (l1 ++ [(⟨a2, a3⟩ : S98)])) else (none)))
theorem assartref14_asked.calls (k : Nat) (A0_0 : Option Addr) (c0_0 : Nat) (l0_0 : List ByteArray) (A0_1 : Option Addr) (c0_1 : Nat) (l0_1 : List (S98)) (P1_ : Nat → Prop) (u9000_ : Value) (l1 : List (S98)) (a2 : Int) (a3 : ByteArray) (r : List (S98)) (w0 w : World) (hB : Below w0.heap.size w0 w) (hr0_0 : ∀ W_, Kept w W_ (fun k_ => P1_ k_) → Kd.C Kd.string W_ A0_0 l0_0.length l0_0) (hc0_0 : l0_0.length ≤ c0_0) (hr0_1 : ∀ W_, Kept w W_ (fun k_ => P1_ k_) → Kd.C k98 W_ A0_1 l0_1.length l0_1) (hc0_1 : l0_1.length ≤ c0_1) (ho1 : Kd.R k98 98 w w0.heap.size P1_ u9000_ l1) (h : assartref14_asked.f k l0_0 l0_1 l1 a2 a3 = some r) :
  Calls Tryz.prog 97 #[.agg #[.slice A0_0 l0_0.length c0_0, .slice A0_1 l0_1.length c0_1], u9000_, .int .i64 a2, .string a3] w fun e w' => ∃ v0_ : Value, e = .returned (v0_) ∧ Kd.R k98 98 w' w0.heap.size (fun k_ => (P1_ k_ ∨ w.heap.size ≤ k_)) v0_ r ∧ Below w0.heap.size w0 w' ∧ Kept w w' (fun k_ => P1_ k_) := by
 have hu25 := Tryz.underlying25
 have hu98 := Tryz.underlying98
 have aD := Zk hr0_0
 have aE := Zk hc0_0
 clear hr0_0 hc0_0
 have aG := Zk hr0_1
 have aH := Zk hc0_1
 clear hr0_1 hc0_1
 have HO1 := Zk (show Kd.R k98 98 w w0.heap.size (fun k_ => (P1_ k_ ∨ w.heap.size ≤ k_)) u9000_ l1 from Kd.R_mono ho1 (fun k_ hk => (.inl hk)))
 have HK := Zk (Kept.refl w (fun k_ => P1_ k_))
 have HW0 := Zk hB.size
 have HB := Zk hB
 clear hB
 have H : ((assartref02_Read.f k l0_0 l0_1 a2).bind fun bt392 => (if bt392.1.toList = a3.toList then (some l1) else (if l1.length < 5864062014805 then (some (l1 ++ [(⟨a2, a3⟩ : S98)])) else (none)))) = some r := h
 clear h
 replace H := Option.bind_eq_some_iff.mp H
 obtain ⟨⟨aJ, aK⟩, A50, H⟩ := H
 (try dsimp only at H)
 have A5 := Zk A50
 clear A50
 by_cases c6 : aJ.toList = a3.toList
 case pos =>
  rw [if_pos c6] at H
  have aX := beq_iff_eq.mpr c6
  have aY := bne_eq_false_iff_eq.mpr c6
  clear c6
  obtain rfl := Option.some.inj H
  go_enter Tryz.func97, Tryz.ntmps97
  go_wp2_with (first | (refine gd_ 4 ?_; refine bx_ 4 #[.slice A0_0 l0_0.length c0_0, .slice A0_1 l0_1.length c0_1] 25 ?_; intro aI hg w7 hbox hb; replace HO1 := ar_ HO1 hb; have aA := Zk (hbox); have aM := gk_ HK hg; replace HK := kb_ HK hb; have aN := gw_ HB hg; replace HB := al_ HB hb; clear hb hbox hg; obtain ⟨aZ, bA, bB, bC⟩ := cf2_ aA) | (refine gc_ 117 ?_; refine gl_ 117 (some 14) #[.agg #[.slice A0_0 l0_0.length c0_0, .slice A0_1 l0_1.length c0_1], .int .i64 a2] Tryz.func117 ?_; (with_reducible refine (assartref02_Read.calls k _ _ l0_0 _ _ l0_1 a2 aJ aK _ (Kd.C_kept_now aD.out (kp_ HK)) aE.out (Kd.C_kept_now aG.out (kp_ HK)) aH.out A5.out).mono ?_); rintro e w9 ⟨rfl, hb⟩; refine ⟨_, rfl, ?_⟩; replace HO1 := ar_ HO1 hb; replace aA := ab_ aA hb; replace HK := kb_ HK hb; replace HB := al_ HB hb; (try clear hb)))
  go_ret
  exact ⟨_, e_, r_ HO1, bl_ HB, kp_ HK⟩
 rw [if_neg c6] at H
 have aX := beq_eq_false_iff_ne.mpr c6
 have aY := bne_iff_ne.mpr c6
 by_cases c10 : l1.length < 5864062014805
 case neg => exact no_ c10 H
 rw [if_pos c10] at H
 have LMc10 := Zk c10
 clear c10
 obtain ⟨bD, aC⟩ : ∃ y_ : List (S98), y_ = (l1 ++ [(⟨a2, a3⟩ : S98)]) := ⟨_, rfl⟩
 first | replace H := bnd_ aC H | rw [← aC] at H
 have aQ := Zk aC
 clear aC
 obtain rfl := Option.some.inj H
 go_enter Tryz.func97, Tryz.ntmps97
 go_wp2_with (first | (refine gd_ 4 ?_; refine bx_ 4 #[.slice A0_0 l0_0.length c0_0, .slice A0_1 l0_1.length c0_1] 25 ?_; intro aI hg w11 hbox hb; replace HO1 := ar_ HO1 hb; have aA := Zk (hbox); have aM := gk_ HK hg; replace HK := kb_ HK hb; have aN := gw_ HB hg; replace HB := al_ HB hb; clear hb hbox hg; obtain ⟨aT, aU, aV, aW⟩ := cf2_ aA) | (refine gc_ 117 ?_; refine gl_ 117 (some 14) #[.agg #[.slice A0_0 l0_0.length c0_0, .slice A0_1 l0_1.length c0_1], .int .i64 a2] Tryz.func117 ?_; (with_reducible refine (assartref02_Read.calls k _ _ l0_0 _ _ l0_1 a2 aJ aK _ (Kd.C_kept_now aD.out (kp_ HK)) aE.out (Kd.C_kept_now aG.out (kp_ HK)) aH.out A5.out).mono ?_); rintro e w13 ⟨rfl, hb⟩; refine ⟨_, rfl, ?_⟩; replace HO1 := ar_ HO1 hb; replace aA := ab_ aA hb; replace HK := kb_ HK hb; replace HB := al_ HB hb; (try clear hb)) | ((with_reducible refine gate_builtin (b := .append) (xs := #[.tmp 21, .tmp 25]) rfl ?_); at_builtin; refine Kd.R_append k98 (w0 := w0) w0.heap.size rfl (.tmp 21) (.tmp 25) 23 98 (.agg #[(.int .i64 0), (.string ⟨#[]⟩)]) 24 rfl Tryz.underlying23 info98 rfl (by decide) (by omega) u9000_ l1 (⟨a2, a3⟩ : S98) [.int .i64 a2, .string a3] (fun k_ => (P1_ k_ ∨ w.heap.size ≤ k_)) (fun _ => False) rfl rfl ?aP (fun _ hk => hk.elim) ?aF ?aO ?aB ?aS ?aL ?_; (case aP => exact k98_mkM _ _ _ (⟨a2, a3⟩ : S98)); (case aB => exact (bl_ HB)); (case aF => exact (fun k_ hk => (.inr (Nat.le_trans (k1_ HK) hk)))); (case aO => exact (r_ HO1)); (case aS => exact (below_size (bl_ HB))); (case aL => have := LMc10.out; omega); intro bE w14 ho hb hg hat; rw [← aQ.out] at ho; replace aA := Zk (blk_grown (g := aI) (o := .cells #[.slice A0_0 l0_0.length c0_0, .slice A0_1 l0_1.length c0_1] 25 (0, 0)) (bk_ aA) hg (Kd.R_ne HO1.out aA.out (by decide))); replace HB := Zk (hb); replace HK := Zk (Kept.of_grown (S := (fun k_ => P1_ k_)) hg (kp_ HK) (fun k_ e_ => (HO1.out.1 k_ e_))); have aR := Zk (ho); clear HO1; clear ho hb hg hat))
 go_ret
 exact ⟨_, e_, r_ aR, bl_ HB, kp_ HK⟩
end
section
attribute [local go_sem] max2_int min2_int max_two min_two max_three min_three max_four min_four
mutual
def assartref14_Chunks.l0 : Nat → List Int → List ByteArray → Int → Option (List ByteArray)
 | 0, _, _, _ => none
 | k + 1, x0, x3, x4 => if x4 < (x0.length : Int) then (if 40 ≤ 281474976710656 then (assartref14_Chunks.l1 k x0 x3 x4 (List.replicate 40 0) 0) else (none)) else (some x3)
def assartref14_Chunks.l1 : Nat → List Int → List ByteArray → Int → List Int → Int → Option (List ByteArray)
 | 0, _, _, _, _, _ => none
 | k + 1, x0, x3, x4, x5, x6 => if x6 < 40 then (if (wrap64 (x4 + x6)) < (x0.length : Int) then (if 0 ≤ (wrap64 (x4 + x6)) then (if 0 ≤ x6 then (if x6 < (x5.length : Int) then (assartref14_Chunks.l1 k x0 x3 x4 (x5.set (x6 : Int).toNat (rd x0 (wrap64 (x4 + x6)))) (wrap64 (x6 + 1))) else (none)) else (none)) else (none)) else (if x3.length < 8796093022208 then (assartref14_Chunks.l0 k x0 (x3 ++ [strOfNums x5]) (wrap64 (x4 + 40))) else (none))) else (if x3.length < 8796093022208 then (assartref14_Chunks.l0 k x0 (x3 ++ [strOfNums x5]) (wrap64 (x4 + 40))) else (none))
end
def assartref14_Chunks.f (k : Nat) (l0 : List Int) : Option (List ByteArray) := assartref14_Chunks.l0 k l0 ([] : List ByteArray) 0
theorem assartref14_Chunks.calls (k : Nat) (A0 : Option Addr) (c0 : Nat) (l0 : List Int) (r : List ByteArray) (w : World) (hr0 : Kd.C (Kd.int .u8) w A0 l0.length l0) (hc0 : l0.length ≤ c0) (h : assartref14_Chunks.f k l0 = some r) :
  Calls Tryz.prog 98 #[.slice A0 l0.length c0] w fun e w' => ∃ v0_ : Value, e = .returned (v0_) ∧ Kd.R Kd.string 9 w' w.heap.size (fun _ => True) v0_ r ∧ Below w.heap.size w w' := by
 have HR0 := Zk hr0
 have HC0 := Zk hc0
 clear hr0 hc0
 have HB := Zk (Below.refl w.heap.size w)
 have H : (assartref14_Chunks.l0 k l0 ([] : List ByteArray) 0) = some r := h
 clear h
 have H' := Zk H
 clear H
 go_enter Tryz.func98, Tryz.ntmps98
 go_wp2
 go_loopg [3, 4] k (fun kq v3 v4 w' => ∃ (aG : List ByteArray) (aH : Int), v4 = .int .i64 aH ∧ Aside0 (assartref14_Chunks.l0 kq l0 aG aH = some r) ∧ Aside0 (kq ≤ k) ∧ Aside0 (Kd.R Kd.string 9 w' w.heap.size (fun _ => True) v3 aG) ∧ Aside0 (Below w.heap.size w w'))
 case atStart => exact ⟨(([] : List ByteArray)), (0), q_, H', ⟨Nat.le_refl _⟩, ⟨by first | exact Kd.R_nil _ _ _ _ _ | exact Kd.N_nil _ _ _ _ _ | exact Kd.V_nil _ _ _ _ _ | exact Kd.Q_nil _ _ _ _ _ | exact Kd.S_nil _ _ _ _ _⟩, ⟨bl_ HB⟩⟩
 case round =>
  clear H'
  obtain ⟨aG, aH, rfl, HA, HK1, aC, HB⟩ := hrel
  cases gk with
  | zero => exact absurd HA.out (by simp [assartref14_Chunks.l0])
  | succ k1 =>
   have H := HA.out
   clear HA
   simp only [assartref14_Chunks.l0] at H
   by_cases c2 : aH < (l0.length : Int)
   case neg =>
    rw [if_neg c2] at H
    have aU : decide (aH < (l0.length : Int)) = false := decide_eq_false c2
    clear c2
    obtain rfl := Option.some.inj H
    go_wp2
    go_ret
    exact ⟨_, e_, r_ aC, bl_ HB⟩
   rw [if_pos c2] at H
   have aU := decide_eq_true c2
   clear c2
   by_cases c3 : 40 ≤ 281474976710656
   case neg => exact no_ c3 H
   rw [if_pos c3] at H
   have bG := eq_true c3
   have bH := decide_eq_true c3
   clear c3
   obtain ⟨bI, aI⟩ : ∃ y_ : List Int, y_ = (List.replicate 40 0) := ⟨_, rfl⟩
   first | replace H := bnd_ aI H | rw [← aI] at H
   have aQ := Zk aI
   clear aI
   have H' := Zk H
   clear H
   go_wp2_with (first | (refine gd_ 13 ?_; (try (refine gate_guard (by rfl) ?_; dsimp only)); refine Kd.R_make (Kd.int .u8) _ 5 rfl (N := 13) rfl 54 _ _ rfl 40 rfl rfl Tryz.underlying54 (.int .u8 0) 1 info5 rfl (by decide) (by omega) 0 (ok := fun _ => True) (okp := fun _ => True) rfl (fun _ hk => hk) trivial (by omega) (by omega) (Below.refl _ _) (Nat.le_refl _) ?_; intro bJ w4 ho5 hb hg_ hnew_; clear hg_ hnew_; (first | rw [← aQ.out] at ho5 | (simp only [Int.reduceToNat] at ho5; rw [← aQ.out] at ho5)); replace aC := ar_ aC hb; have aV := Zk (Kd.R_lower ho5 (below_size (bl_ HB))); replace HB := al_ HB hb; clear hb ho5))
   go_loopg [6] k1 (fun kq v6 w' => ∃ (aD : List Int) (aA : Int), v6 = .int .i64 aA ∧ Aside0 (assartref14_Chunks.l1 kq l0 aG aH aD aA = some r) ∧ Aside0 (kq ≤ k1) ∧ Aside0 (Kd.R Kd.string 9 w' w.heap.size (fun _ => True) u3 aG) ∧ Aside0 (Kd.R (Kd.int .u8) 5 w' w.heap.size (fun _ => True) bJ aD) ∧ Aside0 (Below w.heap.size w w'))
   case atStart => exact ⟨(bI), (0), q_, H', ⟨Nat.le_refl _⟩, ⟨r_ aC⟩, ⟨r_ aV⟩, ⟨bl_ HB⟩⟩
   case round =>
    clear H'
    try clear aU
    try clear bG
    try clear bH
    obtain ⟨aD, aA, rfl, HA, HK2, aC, aE, HB⟩ := hrel
    cases gk with
    | zero => exact absurd HA.out (by simp [assartref14_Chunks.l1])
    | succ k2 =>
     have H := HA.out
     clear HA
     simp only [assartref14_Chunks.l1] at H
     by_cases c6 : aA < 40
     case neg =>
      rw [if_neg c6] at H
      have bK : decide (aA < 40) = false := decide_eq_false c6
      clear c6
      by_cases c18 : aG.length < 8796093022208
      case neg => exact no_ c18 H
      rw [if_pos c18] at H
      have LMc18 := Zk c18
      clear c18
      obtain ⟨bL, aJ⟩ : ∃ y_ : List ByteArray, y_ = (aG ++ [strOfNums aD]) := ⟨_, rfl⟩
      first | replace H := bnd_ aJ H | rw [← aJ] at H
      have aW := Zk aJ
      clear aJ
      have H' := Zk H
      clear H
      have hcv19 := own_string (P := Tryz.prog) Tryz.underlying54 Tryz.underlying5 Tryz.underlying9 (Kd.own_of_R aE.out)
      go_wp2_with (first | ((with_reducible refine gate_builtin (b := .append) (xs := #[.tmp 35, .tmp 38]) rfl ?_); (try (refine gate_guard (by rfl) ?_; dsimp only)); at_builtin; refine Kd.R_append Kd.string (w0 := w) w.heap.size rfl (.tmp 35) (.tmp 38) 22 9 (.string ⟨#[]⟩) 16 rfl Tryz.underlying22 info9 rfl (by decide) (by omega) u3 aG (strOfNums aD) [.string (strOfNums aD)] (fun _ => True) (fun _ => False) rfl rfl ?aP (fun _ hk => hk.elim) ?aF ?aO ?aB ?aS ?aL ?_; (case aP => exact rfl); (case aB => exact (bl_ HB)); (case aF => exact (fun _ _ => trivial)); (case aO => exact (r_ aC)); (case aS => exact (below_size (bl_ HB))); (case aL => have := LMc18.out; omega); intro bS w20 ho hb hg hat; rw [← aW.out] at ho; replace aE := Zk (Kd.R_over' (r_ aE) (Kd.R_typed (r_ aC)) (by decide) hg); replace HB := Zk (hb); have aX := Zk (ho); clear aC; clear ho hb hg hat))
      go_roundg k2
      case measure => have := HK1.out; have := HK2.out; omega
      case rel => exact ⟨(bL), (wrap64 (aH + 40)), q_, H', ⟨by have := HK1.out; have := HK2.out; omega⟩, ⟨r_ aX⟩, ⟨bl_ HB⟩⟩
     rw [if_pos c6] at H
     have bK := decide_eq_true c6
     clear c6
     by_cases c7 : (wrap64 (aH + aA)) < (l0.length : Int)
     case neg =>
      rw [if_neg c7] at H
      have aY := decide_eq_false c7
      clear c7
      by_cases c15 : aG.length < 8796093022208
      case neg => exact no_ c15 H
      rw [if_pos c15] at H
      have LMc15 := Zk c15
      clear c15
      obtain ⟨bM, aK⟩ : ∃ y_ : List ByteArray, y_ = (aG ++ [strOfNums aD]) := ⟨_, rfl⟩
      first | replace H := bnd_ aK H | rw [← aK] at H
      have aZ := Zk aK
      clear aK
      have H' := Zk H
      clear H
      have hcv16 := own_string (P := Tryz.prog) Tryz.underlying54 Tryz.underlying5 Tryz.underlying9 (Kd.own_of_R aE.out)
      go_wp2_with (first | ((with_reducible refine gate_builtin (b := .append) (xs := #[.tmp 35, .tmp 38]) rfl ?_); (try (refine gate_guard (by rfl) ?_; dsimp only)); at_builtin; refine Kd.R_append Kd.string (w0 := w) w.heap.size rfl (.tmp 35) (.tmp 38) 22 9 (.string ⟨#[]⟩) 16 rfl Tryz.underlying22 info9 rfl (by decide) (by omega) u3 aG (strOfNums aD) [.string (strOfNums aD)] (fun _ => True) (fun _ => False) rfl rfl ?aP (fun _ hk => hk.elim) ?aF ?aO ?aB ?aS ?aL ?_; (case aP => exact rfl); (case aB => exact (bl_ HB)); (case aF => exact (fun _ _ => trivial)); (case aO => exact (r_ aC)); (case aS => exact (below_size (bl_ HB))); (case aL => have := LMc15.out; omega); intro bT w17 ho hb hg hat; rw [← aZ.out] at ho; replace aE := Zk (Kd.R_over' (r_ aE) (Kd.R_typed (r_ aC)) (by decide) hg); replace HB := Zk (hb); have bA := Zk (ho); clear aC; clear ho hb hg hat))
      go_roundg k2
      case measure => have := HK1.out; have := HK2.out; omega
      case rel => exact ⟨(bM), (wrap64 (aH + 40)), q_, H', ⟨by have := HK1.out; have := HK2.out; omega⟩, ⟨r_ bA⟩, ⟨bl_ HB⟩⟩
     rw [if_pos c7] at H
     have aY := decide_eq_true c7
     clear c7
     obtain ⟨ji8, hji8⟩ : ∃ j_ : Int, (wrap64 (aH + aA)) = j_ := ⟨_, rfl⟩
     first | rw [hji8] at H | simp only [hji8] at H
     (try rw [hji8] at aY)
     have hji8w : (IntKind.i64.wrap (aH + aA)) = ji8 := (i64_w _).trans hji8
     by_cases c9 : 0 ≤ (ji8)
     case neg => exact no_ c9 H
     rw [if_pos c9] at H
     have bU := decide_eq_true c9
     clear c9
     by_cases c10 : 0 ≤ aA
     case neg => exact no_ c10 H
     rw [if_pos c10] at H
     have bP := decide_eq_true c10
     clear c10
     by_cases c11 : aA < (aD.length : Int)
     case neg => exact no_ c11 H
     rw [if_pos c11] at H
     have bQ := decide_eq_true c11
     clear c11
     obtain ⟨bB, aM⟩ : ∃ y_ : List Int, y_ = (aD.set (aA : Int).toNat (rd l0 (ji8))) := ⟨_, rfl⟩
     first | replace H := bnd_ aM H | rw [← aM] at H
     have bC := Zk aM
     clear aM
     have H' := Zk H
     clear H
     have aR : 0 ≤ ((ji8) : Int) := of_decide_eq_true as_
     have aT : (ji8) < (l0.length : Int) := of_decide_eq_true as_
     obtain ⟨bR, bN, aN⟩ := Kd.at_int HR0.out (ji8) aR aT
     cases bN
     replace aN := hx_ HB aN
     replace aR := eq_true aR
     replace aT := eq_true aT
     have p12 : 0 ≤ (aA : Int) := of_decide_eq_true as_
     have q12 : (aA : Int) < ((aD.length : Int) : Int) := of_decide_eq_true as_
     obtain ⟨go12, bD, bE, bF, gl12, cl12, HG12⟩ := Kd.R_form aE.out (by omega)
     (first | cases bE | (injection bE with ea_ en_ ec_; (first | subst ea_ | (injection ea_ with ea_; subst ea_)); subst ec_; clear en_))
     have GB12 := Zk bF
     have GG12 := Zk HG12
     clear bF gl12 HG12
     obtain ⟨bO, hf12_0⟩ := Kd.R_celln 0 aE.out (aA : Int) p12 q12
     replace p12 := eq_true p12
     replace q12 := eq_true q12
     have HP13 := Kd.R_putg aE.out (aA : Int) (rd l0 (ji8))
     go_wp2_with (first | ((with_reducible refine gate_store (t := 5) (p := 34) rfl ?_); refine store_event (t := 5) (p := 34) (v := ?vo_w14) (w1 := (wr.setCell ⟨go12, (aA : Int).toNat, none⟩ (.int .u8 (rd l0 (ji8))))) ?hg ?ho ?hn ?hr ?_; (case ho => rfl); (case hg => rfl); (case hn => rfl); (case hr => first | (go_simp; done) | (go_simp; rfl)); intro w14 hw; have hg : wr.grownBy w14 (some go12) := (by rw [hw]; exact HP13.2); have hp_ : Kd.R (Kd.int .u8) 5 w14 w.heap.size (fun _ => True) (.slice (some ⟨go12, 0, none⟩) aD.length bD) bB := (by rw [hw, bC.out]; exact HP13.1); clear HP13; replace aC := Zk (Kd.R_over' (v := (.slice (some ⟨go12, 0, none⟩) aD.length bD)) (r_ aC) (Kd.R_typed aE.out) (by decide) hg); replace aE := Zk (hp_); replace HB := Zk ((by rw [hw]; exact below_set (HB.out) GB12.out : Below w.heap.size w w14)); clear hg hw hp_))
     go_roundg k2
     case measure => have := HK1.out; have := HK2.out; omega
     case rel => exact ⟨(bB), (wrap64 (aA + 1)), q_, H', ⟨by have := HK1.out; have := HK2.out; omega⟩, ⟨r_ aC⟩, ⟨r_ aE⟩, ⟨bl_ HB⟩⟩
end
section
attribute [local go_sem] max2_int min2_int max_two min_two max_three min_three max_four min_four
def assartref03_Book.f (k : Nat) (l0 : List Int) : Option (Int × Int) := (assartref01_Sum.f k l0).bind fun aA => (some ((l0.length : Int), aA))
theorem assartref03_Book.calls (k : Nat) (A0 : Option Addr) (c0 : Nat) (l0 : List Int) (r1 : Int) (r2 : Int) (w : World) (hr0 : Kd.C (Kd.int .u8) w A0 l0.length l0) (hc0 : l0.length ≤ c0) (h : assartref03_Book.f k l0 = some (r1, r2)) :
  Calls Tryz.prog 99 #[.slice A0 l0.length c0] w fun e w' => e = .returned (.tuple #[.int .i64 r1, .int .i64 r2]) ∧ Drawn0 w w' := by
 have HR0 := Zk hr0
 have HC0 := Zk hc0
 clear hr0 hc0
 have H : ((assartref01_Sum.f k l0).bind fun aA => (some ((l0.length : Int), aA))) = some (r1, r2) := h
 clear h
 replace H := Option.bind_eq_some_iff.mp H
 obtain ⟨aA, A20, H⟩ := H
 (try dsimp only at H)
 have A2 := Zk A20
 clear A20
 simp only [Option.some.injEq, Prod.mk.injEq] at H
 obtain ⟨rfl, rfl⟩ := H
 go_enter Tryz.func99, Tryz.ntmps99
 go_wp2_with (first | (refine gc_ 118 ?_; refine gl_ 118 (some 7) #[.slice A0 l0.length c0] Tryz.func118 ?_; (with_reducible refine (assartref01_Sum.calls k _ _ l0 aA _ (ct_ HR0.out) HC0.out A2.out).mono ?_); rintro e w' ⟨rfl, ⟨nd, rfl⟩⟩; refine ⟨_, rfl, ?_⟩))
 go_ret2
 exact ⟨q_, by repeat (first | exact Drawn0.refl _ | apply Drawn0.step)⟩
end
section
attribute [local go_sem] max2_int min2_int max_two min_two max_three min_three max_four min_four
mutual
def assartref14_Plan.l0 : Nat → Int → List Int → Int → List (S98) → Int → List ByteArray → List (S98) → List (S65) → Int → List (S122) → List (Nat × Nat) → Int → Int → Option ((List (S98)) × Int)
 | 0, _, _, _, _, _, _, _, _, _, _, _, _, _ => none
 | k + 1, x6, x7, x9, x10, x11, aA, aB, aC, aD, aE, aF, aG, aH => if x11 < x6 then (if 0 ≤ x11 then (if x11 < (aC.length : Int) then (if ((rd_T65 aC x11).f0) > 0 then (none) else (assartref14_Plan.l0 k x6 x7 x9 x10 (wrap64 (x11 + 1)) aA aB aC aD aE aF aG aH)) else (none)) else (none)) else ((assartref14_Chunks.f k x7).bind fun aK => (assartref14_Plan.l1 k x6 x7 x9 x10 aK 0 aA aB))
def assartref14_Plan.l1 : Nat → Int → List Int → Int → List (S98) → List ByteArray → Int → List ByteArray → List (S98) → Option ((List (S98)) × Int)
 | 0, _, _, _, _, _, _, _, _ => none
 | k + 1, x6, x7, x9, x10, x14, x15, aA, aB => if x15 < (x14.length : Int) then ((assartref14_Area.f k x6).bind fun aL => (if 0 ≤ x15 then ((assartref14_asked.f k aA aB x10 (wrap64 ((wrap64 (2 + (wrap64 ((Int.tmod x9 2) * aL)))) + x15)) (rdOf ByteArray.empty x14 x15)).bind fun aM => (assartref14_Plan.l1 k x6 x7 x9 aM x14 (wrap64 (x15 + 1)) aA aB)) else (none))) else ((assartref03_Book.f k x7).bind fun bt421 => ((assartref03_Print.f k x9 bt421.1 bt421.2).bind fun bt423 => (if x10.length < 5864062014805 then ((some (x10 ++ [(⟨(-1), (⟨#[]⟩ : ByteArray)⟩ : S98)] : List (S98))).bind fun aI => (if aI.length < 5864062014805 then ((some (aI ++ [(⟨Int.tmod x9 2, bt423.1⟩ : S98)] : List (S98))).bind fun aJ => (if aJ.length < 5864062014805 then (some ((aJ ++ [(⟨(-1), (⟨#[]⟩ : ByteArray)⟩ : S98)]), 0)) else (none))) else (none))) else (none))))
end
def assartref14_Plan.f (k : Nat) (l0_0 : List ByteArray) (l0_1 : List (S98)) (l1_0 : List (S65)) (a1_1 : Int) (l1_2 : List (S122)) (l1_3 : List (Nat × Nat)) (a1_4 : Int) (a1_5 : Int) : Option ((List (S98)) × Int) := (assartref14_Cells.f k (l0_0.length : Int)).bind fun aA => (if aA = (l1_0.length : Int) then ((assartref13_Print.f k l1_0 a1_1 l1_2 l1_3 a1_4 a1_5).bind fun bt408 => (if bt408.2 = 0 then (if a1_5 = 2147483647 then (some (([] : List (S98)), 3)) else (assartref14_Plan.l0 k (l1_0.length : Int) bt408.1 (wrap64 (a1_5 + 1)) ([] : List (S98)) 0 l0_0 l0_1 l1_0 a1_1 l1_2 l1_3 a1_4 a1_5)) else (none))) else (none))
def assartref14_Plan.T19 : Bool × List (List Nat × List Nat) := (true, [([], []), ([], []), ([], []), ([2], [2]), ([], []), ([4], [4]), ([3, 5], [3, 5]), ([6], [6]), ([], []), ([7, 8], [7, 8]), ([], []), ([], []), ([10, 11], [10, 11]), ([12], [12]), ([0, 1, 9, 13, 5], [0, 1, 9, 13]), ([14, 14, 0, 1, 2, 3, 4, 5, 6, 7, 8, 9, 10, 11, 12, 13, 14], [1, 14])])
def assartref14_Plan.B19 : List Nat := [0, 0, 0, 4, 0, 16, 60, 124, 0, 508, 0, 0, 3072, 7168, 16383, 32767]
theorem assartref14_Plan.tab19 : rtab .any (opsOf Tryz.f78 19) = assartref14_Plan.T19 := by kernel_rfl
theorem assartref14_Plan.bits19 : waitsOk assartref14_Plan.T19.2 assartref14_Plan.B19 = true := by kernel_rfl
theorem assartref14_Plan.calls (k : Nat) (A0_0 : Option Addr) (c0_0 : Nat) (l0_0 : List ByteArray) (A0_1 : Option Addr) (c0_1 : Nat) (l0_1 : List (S98)) (A1_0 : Option Addr) (c1_0 : Nat) (l1_0 : List (S65)) (a1_1 : Int) (A1_2 : Option Addr) (c1_2 : Nat) (l1_2 : List (S122)) (A1_3 : Option Addr) (c1_3 : Nat) (l1_3 : List (Nat × Nat)) (a1_4 : Int) (a1_5 : Int) (r1 : List (S98)) (r2 : Int) (w : World) (hr0_0 : Kd.C Kd.string w A0_0 l0_0.length l0_0) (hc0_0 : l0_0.length ≤ c0_0) (hr0_1 : Kd.C k98 w A0_1 l0_1.length l0_1) (hc0_1 : l0_1.length ≤ c0_1) (hr1_0 : Kd.C k65 w A1_0 l1_0.length l1_0) (hc1_0 : l1_0.length ≤ c1_0) (hr1_2 : Kd.C k122 w A1_2 l1_2.length l1_2) (hc1_2 : l1_2.length ≤ c1_2) (hr1_3 : Kd.C kc w A1_3 l1_3.length l1_3) (hc1_3 : l1_3.length ≤ c1_3) (h : assartref14_Plan.f k l0_0 l0_1 l1_0 a1_1 l1_2 l1_3 a1_4 a1_5 = some (r1, r2)) :
  Calls Tryz.prog 78 #[.agg #[.slice A0_0 l0_0.length c0_0, .slice A0_1 l0_1.length c0_1], .agg #[.slice A1_0 l1_0.length c1_0, .int .i64 a1_1, .slice A1_2 l1_2.length c1_2, .slice A1_3 l1_3.length c1_3, .int .i64 a1_4, .int .i64 a1_5]] w fun e w' => ∃ v0_ : Value, e = .returned (.tuple #[v0_, .int .i64 r2]) ∧ Kd.R k98 98 w' w.heap.size (fun _ => True) v0_ r1 ∧ Below w.heap.size w w' := by
 have hu25 := Tryz.underlying25
 have hu34 := Tryz.underlying34
 have hu63 := Tryz.underlying63
 have hu40 := Tryz.underlying40
 have hu98 := Tryz.underlying98
 have cH := Zk hr0_0
 have cI := Zk hc0_0
 clear hr0_0 hc0_0
 have cJ := Zk hr0_1
 have cK := Zk hc0_1
 clear hr0_1 hc0_1
 have bF := Zk hr1_0
 have bJ := Zk hc1_0
 clear hr1_0 hc1_0
 have bK := Zk hr1_2
 have bL := Zk hc1_2
 clear hr1_2 hc1_2
 have bM := Zk hr1_3
 have bN := Zk hc1_3
 clear hr1_3 hc1_3
 have HB := Zk (Below.refl w.heap.size w)
 have H : ((assartref14_Cells.f k (l0_0.length : Int)).bind fun bG => (if bG = (l1_0.length : Int) then ((assartref13_Print.f k l1_0 a1_1 l1_2 l1_3 a1_4 a1_5).bind fun bt408 => (if bt408.2 = 0 then (if a1_5 = 2147483647 then (some (([] : List (S98)), 3)) else (assartref14_Plan.l0 k (l1_0.length : Int) bt408.1 (wrap64 (a1_5 + 1)) ([] : List (S98)) 0 l0_0 l0_1 l1_0 a1_1 l1_2 l1_3 a1_4 a1_5)) else (none))) else (none))) = some (r1, r2) := h
 clear h
 replace H := Option.bind_eq_some_iff.mp H
 obtain ⟨bG, A30, H⟩ := H
 (try dsimp only at H)
 have A3 := Zk A30
 clear A30
 by_cases c4 : bG = (l1_0.length : Int)
 case neg => exact no_ c4 H
 rw [if_pos c4] at H
 have cL := beq_iff_eq.mpr c4
 have cM := bne_eq_false_iff_eq.mpr c4
 clear c4
 replace H := Option.bind_eq_some_iff.mp H
 obtain ⟨⟨aQ, bS⟩, A50, H⟩ := H
 (try dsimp only at H)
 have A5 := Zk A50
 clear A50
 by_cases c6 : bS = 0
 case neg => exact no_ c6 H
 rw [if_pos c6] at H
 have cN := beq_iff_eq.mpr c6
 have cO := bne_eq_false_iff_eq.mpr c6
 clear c6
 by_cases c7 : a1_5 = 2147483647
 case pos =>
  rw [if_pos c7] at H
  have bT := beq_iff_eq.mpr c7
  have bU := bne_eq_false_iff_eq.mpr c7
  clear c7
  simp only [Option.some.injEq, Prod.mk.injEq] at H
  obtain ⟨rfl, rfl⟩ := H
  go_enter Tryz.func78, Tryz.ntmps78
  go_wp2_with (first | (refine gd_ 2 ?_; refine bx_ 2 #[.slice A0_0 l0_0.length c0_0, .slice A0_1 l0_1.length c0_1] 25 ?_; intro aN hg w8 hbox hb; have aA := Zk (hbox); have bO := gw_ HB hg; replace HB := al_ HB hb; clear hb hbox hg) | (refine gd_ 3 ?_; refine bx_ 3 #[.slice A1_0 l1_0.length c1_0, .int .i64 a1_1, .slice A1_2 l1_2.length c1_2, .slice A1_3 l1_3.length c1_3, .int .i64 a1_4, .int .i64 a1_5] 34 ?_; intro aR hg w9 hbox hb; have aC := Zk (hbox); have bP := gw_ HB hg; replace HB := al_ HB hb; have aJ := n1_ aA hg; have aK := n2_ aA hg; replace aA := ab_ aA hb; clear hb hbox hg; obtain ⟨gL, gM⟩ := nn_ aK aJ; obtain ⟨dI, dJ, dK, dL, dM, dN, dO, dP, dQ, dR, dS, dT⟩ := cf6_ aC; obtain ⟨dU, dV, dW, dX⟩ := cf2_ aA) | (refine gc_ 44 ?_; refine gl_ 44 (some 27) #[.int .i64 (l0_0.length : Int)] Tryz.func44 ?_; (with_reducible refine (assartref14_Cells.calls k (l0_0.length : Int) bG _ A3.out).mono ?_); rintro e w' ⟨rfl, ⟨nd, rfl⟩⟩; refine ⟨_, rfl, ?_⟩) | (refine gc_ 95 ?_; refine gl_ 95 (some 32) #[.agg #[.slice A1_0 l1_0.length c1_0, .int .i64 a1_1, .slice A1_2 l1_2.length c1_2, .slice A1_3 l1_3.length c1_3, .int .i64 a1_4, .int .i64 a1_5]] Tryz.func95 ?_; (with_reducible refine (assartref13_Print.calls k _ _ l1_0 a1_1 _ _ l1_2 _ _ l1_3 a1_4 a1_5 aQ bS _ (ct_ (Kd.C_below bF.out (bl_ HB))) bJ.out (ct_ (Kd.C_below bK.out (bl_ HB))) bL.out (ct_ (Kd.C_below bM.out (bl_ HB))) bN.out A5.out).mono ?_); rintro e w13 ⟨cP, rfl, ho0, hb⟩; refine ⟨_, rfl, ?_⟩; have bQ := Zk (Kd.R_lower ho0 (below_size (bl_ HB))); replace aA := ab_ aA hb; replace aC := ab_ aC hb; replace HB := al_ HB hb; (try clear hb); (try clear ho0); obtain ⟨dY, dZ, eA, eB, eC, eD, eE, eF, eG, eH, eI, eJ⟩ := cf6_ aC))
  go_ret2
  exact ⟨_, e_, by first | exact Kd.R_nil _ _ _ _ _ | exact Kd.N_nil _ _ _ _ _ | exact Kd.V_nil _ _ _ _ _ | exact Kd.Q_nil _ _ _ _ _ | exact Kd.S_nil _ _ _ _ _, bl_ HB⟩
 rw [if_neg c7] at H
 have bT := beq_eq_false_iff_ne.mpr c7
 have bU := bne_iff_ne.mpr c7
 have H' := Zk H
 clear H
 go_enter Tryz.func78, Tryz.ntmps78
 go_wp2_with (first | (refine gd_ 2 ?_; refine bx_ 2 #[.slice A0_0 l0_0.length c0_0, .slice A0_1 l0_1.length c0_1] 25 ?_; intro aN hg w15 hbox hb; have aA := Zk (hbox); have bO := gw_ HB hg; replace HB := al_ HB hb; clear hb hbox hg) | (refine gd_ 3 ?_; refine bx_ 3 #[.slice A1_0 l1_0.length c1_0, .int .i64 a1_1, .slice A1_2 l1_2.length c1_2, .slice A1_3 l1_3.length c1_3, .int .i64 a1_4, .int .i64 a1_5] 34 ?_; intro aR hg w16 hbox hb; have aC := Zk (hbox); have bP := gw_ HB hg; replace HB := al_ HB hb; have aJ := n1_ aA hg; have aK := n2_ aA hg; replace aA := ab_ aA hb; clear hb hbox hg; obtain ⟨gN, gO⟩ := nn_ aK aJ; obtain ⟨eK, eL, eM, eN, eO, eP, eQ, eR, eS, eT, eU, eV⟩ := cf6_ aC; obtain ⟨eW, eX, eY, eZ⟩ := cf2_ aA) | (refine gc_ 44 ?_; refine gl_ 44 (some 27) #[.int .i64 (l0_0.length : Int)] Tryz.func44 ?_; (with_reducible refine (assartref14_Cells.calls k (l0_0.length : Int) bG _ A3.out).mono ?_); rintro e w' ⟨rfl, ⟨nd, rfl⟩⟩; refine ⟨_, rfl, ?_⟩) | (refine gc_ 95 ?_; refine gl_ 95 (some 32) #[.agg #[.slice A1_0 l1_0.length c1_0, .int .i64 a1_1, .slice A1_2 l1_2.length c1_2, .slice A1_3 l1_3.length c1_3, .int .i64 a1_4, .int .i64 a1_5]] Tryz.func95 ?_; (with_reducible refine (assartref13_Print.calls k _ _ l1_0 a1_1 _ _ l1_2 _ _ l1_3 a1_4 a1_5 aQ bS _ (ct_ (Kd.C_below bF.out (bl_ HB))) bJ.out (ct_ (Kd.C_below bK.out (bl_ HB))) bL.out (ct_ (Kd.C_below bM.out (bl_ HB))) bN.out A5.out).mono ?_); rintro e w20 ⟨cP, rfl, ho0, hb⟩; refine ⟨_, rfl, ?_⟩; have bQ := Zk (Kd.R_lower ho0 (below_size (bl_ HB))); replace aA := ab_ aA hb; replace aC := ab_ aC hb; replace HB := al_ HB hb; (try clear hb); (try clear ho0); obtain ⟨fA, fB, fC, fD, fE, fF, fG, fH, fI, fJ, fK, fL⟩ := cf6_ aC))
 go_loopg [10, 11] k (fun kq v10 v11 w' => ∃ (bA : List (S98)) (aI : Int), v11 = .int .i64 aI ∧ Aside0 (assartref14_Plan.l0 kq (l1_0.length : Int) aQ (wrap64 (a1_5 + 1)) bA aI l0_0 l0_1 l1_0 a1_1 l1_2 l1_3 a1_4 a1_5 = some (r1, r2)) ∧ Aside0 (kq ≤ k) ∧ Aside0 (Kd.R (Kd.int .u8) 5 w' w.heap.size (fun _ => True) cP aQ) ∧ Aside0 (Kd.R k98 98 w' w.heap.size (fun _ => True) v10 bA) ∧ Aside0 (w'.heap[aN]? = some (.cells #[(.slice A0_0 l0_0.length c0_0), (.slice A0_1 l0_1.length c0_1)] 25 (0, 0))) ∧ Aside0 (w'.heap[aR]? = some (.cells #[(.slice A1_0 l1_0.length c1_0), .int .i64 a1_1, (.slice A1_2 l1_2.length c1_2), (.slice A1_3 l1_3.length c1_3), .int .i64 a1_4, .int .i64 a1_5] 34 (0, 0))) ∧ Aside0 (Below w.heap.size w w'))
 case atStart => exact ⟨(([] : List (S98))), (0), q_, H', ⟨Nat.le_refl _⟩, ⟨r_ bQ⟩, ⟨by first | exact Kd.R_nil _ _ _ _ _ | exact Kd.N_nil _ _ _ _ _ | exact Kd.V_nil _ _ _ _ _ | exact Kd.Q_nil _ _ _ _ _ | exact Kd.S_nil _ _ _ _ _⟩, ⟨bk_ aA⟩, ⟨bk_ aC⟩, ⟨bl_ HB⟩⟩
 case round =>
  clear H'
  try clear cL
  try clear cM
  try clear cN
  try clear cO
  try clear bT
  try clear bU
  obtain ⟨bA, aI, rfl, HA, HK1, aH, aD, aA, aC, HB⟩ := hrel
  cases gk with
  | zero => exact absurd HA.out (by simp [assartref14_Plan.l0])
  | succ k1 =>
   have H := HA.out
   clear HA
   simp only [assartref14_Plan.l0] at H
   by_cases c22 : aI < (l1_0.length : Int)
   case pos =>
    rw [if_pos c22] at H
    have bR := decide_eq_true c22
    clear c22
    by_cases c23 : 0 ≤ aI
    case neg => exact no_ c23 H
    rw [if_pos c23] at H
    have cQ := decide_eq_true c23
    clear c23
    by_cases c24 : aI < (l1_0.length : Int)
    case neg => exact no_ c24 H
    rw [if_pos c24] at H
    have cR := decide_eq_true c24
    clear c24
    by_cases c25 : ((rd_T65 l1_0 aI).f0) > 0
    case pos =>
     rw [if_pos c25] at H
     exact absurd H (by simp)
    rw [if_neg c25] at H
    have cS : decide (0 < ((rd_T65 l1_0 aI).f0)) = false := decide_eq_false c25
    clear c25
    have H' := Zk H
    clear H
    obtain ⟨gP, gQ⟩ := nn_ aK aJ
    obtain ⟨fM, fN, fO, fP, fQ, fR, fS, fT, fU, fV, fW, fX⟩ := cf6_ aC
    have bV : 0 ≤ (aI : Int) := of_decide_eq_true as_
    have bI : aI < (l1_0.length : Int) := of_decide_eq_true as_
    obtain ⟨gR, gA, gB, gC, aV, aW, aX, aY, hl412_3, hi412_3⟩ := at_T65 bF.out aI bV bI
    cases gC
    replace aV := hx_ HB aV
    replace aW := hx_ HB aW
    replace aX := hx_ HB aX
    replace aY := hx_ HB aY
    have fY := Zk hi412_3
    have fZ := Zk hl412_3
    clear hi412_3 hl412_3
    replace bV := eq_true bV
    replace bI := eq_true bI
    go_wp2
    go_roundg k1
    case measure => have := HK1.out; omega
    case rel => exact ⟨(bA), (wrap64 (aI + 1)), q_, H', ⟨by have := HK1.out; omega⟩, ⟨r_ aH⟩, ⟨r_ aD⟩, ⟨bk_ aA⟩, ⟨bk_ aC⟩, ⟨bl_ HB⟩⟩
   rw [if_neg c22] at H
   have bR := decide_eq_false c22
   clear c22
   replace H := Option.bind_eq_some_iff.mp H
   obtain ⟨aZ, cT, H⟩ := H
   (try dsimp only at H)
   have A28 := Zk cT
   clear cT
   have H' := Zk H
   clear H
   obtain ⟨bW, bX, gD⟩ := Kd.R_slice aH.out
   subst gD
   go_wp2_with (first | (refine gc_ 98 ?_; refine gl_ 98 (some 78) #[.slice bW aQ.length bX] Tryz.func98 ?_; (with_reducible refine (assartref14_Chunks.calls k1 _ _ aQ aZ _ (ct_ (Kd.R_reads' aH.out).2.2) ((Kd.R_reads' aH.out).2.1) A28.out).mono ?_); rintro e w30 ⟨gE, rfl, ho0, hb⟩; refine ⟨_, rfl, ?_⟩; replace aH := ar_ aH hb; replace aD := ar_ aD hb; have cU := Zk (Kd.R_lower ho0 (below_size (bl_ HB))); replace aA := ab_ aA hb; replace aC := ab_ aC hb; replace HB := al_ HB hb; (try clear hb); (try clear ho0)))
   go_loopg [10, 15] k1 (fun kq v10 v15 w' => ∃ (aM : List (S98)) (aG : Int), v15 = .int .i64 aG ∧ Aside0 (assartref14_Plan.l1 kq (l1_0.length : Int) aQ (wrap64 (a1_5 + 1)) aM aZ aG l0_0 l0_1 = some (r1, r2)) ∧ Aside0 (kq ≤ k1) ∧ Aside0 (Kd.R (Kd.int .u8) 5 w' w.heap.size (fun _ => True) (.slice bW aQ.length bX) aQ) ∧ Aside0 (Kd.R k98 98 w' w.heap.size (fun _ => True) v10 aM) ∧ Aside0 (Kd.R Kd.string 9 w' w.heap.size (fun _ => True) gE aZ) ∧ Aside0 (w'.heap[aN]? = some (.cells #[(.slice A0_0 l0_0.length c0_0), (.slice A0_1 l0_1.length c0_1)] 25 (0, 0))) ∧ Aside0 (w'.heap[aR]? = some (.cells #[(.slice A1_0 l1_0.length c1_0), .int .i64 a1_1, (.slice A1_2 l1_2.length c1_2), (.slice A1_3 l1_3.length c1_3), .int .i64 a1_4, .int .i64 a1_5] 34 (0, 0))) ∧ Aside0 (Below w.heap.size w w'))
   case atStart => exact ⟨(bA), (0), q_, H', ⟨Nat.le_refl _⟩, ⟨r_ aH⟩, ⟨r_ aD⟩, ⟨r_ cU⟩, ⟨bk_ aA⟩, ⟨bk_ aC⟩, ⟨bl_ HB⟩⟩
   case round =>
    clear H'
    try clear cL
    try clear cM
    try clear q4
    try clear hx4
    try clear cN
    try clear cO
    try clear bT
    try clear bU
    try clear bR
    try clear cQ
    try clear cR
    try clear cS
    try clear aV
    try clear aW
    try clear aX
    try clear aY
    try clear bI
    obtain ⟨aM, aG, rfl, HA, HK2, aH, aD, aE, aA, aC, HB⟩ := hrel
    cases gk with
    | zero => exact absurd HA.out (by simp [assartref14_Plan.l1])
    | succ k2 =>
     have H := HA.out
     clear HA
     simp only [assartref14_Plan.l1] at H
     by_cases c31 : aG < (aZ.length : Int)
     case neg =>
      rw [if_neg c31] at H
      have cV : decide (aG < (aZ.length : Int)) = false := decide_eq_false c31
      clear c31
      replace H := Option.bind_eq_some_iff.mp H
      obtain ⟨⟨bY, bZ⟩, cW, H⟩ := H
      (try dsimp only at H)
      have A39 := Zk cW
      clear cW
      replace H := Option.bind_eq_some_iff.mp H
      obtain ⟨⟨bH, gF⟩, cX, H⟩ := H
      (try dsimp only at H)
      have A40 := Zk cX
      clear cX
      by_cases c41 : aM.length < 5864062014805
      case neg => exact no_ c41 H
      rw [if_pos c41] at H
      have LMc41 := Zk c41
      clear c41
      obtain ⟨cA, bB⟩ : ∃ y_ : List (S98), y_ = (aM ++ [(⟨(-1), (⟨#[]⟩ : ByteArray)⟩ : S98)]) := ⟨_, rfl⟩
      first | replace H := bnd_ bB H | rw [← bB] at H
      have cY := Zk bB
      clear bB
      by_cases c42 : cA.length < 5864062014805
      case neg => exact no_ c42 H
      rw [if_pos c42] at H
      have LMc42 := Zk c42
      clear c42
      obtain ⟨cB, bC⟩ : ∃ y_ : List (S98), y_ = (cA ++ [(⟨Int.tmod (wrap64 (a1_5 + 1)) 2, bH⟩ : S98)]) := ⟨_, rfl⟩
      first | replace H := bnd_ bC H | rw [← bC] at H
      have cZ := Zk bC
      clear bC
      by_cases c43 : cB.length < 5864062014805
      case neg => exact no_ c43 H
      rw [if_pos c43] at H
      have LMc43 := Zk c43
      clear c43
      obtain ⟨gT, bD⟩ : ∃ y_ : List (S98), y_ = (cB ++ [(⟨(-1), (⟨#[]⟩ : ByteArray)⟩ : S98)]) := ⟨_, rfl⟩
      first | replace H := bnd_ bD H | rw [← bD] at H
      have dA := Zk bD
      clear bD
      simp only [Option.some.injEq, Prod.mk.injEq] at H
      obtain ⟨rfl, rfl⟩ := H
      obtain ⟨gU, gV, gG⟩ := Kd.R_slice aE.out
      subst gG
      go_wp2_with (first | (refine gc_ 99 ?_; refine gl_ 99 (some 102) #[.slice bW aQ.length bX] Tryz.func99 ?_; (with_reducible refine (assartref03_Book.calls k2 _ _ aQ bY bZ _ (ct_ (Kd.R_reads' aH.out).2.2) ((Kd.R_reads' aH.out).2.1) A39.out).mono ?_); rintro e w' ⟨rfl, ⟨nd, rfl⟩⟩; refine ⟨_, rfl, ?_⟩) | (refine gc_ 100 ?_; refine gl_ 100 (some 110) #[.agg #[.int .i64 (wrap64 (a1_5 + 1)), .int .i64 bY, .int .i64 bZ]] Tryz.func100 ?_; (with_reducible refine (assartref03_Print.calls k2 (wrap64 (a1_5 + 1)) bY bZ bH gF _ A40.out).mono ?_); rintro e w45 ⟨rfl, hb⟩; refine ⟨_, rfl, ?_⟩; replace aH := ar_ aH hb; replace aD := ar_ aD hb; replace aE := ar_ aE hb; replace aA := ab_ aA hb; replace aC := ab_ aC hb; replace HB := al_ HB hb; (try clear hb)) | ((with_reducible refine gate_builtin (b := .append) (xs := #[.tmp 113, .tmp 115]) rfl ?_); at_builtin; refine Kd.R_append k98 (w0 := w) w.heap.size rfl (.tmp 113) (.tmp 115) 23 98 (.agg #[(.int .i64 0), (.string ⟨#[]⟩)]) 24 rfl Tryz.underlying23 info98 rfl (by decide) (by omega) u10 aM (⟨(-1), (⟨#[]⟩ : ByteArray)⟩ : S98) [.int .i64 (-1), .string (⟨#[]⟩ : ByteArray)] (fun _ => True) (fun _ => False) rfl rfl ?aP (fun _ hk => hk.elim) ?aF ?aO ?aB ?aS ?aL ?_; (case aP => exact k98_mkM _ _ _ (⟨(-1), (⟨#[]⟩ : ByteArray)⟩ : S98)); (case aB => exact (bl_ HB)); (case aF => exact (fun _ _ => trivial)); (case aO => exact (r_ aD)); (case aS => exact (below_size (bl_ HB))); (case aL => have := LMc41.out; omega); intro gH w46 ho hb hg hat; rw [← cY.out] at ho; replace aH := Zk (Kd.R_over' (r_ aH) (Kd.R_typed (r_ aD)) (by decide) hg); replace aE := Zk (Kd.R_over' (r_ aE) (Kd.R_typed (r_ aD)) (by decide) hg); replace aA := Zk (blk_grown (g := aN) (o := .cells #[.slice A0_0 l0_0.length c0_0, .slice A0_1 l0_1.length c0_1] 25 (0, 0)) (bk_ aA) hg (Kd.R_ne aD.out aA.out (by decide))); replace aC := Zk (blk_grown (g := aR) (o := .cells #[.slice A1_0 l1_0.length c1_0, .int .i64 a1_1, .slice A1_2 l1_2.length c1_2, .slice A1_3 l1_3.length c1_3, .int .i64 a1_4, .int .i64 a1_5] 34 (0, 0)) (bk_ aC) hg (Kd.R_ne aD.out aC.out (by decide))); replace HB := Zk (hb); have aT := Zk (ho); clear aD; clear ho hb hg hat) | ((with_reducible refine gate_builtin (b := .append) (xs := #[.tmp 117, .tmp 122]) rfl ?_); at_builtin; refine Kd.R_append k98 (w0 := w) w.heap.size rfl (.tmp 117) (.tmp 122) 23 98 (.agg #[(.int .i64 0), (.string ⟨#[]⟩)]) 24 rfl Tryz.underlying23 info98 rfl (by decide) (by omega) gH cA (⟨Int.tmod (wrap64 (a1_5 + 1)) 2, bH⟩ : S98) [.int .i64 (Int.tmod (wrap64 (a1_5 + 1)) 2), .string bH] (fun _ => True) (fun _ => False) rfl rfl ?aP (fun _ hk => hk.elim) ?aF ?aO ?aB ?aS ?aL ?_; (case aP => exact k98_mkM _ _ _ (⟨Int.tmod (wrap64 (a1_5 + 1)) 2, bH⟩ : S98)); (case aB => exact (bl_ HB)); (case aF => exact (fun _ _ => trivial)); (case aO => exact (r_ aT)); (case aS => exact (below_size (bl_ HB))); (case aL => have := LMc42.out; omega); intro gI w47 ho hb hg hat; rw [← cZ.out] at ho; replace aH := Zk (Kd.R_over' (r_ aH) (Kd.R_typed (r_ aT)) (by decide) hg); replace aE := Zk (Kd.R_over' (r_ aE) (Kd.R_typed (r_ aT)) (by decide) hg); replace aA := Zk (blk_grown (g := aN) (o := .cells #[.slice A0_0 l0_0.length c0_0, .slice A0_1 l0_1.length c0_1] 25 (0, 0)) (bk_ aA) hg (Kd.R_ne aT.out aA.out (by decide))); replace aC := Zk (blk_grown (g := aR) (o := .cells #[.slice A1_0 l1_0.length c1_0, .int .i64 a1_1, .slice A1_2 l1_2.length c1_2, .slice A1_3 l1_3.length c1_3, .int .i64 a1_4, .int .i64 a1_5] 34 (0, 0)) (bk_ aC) hg (Kd.R_ne aT.out aC.out (by decide))); replace HB := Zk (hb); have aU := Zk (ho); clear aT; clear ho hb hg hat) | ((with_reducible refine gate_builtin (b := .append) (xs := #[.tmp 124, .tmp 126]) rfl ?_); at_builtin; refine Kd.R_append k98 (w0 := w) w.heap.size rfl (.tmp 124) (.tmp 126) 23 98 (.agg #[(.int .i64 0), (.string ⟨#[]⟩)]) 24 rfl Tryz.underlying23 info98 rfl (by decide) (by omega) gI cB (⟨(-1), (⟨#[]⟩ : ByteArray)⟩ : S98) [.int .i64 (-1), .string (⟨#[]⟩ : ByteArray)] (fun _ => True) (fun _ => False) rfl rfl ?aP (fun _ hk => hk.elim) ?aF ?aO ?aB ?aS ?aL ?_; (case aP => exact k98_mkM _ _ _ (⟨(-1), (⟨#[]⟩ : ByteArray)⟩ : S98)); (case aB => exact (bl_ HB)); (case aF => exact (fun _ _ => trivial)); (case aO => exact (r_ aU)); (case aS => exact (below_size (bl_ HB))); (case aL => have := LMc43.out; omega); intro gW w48 ho hb hg hat; rw [← dA.out] at ho; replace aH := Zk (Kd.R_over' (r_ aH) (Kd.R_typed (r_ aU)) (by decide) hg); replace aE := Zk (Kd.R_over' (r_ aE) (Kd.R_typed (r_ aU)) (by decide) hg); replace aA := Zk (blk_grown (g := aN) (o := .cells #[.slice A0_0 l0_0.length c0_0, .slice A0_1 l0_1.length c0_1] 25 (0, 0)) (bk_ aA) hg (Kd.R_ne aU.out aA.out (by decide))); replace aC := Zk (blk_grown (g := aR) (o := .cells #[.slice A1_0 l1_0.length c1_0, .int .i64 a1_1, .slice A1_2 l1_2.length c1_2, .slice A1_3 l1_3.length c1_3, .int .i64 a1_4, .int .i64 a1_5] 34 (0, 0)) (bk_ aC) hg (Kd.R_ne aU.out aC.out (by decide))); replace HB := Zk (hb); have dB := Zk (ho); clear aU; clear ho hb hg hat))
      go_ret2
      exact ⟨_, e_, r_ dB, bl_ HB⟩
     rw [if_pos c31] at H
     have cV := decide_eq_true c31
     clear c31
     replace H := Option.bind_eq_some_iff.mp H
     obtain ⟨cC, dC, H⟩ := H
     (try dsimp only at H)
     have A32 := Zk dC
     clear dC
     by_cases c33 : 0 ≤ aG
     case neg => exact no_ c33 H
     rw [if_pos c33] at H
     have gS := decide_eq_true c33
     clear c33
     replace H := Option.bind_eq_some_iff.mp H
     obtain ⟨dD, dE, H⟩ := H
     (try dsimp only at H)
     have A34 := Zk dE
     clear dE
     have H' := Zk H
     clear H
     obtain ⟨gX, gY, gJ⟩ := Kd.R_slice aE.out
     subst gJ
     try go_wp2
     replace aH := Zk (Kd.R_drew aH.out)
     replace aD := Zk (Kd.R_drew aD.out)
     replace aE := Zk (Kd.R_drew aE.out)
     replace aA := Zk (blk_drew aA.out)
     replace aC := Zk (blk_drew aC.out)
     replace HB := Zk (below_drew1 HB.out)
     have cD : 0 ≤ (aG : Int) := of_decide_eq_true as_
     have cE : aG < (aZ.length : Int) := of_decide_eq_true as_
     obtain ⟨dF, gK, bE⟩ := Kd.at_string (Kd.R_reads' aE.out).2.2 aG cD cE
     cases gK
     replace cD := eq_true cD
     replace cE := eq_true cE
     refine start_ (n := 16) (S := fun w' => w'.cell? ⟨aN, 0, none⟩ = some (.slice A0_0 l0_0.length c0_0) ∧ w'.cell? ⟨aN, 1, none⟩ = some (.slice A0_1 l0_1.length c0_1) ∧ w'.cell? (dF.add (aG).toNat) = some (.string (rdOf ByteArray.empty aZ aG))) (ds := []) #[false, false, false, false, false, false, false, false, false, false, false, false, false, false, false, false] (by kernel_rfl) rfl rfl ⟨(blk_cell aA.out 0).trans rfl, (blk_cell aA.out 1).trans rfl, bE⟩ (fun hHeld => ?_); refine with_tabW assartref14_Plan.tab19 assartref14_Plan.bits19 (fun HT_ HW_ => ?_)
     generalize wr.drew = w36 at aH aD aE aA aC HB bE hHeld ⊢
     refine pu_ 1 86 ?_
     refine pu_ 2 87 ?_
     refine pu_ 3 88 ?_
     refine pu_ 4 89 ?_
     refine pu_ 8 93 ?_
     refine pu_ 10 95 ?_
     refine pu_ 11 96 ?_
     refine pu_ 12 97 ?_
     refine tk_ 0 85 ?_
     refine tk_ 13 98 ?_
     refine one_ (i := 5) (N := some 90) #[true, true, true, true, true, true, false, false, true, false, true, true, true, true, false, false] rfl rfl (one_of HT_.out (by kernel_rfl)) (by decide) (fun K hK => ?_)
     refine goes_ Tryz.func94 (by kernel_rfl) rfl #[.int .i64 (l1_0.length : Int)] (by rfl) rfl rfl (by (try simp only [List.map_toArray, List.map_cons, List.map_nil]); first | done | rfl | (simp only [List.length_drop, List.length_take]; rfl)) ?_
     with_reducible refine (assartref14_Area.calls k2 (l1_0.length : Int) cC _ A32.out).mono ?_
     rintro e w' ⟨rfl, ⟨nd, rfl⟩⟩
     refine ⟨_, rfl, ?_⟩
     obtain ⟨cF, cG, dG⟩ := Kd.R_slice aD.out
     (first | subst dG | (injection dG with f1_ f2_ f3_; have f4_ := f1_.symm; have f5_ := f3_.symm; clear f1_ f2_ f3_; subst f4_; subst f5_))
     refine hK.out _ _ ⟨(blk_cell aA.out 0).trans rfl, (blk_cell aA.out 1).trans rfl, hHeld.2.2⟩ (fun hHeld => ?_)
     clear hK K
     refine norm_ (a' := ?_) ?_ ?_
     rotate_left
     ·show Act.put _ (some 90) _ = _
      simp only [Act.put, List.setIfInBounds_toArray, List.set_cons_zero, List.set_cons_succ, i64_w, i32_w]
      rfl
     refine pu_ 6 91 ?_
     refine pu_ 7 92 ?_
     refine pu_ 9 94 ?_
     refine one_ (i := 14) (N := some 99) #[true, true, true, true, true, true, true, true, true, true, true, true, true, true, true, false] rfl rfl (one_of HT_.out (by kernel_rfl)) (by decide) (fun K hK => ?_)
     refine goes_ Tryz.func97 (by kernel_rfl) rfl #[.agg #[.slice A0_0 l0_0.length c0_0, .slice A0_1 l0_1.length c0_1], .slice cF aM.length cG, .int .i64 (wrap64 ((wrap64 (2 + (wrap64 ((Int.tmod (wrap64 (a1_5 + 1)) 2) * cC)))) + aG)), .string (rdOf ByteArray.empty aZ aG)] (by rfl) rfl rfl (by (try simp only [List.map_toArray, List.map_cons, List.map_nil]); first | done | rfl | (simp only [List.length_drop, List.length_take]; rfl)) ?_
     with_reducible refine (assartref14_asked.calls k2 _ _ l0_0 _ _ l0_1 (fun k_ => some k_ = (.slice cF aM.length cG : Value).ownBlock) (.slice cF aM.length cG) aM (wrap64 ((wrap64 (2 + (wrap64 ((Int.tmod (wrap64 (a1_5 + 1)) 2) * cC)))) + aG)) (rdOf ByteArray.empty aZ aG) dD w _ ?side1 ?side2 ?side3 ?side4 ?side5 ?side6 A34.out).mono ?_
     (case side1 => repeat (first | (with_reducible first | exact HB.out | apply below_alloc | apply pw_below_drewN | apply below_drew1 | refine below_set ?_ bO.out | refine below_set ?_ bP.out) | exact HB.out))
     (case side2 => exact Kd.C_kept_came Kd.heap_string cH.out (bl_ HB) (fun k_ hs_ => (fun e_ => Kd.R_base aD.out k_ e_.symm) hs_))
     (case side3 => exact cI.out)
     (case side4 => exact Kd.C_kept_came k98_heap cJ.out (bl_ HB) (fun k_ hs_ => (fun e_ => Kd.R_base aD.out k_ e_.symm) hs_))
     (case side5 => exact cK.out)
     (case side6 => exact Kd.R_tight rfl aD.out)
     rintro e w38 ⟨gZ, rfl, ho0, hb, hkp⟩
     have HS2_ := Go.Proofs.YtfmjepmgcdoelaaGreatW.PrintWords.cell_kept (hHeld.2.2) hkp (by first | (rw [add_block]; exact (fun hs_ => ((((Kd.R_apart' aE.out (Kd.R_typed aD.out) (by decide))).1 _ rfl).2) hs_)) | (show ¬ _; simp only [add_block]; exact (fun hs_ => ((((Kd.R_apart' aE.out (Kd.R_typed aD.out) (by decide))).1 _ rfl).2) hs_)) | exact (fun hs_ => ((((Kd.R_apart' aE.out (Kd.R_typed aD.out) (by decide))).1 _ rfl).2) hs_))
     refine ⟨_, rfl, ?_⟩
     replace aH := Zk (Kd.R_mono (ok' := fun k_ => True) (Kd.R_keptB ((Kd.R_apart' aH.out (Kd.R_typed aD.out) (by decide))) hkp (fun k_ hk_ hs_ => (hk_.2) hs_)) (fun k_ hk_ => trivial))
     replace aE := Zk (Kd.R_mono (ok' := fun k_ => True) (Kd.R_keptB ((Kd.R_apart' aE.out (Kd.R_typed aD.out) (by decide))) hkp (fun k_ hk_ hs_ => (hk_.2) hs_)) (fun k_ hk_ => trivial))
     replace aA := Zk (blk_kept (bk_ aA) hkp (fun hs_ => (fun e_ => (Kd.R_ne aD.out aA.out (by decide)) e_) hs_))
     replace aC := Zk (blk_kept (bk_ aC) hkp (fun hs_ => (fun e_ => (Kd.R_ne aD.out aC.out (by decide)) e_) hs_))
     have dH := Zk (Kd.R_mono (ok' := fun k_ => True) ho0 (fun k_ hk_ => trivial))
     replace HB := Zk (hb)
     clear aD
     (try clear hb)
     (try clear hkp)
     (try clear ho0)
     refine hK.out _ _ ⟨(blk_cell aA.out 0).trans rfl, (blk_cell aA.out 1).trans rfl, HS2_⟩ (fun hHeld => ?_)
     clear hK K
     refine norm_ (a' := ?_) ?_ ?_
     rotate_left
     ·show Act.put _ (some 99) _ = _
      simp only [Act.put, List.setIfInBounds_toArray, List.set_cons_zero, List.set_cons_succ, i64_w, i32_w]
      rfl
     refine pu_ 15 10 ?_
     refine done_ (done_of HT_.out (by kernel_rfl)) ?_
     try go_wp2
     go_roundg k2
     case measure => have := HK1.out; have := HK2.out; omega
     case rel => exact ⟨(dD), (wrap64 (aG + 1)), q_, H', ⟨by have := HK1.out; have := HK2.out; omega⟩, ⟨r_ aH⟩, ⟨r_ dH⟩, ⟨r_ aE⟩, ⟨bk_ aA⟩, ⟨bk_ aC⟩, ⟨bl_ HB⟩⟩
end
section
attribute [local go_sem] max2_int min2_int max_two min_two max_three min_three max_four min_four
def assartref05_Settle.l0 : Nat → Int → List (S65) → Int → Option ((List (S65)) × Int)
 | 0, _, _, _ => none
 | k + 1, x3, aA, aB => if x3 < (aA.length : Int) then (if 0 ≤ x3 then (if (rd_T65 aA x3).f1 = true then (none) else (assartref05_Settle.l0 k (wrap64 (x3 + 1)) aA aB)) else (none)) else (some (aA, aB))
def assartref05_Settle.f (k : Nat) (l0_0 : List (S65)) (a0_1 : Int) : Option ((List (S65)) × Int) := assartref05_Settle.l0 k 0 l0_0 a0_1
theorem assartref05_Settle.calls (k : Nat) (P0_0_ : Nat → Prop) (A0_0 : Option Addr) (c0_0 : Nat) (l0_0 : List (S65)) (a0_1 : Int) (r1 : List (S65)) (r2 : Int) (w : World) (hs0_0 : Kd.V k65 65 w w.heap.size (fun k_ => P0_0_ k_) (.slice A0_0 l0_0.length c0_0) l0_0) (h : assartref05_Settle.f k l0_0 a0_1 = some (r1, r2)) :
  Calls Tryz.prog 102 #[.agg #[.slice A0_0 l0_0.length c0_0, .int .i64 a0_1]] w fun e w' => ∃ v0_ : Value, e = .returned (.agg #[v0_, .int .i64 r2]) ∧ Kd.V k65 65 w' w.heap.size (fun k_ => (P0_0_ k_ ∨ w.heap.size ≤ k_)) v0_ r1 ∧ Below w.heap.size w w' := by
 have hu30 := Tryz.underlying30
 have hu65 := Tryz.underlying65
 have hu63 := Tryz.underlying63
 have aL := Zk (show Kd.V k65 65 w w.heap.size (fun k_ => (P0_0_ k_ ∨ w.heap.size ≤ k_)) (.slice A0_0 l0_0.length c0_0) l0_0 from Kd.V_mono hs0_0 (fun k_ hk => .inl hk))
 have HB := Zk (Below.refl w.heap.size w)
 have H : (assartref05_Settle.l0 k 0 l0_0 a0_1) = some (r1, r2) := h
 clear h
 have H' := Zk H
 clear H
 go_enter Tryz.func102, Tryz.ntmps102
 go_wp2_with (first | (refine gd_ 1 ?_; refine bx_ 1 #[.slice A0_0 l0_0.length c0_0, .int .i64 a0_1] 30 ?_; intro aN hg w2 hbox hb; replace aL := Zk (Kd.V_below (Kd.V_elderB (v_ aL) aN (Nat.le_of_eq hg.symm)) hb); have aD := Zk (hbox); have bW := gw_ HB hg; replace HB := al_ HB hb; clear hb hbox hg) | (refine gd_ 2 ?_; refine bx_ 2 #[.slice none 0 0, .int .i64 0] 30 ?_; intro aG hg w3 hbox hb; replace aL := Zk (Kd.V_below (Kd.V_elderB (v_ aL) aG (Nat.le_of_eq hg.symm)) hb); have aM := Zk (hbox); have bX := gw_ HB hg; replace HB := al_ HB hb; have aH := n1_ aD hg; have aI := n2_ aD hg; replace aD := ab_ aD hb; clear hb hbox hg))
 go_loopg [3] k (fun kq v3 w' => ∃ (aE : Int) (aA : List (S65)) (aB : Int) (aJ : Value), v3 = .int .i64 aE ∧ Aside0 (assartref05_Settle.l0 kq aE aA aB = some (r1, r2)) ∧ Aside0 (kq ≤ k) ∧ Aside0 (Kd.V k65 65 w' w.heap.size (fun k_ => (P0_0_ k_ ∨ w.heap.size ≤ k_) ∧ k_ ≠ aN ∧ k_ ≠ aG) aJ aA) ∧ Aside0 (w'.heap[aN]? = some (.cells #[aJ, .int .i64 aB] 30 (0, 0))) ∧ Aside0 (w'.heap[aG]? = some (.cells #[(.slice none 0 0), .int .i64 0] 30 (0, 0))) ∧ Aside0 (Below w.heap.size w w'))
 case atStart => exact ⟨(0), (l0_0), (a0_1), (.slice A0_0 l0_0.length c0_0), q_, H', ⟨Nat.le_refl _⟩, ⟨by (with_reducible repeat (first | apply Kd.V_alloc | apply Kd.V_drewN | apply Kd.V_drew)); exact Kd.V_mono aL.out (fun _ hk => ⟨hk.1.1, ⟨hk.1.2, hk.2⟩⟩)⟩, ⟨bk_ aD⟩, ⟨bk_ aM⟩, ⟨bl_ HB⟩⟩
 case round =>
  clear H'
  obtain ⟨aE, aA, aB, aJ, rfl, HA, HK1, aC, aD, aM, HB⟩ := hrel
  cases gk with
  | zero => exact absurd HA.out (by simp [assartref05_Settle.l0])
  | succ k1 =>
   have H := HA.out
   clear HA
   simp only [assartref05_Settle.l0] at H
   by_cases c4 : aE < (aA.length : Int)
   case neg =>
    rw [if_neg c4] at H
    have bL := decide_eq_false c4
    clear c4
    simp only [Option.some.injEq, Prod.mk.injEq] at H
    obtain ⟨rfl, rfl⟩ := H
    obtain ⟨bY, bZ⟩ := nn_ aH aI
    obtain ⟨aZ, bA, bB, bC⟩ := cf2_ aD
    obtain ⟨aW, aX, bM⟩ := Kd.V_slice aC.out
    subst bM
    obtain ⟨bD, bE, bF, bG⟩ := cf2_ aM
    go_wp2
    refine bodyPost_ret (results_cell_row rfl _ _ aG 30 #[.slice aW aA.length aX, .int .i64 aB] (0, 0) _ rfl (bp_ aM) Tryz.underlying30 rfl (by kernel_rfl)) rfl ?_
    exact ⟨_, e_, by (with_reducible repeat (first | apply Kd.V_alloc | apply Kd.V_drewN | apply Kd.V_drew)); exact Kd.V_mono (Kd.V_far (p := ⟨aG, 1, none⟩) (Kd.V_far (p := ⟨aG, 0, none⟩) (Kd.V_mono aC.out (fun k_ hk => (⟨hk, hk.2.2⟩ : _ ∧ k_ ≠ aG))) (fun _ hk => hk.2) (.slice aW aA.length aX)) (fun _ hk => hk.2) (.int .i64 aB)) (fun _ hk => hk.1.1), bl_ HB⟩
   rw [if_pos c4] at H
   have bL := decide_eq_true c4
   clear c4
   by_cases c5 : 0 ≤ aE
   case neg => exact no_ c5 H
   rw [if_pos c5] at H
   have cB := decide_eq_true c5
   clear c5
   obtain ⟨bq6, hbq6⟩ : ∃ b_ : Bool, b_ = ((rd_T65 aA aE).f1) := ⟨_, rfl⟩
   replace H : (if bq6 = true then (none) else (assartref05_Settle.l0 k1 (wrap64 (aE + 1)) aA aB)) = some (r1, r2) := by rw [← hbq6] at H; exact H
   have Nbq6 := Zk hbq6
   clear hbq6
   by_cases c7 : bq6 = true
   case pos =>
    subst c7
    rw [if_pos rfl] at H
    exact absurd H (by simp)
   replace c7 := Bool.eq_false_iff.mpr c7
   subst c7
   rw [if_neg (show ¬ (false = true) by decide)] at H
   have H' := Zk H
   clear H
   obtain ⟨cC, cD⟩ := nn_ aH aI
   obtain ⟨bN, bO, bP, bQ⟩ := cf2_ aD
   obtain ⟨cE, bR, bS⟩ := Kd.V_slice aC.out
   subst bS
   have aP : 0 ≤ (aE : Int) := of_decide_eq_true as_
   have aQ : aE < (aA.length : Int) := of_decide_eq_true as_
   obtain ⟨aY, bT, bU, bV, bH, aR, aS, aT, hl485_3, hi485_3⟩ := at_T65 (Kd.V_reads' aC.out).2.2 aE aP aQ
   (try rw [← Nbq6.out] at aR)
   (try rw [← Nbq6.out] at aS)
   cases bV
   obtain ⟨cA, aU, aV, aO⟩ := Kd.V_get aC.out z65 aE aP (by first | exact aQ | exact of_decide_eq_true as_ | (have e_ := (Kd.V_reads' aC.out).1; omega))
   obtain ⟨ua485_3, uc485_3, rfl, ul485_3, aK⟩ := k65_openF aV
   have aF := aO 3 _ rfl
   rw [add_field _ _ 3 (by omega)] at aF
   replace aF := Option.some.inj (aF.symm.trans aT)
   injection aF with hva_ hvn_ hvc_
   rw [hva_] at aK
   rw [hvc_] at ul485_3
   have bI := Zk (show Kd.V k84 84 _ w.heap.size _ _ ((rd_T65 aA aE).f2.f1) from Kd.V_mk ul485_3 aK)
   clear hva_ hvn_ hvc_ aK ul485_3
   clear aO aU
   have bJ := Zk hi485_3
   have bK := Zk hl485_3
   clear hi485_3 hl485_3
   replace aP := eq_true aP
   replace aQ := eq_true aQ
   go_wp2
   go_roundg k1
   case measure => have := HK1.out; omega
   case rel => exact ⟨(wrap64 (aE + 1)), (aA), (aB), (.slice (some aY) aA.length bR), q_, H', ⟨by have := HK1.out; omega⟩, ⟨v_ aC⟩, ⟨bk_ aD⟩, ⟨bk_ aM⟩, ⟨bl_ HB⟩⟩
end
section
attribute [local go_sem] max2_int min2_int max_two min_two max_three min_three max_four min_four
def assartref15_Settled.f (k : Nat) (l0_0 : List (S65)) (a0_1 : Int) (l0_2 : List (S122)) (l0_3 : List (Nat × Nat)) (a0_4 : Int) (a0_5 : Int) : Option ((List (S65)) × Int × (List (S122)) × List (Nat × Nat) × Int × Int) := (assartref05_Settle.f k l0_0 a0_1).bind fun bt531 => (some (bt531.1, bt531.2, l0_2, l0_3, a0_4, wrap64 (a0_5 + 1)))
def assartref15_Settled.T1 : Bool × List (List Nat × List Nat) := (true, [([], []), ([0], [0]), ([1], [1]), ([], []), ([3], [3]), ([], []), ([5], [5]), ([], []), ([7], [7]), ([], []), ([9], [9]), ([10], [10]), ([2, 4, 6, 8, 11], [2, 4, 6, 8, 11]), ([12, 2, 0, 1, 2, 3, 4, 5, 6, 7, 8, 9, 10, 11, 12], [12])])
def assartref15_Settled.B1 : List Nat := [0, 1, 3, 0, 8, 0, 32, 0, 128, 0, 512, 1536, 4095, 8191]
theorem assartref15_Settled.tab1 : rtab .any (opsOf Tryz.f80 1) = assartref15_Settled.T1 := by kernel_rfl
theorem assartref15_Settled.bits1 : waitsOk assartref15_Settled.T1.2 assartref15_Settled.B1 = true := by kernel_rfl
theorem assartref15_Settled.calls (k : Nat) (P0_0_ : Nat → Prop) (A0_0 : Option Addr) (c0_0 : Nat) (l0_0 : List (S65)) (a0_1 : Int) (P0_2_ : Nat → Prop) (u9000_ : Value) (l0_2 : List (S122)) (P0_3_ : Nat → Prop) (u9001_ : Value) (l0_3 : List (Nat × Nat)) (a0_4 : Int) (a0_5 : Int) (r1 : List (S65)) (r2 : Int) (r3 : List (S122)) (r4 : List (Nat × Nat)) (r5 : Int) (r6 : Int) (w0 w : World) (hB : Below w0.heap.size w0 w) (hs0_0 : Kd.V k65 65 w w0.heap.size (fun k_ => P0_0_ k_ ∧ some k_ ≠ (u9000_ : Value).ownBlock ∧ some k_ ≠ (u9001_ : Value).ownBlock) (.slice A0_0 l0_0.length c0_0) l0_0) (ho0_2 : Kd.R k122 122 w w0.heap.size P0_2_ u9000_ l0_2) (ho0_3 : Kd.R kc 79 w w0.heap.size P0_3_ u9001_ l0_3) (h : assartref15_Settled.f k l0_0 a0_1 l0_2 l0_3 a0_4 a0_5 = some (r1, r2, r3, r4, r5, r6)) :
  Calls Tryz.prog 80 #[.agg #[.slice A0_0 l0_0.length c0_0, .int .i64 a0_1, u9000_, u9001_, .int .i64 a0_4, .int .i64 a0_5]] w fun e w' => ∃ v0_ v2_ v3_ : Value, e = .returned (.agg #[v0_, .int .i64 r2, v2_, v3_, .int .i64 r5, .int .i64 r6]) ∧ Kd.V k65 65 w' w0.heap.size (fun k_ => ((P0_2_ k_ ∨ P0_3_ k_ ∨ P0_0_ k_) ∨ w.heap.size ≤ k_) ∧ some k_ ≠ (v2_ : Value).ownBlock ∧ some k_ ≠ (v3_ : Value).ownBlock) v0_ r1 ∧ Kd.R k122 122 w' w0.heap.size (fun k_ => ((P0_2_ k_ ∨ P0_3_ k_) ∨ w.heap.size ≤ k_)) v2_ r3 ∧ Kd.R kc 79 w' w0.heap.size (fun k_ => ((P0_2_ k_ ∨ P0_3_ k_) ∨ w.heap.size ≤ k_)) v3_ r4 ∧ Below w0.heap.size w0 w' ∧ Kept w w' (fun k_ => P0_2_ k_ ∨ P0_3_ k_) := by
 have hu34 := Tryz.underlying34
 have hu30 := Tryz.underlying30
 have aH := Zk (show Kd.V k65 65 w w0.heap.size (fun k_ => ((P0_2_ k_ ∨ P0_3_ k_ ∨ P0_0_ k_) ∨ w.heap.size ≤ k_) ∧ some k_ ≠ (u9000_ : Value).ownBlock ∧ some k_ ≠ (u9001_ : Value).ownBlock) (.slice A0_0 l0_0.length c0_0) l0_0 from Kd.V_mono hs0_0 (fun k_ hk => ⟨.inl (.inr (.inr hk.1)), hk.2⟩))
 have aF := Zk (show Kd.R k122 122 w w0.heap.size (fun k_ => ((P0_2_ k_ ∨ P0_3_ k_) ∨ w.heap.size ≤ k_)) u9000_ l0_2 from Kd.R_mono ho0_2 (fun k_ hk => (.inl (.inl hk))))
 have aG := Zk (show Kd.R kc 79 w w0.heap.size (fun k_ => ((P0_2_ k_ ∨ P0_3_ k_) ∨ w.heap.size ≤ k_)) u9001_ l0_3 from Kd.R_mono ho0_3 (fun k_ hk => (.inl (.inr hk))))
 have HK := Zk (Kept.refl w (fun k_ => P0_2_ k_ ∨ P0_3_ k_))
 have HW0 := Zk hB.size
 have HB := Zk hB
 clear hB
 have H : ((assartref05_Settle.f k l0_0 a0_1).bind fun bt531 => (some (bt531.1, bt531.2, l0_2, l0_3, a0_4, wrap64 (a0_5 + 1)))) = some (r1, r2, r3, r4, r5, r6) := h
 clear h
 replace H := Option.bind_eq_some_iff.mp H
 obtain ⟨⟨aJ, aK⟩, A20, H⟩ := H
 (try dsimp only at H)
 have A2 := Zk A20
 clear A20
 simp only [Option.some.injEq, Prod.mk.injEq] at H
 obtain ⟨rfl, rfl, rfl, rfl, rfl, rfl⟩ := H
 obtain ⟨Ao3, co3, eo3⟩ := Kd.R_slice aF.out
 subst eo3
 obtain ⟨Ao4, co4, eo4⟩ := Kd.R_slice aG.out
 subst eo4
 go_enter Tryz.func80, Tryz.ntmps80
 try go_wp2_with (first | (refine gd_ 1 ?_; refine bx_ 1 #[.slice A0_0 l0_0.length c0_0, .int .i64 a0_1, .slice Ao3 l0_2.length co3, .slice Ao4 l0_3.length co4, .int .i64 a0_4, .int .i64 a0_5] 34 ?_; intro aI hg w5 hbox hb; replace aF := ar_ aF hb; replace aG := ar_ aG hb; replace aH := Zk (Kd.V_below (Kd.V_elderB (v_ aH) aI (Nat.le_of_eq hg.symm)) hb); have aC := Zk (hbox); have aY := gk_ HK hg; replace HK := kb_ HK hb; have aZ := gw_ HB hg; replace HB := al_ HB hb; clear hb hbox hg) | (refine gd_ 2 ?_; refine bx_ 2 #[.slice none 0 0, .int .i64 0, .slice none 0 0, .slice none 0 0, .int .i64 0, .int .i64 0] 34 ?_; intro aB hg w6 hbox hb; replace aF := ar_ aF hb; replace aG := ar_ aG hb; replace aH := Zk (Kd.V_below (Kd.V_elderB (v_ aH) aB (Nat.le_of_eq hg.symm)) hb); have aD := Zk (hbox); have bA := gk_ HK hg; replace HK := kb_ HK hb; have bB := gw_ HB hg; replace HB := al_ HB hb; have aA := n1_ aC hg; have aE := n2_ aC hg; replace aC := ab_ aC hb; clear hb hbox hg))
 replace aF := Zk (Kd.R_drew aF.out)
 replace aG := Zk (Kd.R_drew aG.out)
 replace aH := Zk (Kd.V_drew aH.out)
 replace aC := Zk (blk_drew aC.out)
 replace aD := Zk (blk_drew aD.out)
 replace HK := Zk (Kept.drew HK.out)
 replace HB := Zk (below_drew1 HB.out)
 refine start_ (n := 14) (S := fun w' => w'.cell? ⟨aI, 0, none⟩ = some (.slice A0_0 l0_0.length c0_0) ∧ w'.cell? ⟨aI, 1, none⟩ = some (.int .i64 a0_1) ∧ w'.cell? ⟨aI, 2, none⟩ = some (.slice Ao3 l0_2.length co3) ∧ w'.cell? ⟨aI, 3, none⟩ = some (.slice Ao4 l0_3.length co4) ∧ w'.cell? ⟨aI, 4, none⟩ = some (.int .i64 a0_4) ∧ w'.cell? ⟨aI, 5, none⟩ = some (.int .i64 a0_5)) (ds := []) #[false, false, false, false, false, false, false, false, false, false, false, false, false, false] (by kernel_rfl) rfl rfl ⟨(blk_cell aC.out 0).trans rfl, (blk_cell aC.out 1).trans rfl, (blk_cell aC.out 2).trans rfl, (blk_cell aC.out 3).trans rfl, (blk_cell aC.out 4).trans rfl, (blk_cell aC.out 5).trans rfl⟩ (fun hHeld => ?_); refine with_tabW assartref15_Settled.tab1 assartref15_Settled.bits1 (fun HT_ HW_ => ?_)
 generalize w6.drew = w7 at aF aG aH aC aD HK HB hHeld ⊢
 refine pu_ 0 3 ?_
 refine pu_ 3 6 ?_
 refine pu_ 5 8 ?_
 refine pu_ 7 10 ?_
 refine pu_ 9 12 ?_
 refine tk_ 1 4 ?_
 refine tk_ 4 7 ?_
 refine tk_ 6 9 ?_
 refine tk_ 8 11 ?_
 refine tk_ 10 13 ?_
 refine pu_ 11 14 ?_
 refine one_ (i := 2) (N := some 5) #[true, true, true, true, true, true, true, true, true, true, true, true, false, false] rfl rfl (one_of HT_.out (by kernel_rfl)) (by decide) (fun K hK => ?_)
 refine goes_ Tryz.func102 (by kernel_rfl) rfl #[.agg #[.slice A0_0 l0_0.length c0_0, .int .i64 a0_1]] (by rfl) rfl rfl (by (try simp only [List.map_toArray, List.map_cons, List.map_nil]); first | done | rfl | (simp only [List.length_drop, List.length_take]; rfl)) ?_
 with_reducible refine (assartref05_Settle.calls k (fun k_ => (((((P0_2_ k_ ∨ P0_3_ k_ ∨ P0_0_ k_) ∨ w.heap.size ≤ k_) ∧ (some k_ ≠ (.slice Ao3 l0_2.length co3 : Value).ownBlock ∧ some k_ ≠ (.slice Ao4 l0_3.length co4 : Value).ownBlock)) ∧ k_ ≠ aI) ∧ k_ ≠ aB)) _ _ l0_0 a0_1 aJ aK _ ?side1 A2.out).mono ?_
 (case side1 => exact aH.out)
 rintro e w8 ⟨bI, rfl, ho0, hb⟩
 refine ⟨_, rfl, ?_⟩
 replace aH := Zk (Kd.V_below (v_ aH) hb)
 have aL := Zk (Kd.V_lower (Kd.V_mono (ok' := fun k_ => ((P0_2_ k_ ∨ P0_3_ k_ ∨ P0_0_ k_) ∨ w.heap.size ≤ k_) ∧ some k_ ≠ (.slice Ao3 l0_2.length co3 : Value).ownBlock ∧ some k_ ≠ (.slice Ao4 l0_3.length co4 : Value).ownBlock ∧ k_ ≠ aI ∧ k_ ≠ aB) ho0 (fun k_ hk_ => ⟨Or.elim hk_ (fun hs_ => hs_.1.1.1) (fun hn_ => (.inr (Nat.le_trans (k1_ HK) hn_))), Or.elim hk_ (fun hs_ => hs_.1.1.2.1) (fun hn_ => (Kd.fresh' (Kd.R_lt (r_ aF)) k_ hn_)), Or.elim hk_ (fun hs_ => hs_.1.1.2.2) (fun hn_ => (Kd.fresh' (Kd.R_lt (r_ aG)) k_ hn_)), Or.elim hk_ (fun hs_ => hs_.1.2) (fun hn_ => (Kd.freshB (g := aI) (o := .cells #[.slice A0_0 l0_0.length c0_0, .int .i64 a0_1, .slice Ao3 l0_2.length co3, .slice Ao4 l0_3.length co4, .int .i64 a0_4, .int .i64 a0_5] 34 (0, 0)) (bk_ aC) k_ hn_)), Or.elim hk_ (fun hs_ => hs_.2) (fun hn_ => (Kd.freshB (g := aB) (o := .cells #[.slice none 0 0, .int .i64 0, .slice none 0 0, .slice none 0 0, .int .i64 0, .int .i64 0] 34 (0, 0)) (bk_ aD) k_ hn_))⟩)) (below_size (bl_ HB)))
 replace aF := ar_ aF hb
 replace aG := ar_ aG hb
 replace aC := ab_ aC hb
 replace aD := ab_ aD hb
 replace HK := kb_ HK hb
 replace HB := al_ HB hb
 (try clear hb)
 (try clear hb2)
 (try clear hk)
 (try clear hi)
 (try clear ho0)
 obtain ⟨Ao9, co9, eo9⟩ := Kd.V_slice aL.out
 (first | subst eo9 | (injection eo9 with f1_ f2_ f3_; have f4_ := f1_.symm; have f5_ := f3_.symm; clear f1_ f2_ f3_; subst f4_; subst f5_))
 refine hK.out _ _ ⟨(blk_cell aC.out 0).trans rfl, (blk_cell aC.out 1).trans rfl, (blk_cell aC.out 2).trans rfl, (blk_cell aC.out 3).trans rfl, (blk_cell aC.out 4).trans rfl, (blk_cell aC.out 5).trans rfl⟩ (fun hHeld => ?_)
 clear hK K
 refine norm_ (a' := ?_) ?_ ?_
 rotate_left
 ·show Act.put _ (some 5) _ = _
  simp only [Act.put, List.setIfInBounds_toArray, List.set_cons_zero, List.set_cons_succ, i64_w, i32_w]
  rfl
 refine pu_ 12 15 ?_
 refine one_ (i := 13) (N := none) #[true, true, true, true, true, true, true, true, true, true, true, true, true, true] rfl rfl (one_of HT_.out (by kernel_rfl)) (by decide) (fun K hK => ?_)
 have bJ : w8.cell? ⟨aB, 0, none⟩ = some (.slice none 0 0) := (blk_cell aD.out 0).trans rfl
 have bC := blk_frozen aD.out 0
 obtain ⟨aM, aN⟩ := nn_ aA aE
 have bK : w8.cell? ⟨aB, 1, none⟩ = some (.int .i64 0) := (blk_cell aD.out 1).trans rfl
 have bD := blk_frozen aD.out 1
 obtain ⟨aO, aP⟩ := nn_ aA aE
 have bL : w8.cell? ⟨aB, 2, none⟩ = some (.slice none 0 0) := (blk_cell aD.out 2).trans rfl
 have bE := blk_frozen aD.out 2
 obtain ⟨aQ, aR⟩ := nn_ aA aE
 have bM : w8.cell? ⟨aB, 3, none⟩ = some (.slice none 0 0) := (blk_cell aD.out 3).trans rfl
 have bF := blk_frozen aD.out 3
 obtain ⟨aS, aT⟩ := nn_ aA aE
 have bN : w8.cell? ⟨aB, 4, none⟩ = some (.int .i64 0) := (blk_cell aD.out 4).trans rfl
 have bG := blk_frozen aD.out 4
 obtain ⟨aU, aV⟩ := nn_ aA aE
 have bO : w8.cell? ⟨aB, 5, none⟩ = some (.int .i64 0) := (blk_cell aD.out 5).trans rfl
 have bH := blk_frozen aD.out 5
 obtain ⟨aW, aX⟩ := nn_ aA aE
 refine skip_ (w1 := ?_) (by rfl) rfl ?_ ?_
 rotate_left
 ·go_simp
  rfl
 refine hK.out _ _ ⟨(cl_ aB aA.out (cl_ aB aA.out (cl_ aB aA.out (cl_ aB aA.out (cl_ aB aA.out (cl_ aB aA.out hHeld.1)))))), (cl_ aB aA.out (cl_ aB aA.out (cl_ aB aA.out (cl_ aB aA.out (cl_ aB aA.out (cl_ aB aA.out hHeld.2.1)))))), (cl_ aB aA.out (cl_ aB aA.out (cl_ aB aA.out (cl_ aB aA.out (cl_ aB aA.out (cl_ aB aA.out hHeld.2.2.1)))))), (cl_ aB aA.out (cl_ aB aA.out (cl_ aB aA.out (cl_ aB aA.out (cl_ aB aA.out (cl_ aB aA.out hHeld.2.2.2.1)))))), (cl_ aB aA.out (cl_ aB aA.out (cl_ aB aA.out (cl_ aB aA.out (cl_ aB aA.out (cl_ aB aA.out hHeld.2.2.2.2.1)))))), (cl_ aB aA.out (cl_ aB aA.out (cl_ aB aA.out (cl_ aB aA.out (cl_ aB aA.out (cl_ aB aA.out hHeld.2.2.2.2.2))))))⟩ (fun hHeld => ?_)
 clear hK K
 refine done_ (done_of HT_.out (by kernel_rfl)) ?_
 try go_wp2
 refine bodyPost_ret (results_cell_row rfl _ _ aB 34 #[.slice Ao9 aJ.length co9, .int .i64 aK, .slice Ao3 l0_2.length co3, .slice Ao4 l0_3.length co4, .int .i64 a0_4, .int .i64 (wrap64 (a0_5 + 1))] (0, 0) _ rfl (bp_ aD) Tryz.underlying34 rfl (by kernel_rfl)) rfl ?_
 exact ⟨_, _, _, e_, by (with_reducible repeat (first | apply Kd.V_alloc | apply Kd.V_drewN | apply Kd.V_drew)); exact Kd.V_mono (Kd.V_far (p := ⟨aB, 5, none⟩) (Kd.V_far (p := ⟨aB, 4, none⟩) (Kd.V_far (p := ⟨aB, 3, none⟩) (Kd.V_far (p := ⟨aB, 2, none⟩) (Kd.V_far (p := ⟨aB, 1, none⟩) (Kd.V_far (p := ⟨aB, 0, none⟩) (Kd.V_mono aL.out (fun k_ hk => (⟨hk, hk.2.2.2.2⟩ : _ ∧ k_ ≠ aB))) (fun _ hk => hk.2) (.slice Ao9 aJ.length co9)) (fun _ hk => hk.2) (.int .i64 aK)) (fun _ hk => hk.2) (.slice Ao3 l0_2.length co3)) (fun _ hk => hk.2) (.slice Ao4 l0_3.length co4)) (fun _ hk => hk.2) (.int .i64 a0_4)) (fun _ hk => hk.2) (.int .i64 (wrap64 (a0_5 + 1)))) (fun _ hk => ⟨hk.1.1, ⟨hk.1.2.1, hk.1.2.2.1⟩⟩), by (with_reducible repeat (first | apply Kd.R_alloc | apply Kd.R_drewN | apply Kd.R_drew)); exact Kd.R_mono (Kd.R_far (p := ⟨aB, 5, none⟩) (Kd.R_far (p := ⟨aB, 4, none⟩) (Kd.R_far (p := ⟨aB, 3, none⟩) (Kd.R_far (p := ⟨aB, 2, none⟩) (Kd.R_far (p := ⟨aB, 1, none⟩) (Kd.R_far (p := ⟨aB, 0, none⟩) (Kd.R_types aF.out aD.out (by decide)) (fun _ hk => hk.2) (.slice Ao9 aJ.length co9)) (fun _ hk => hk.2) (.int .i64 aK)) (fun _ hk => hk.2) (.slice Ao3 l0_2.length co3)) (fun _ hk => hk.2) (.slice Ao4 l0_3.length co4)) (fun _ hk => hk.2) (.int .i64 a0_4)) (fun _ hk => hk.2) (.int .i64 (wrap64 (a0_5 + 1)))) (fun _ hk => hk.1), by (with_reducible repeat (first | apply Kd.R_alloc | apply Kd.R_drewN | apply Kd.R_drew)); exact Kd.R_mono (Kd.R_far (p := ⟨aB, 5, none⟩) (Kd.R_far (p := ⟨aB, 4, none⟩) (Kd.R_far (p := ⟨aB, 3, none⟩) (Kd.R_far (p := ⟨aB, 2, none⟩) (Kd.R_far (p := ⟨aB, 1, none⟩) (Kd.R_far (p := ⟨aB, 0, none⟩) (Kd.R_types aG.out aD.out (by decide)) (fun _ hk => hk.2) (.slice Ao9 aJ.length co9)) (fun _ hk => hk.2) (.int .i64 aK)) (fun _ hk => hk.2) (.slice Ao3 l0_2.length co3)) (fun _ hk => hk.2) (.slice Ao4 l0_3.length co4)) (fun _ hk => hk.2) (.int .i64 a0_4)) (fun _ hk => hk.2) (.int .i64 (wrap64 (a0_5 + 1)))) (fun _ hk => hk.1), bl_ HB, kp_ HK⟩
end
section
attribute [local go_sem] max2_int min2_int max_two min_two max_three min_three max_four min_four
def assartref02_Put.T4 : Bool × List (List Nat × List Nat) := (true, [([], []), ([0], [0]), ([], []), ([], []), ([3], [3]), ([2, 4], [2, 4]), ([], []), ([], []), ([6, 7], [6, 7]), ([8], [8]), ([5, 9, 5], [5, 9]), ([1, 10], [1, 10]), ([11, 10, 0, 1, 2, 3, 4, 5, 6, 7, 8, 9, 10, 11], [11]), ([12, 0, 1, 2, 3, 4, 5, 6, 7, 8, 9, 10, 11, 12], [])])
def assartref02_Put.B4 : List Nat := [0, 1, 0, 0, 8, 28, 0, 0, 192, 448, 1020, 2047, 4095, 8191]
theorem assartref02_Put.tab4 : rtab .any (opsOf Tryz.f101 4) = assartref02_Put.T4 := by kernel_rfl
theorem assartref02_Put.bits4 : waitsOk assartref02_Put.T4.2 assartref02_Put.B4 = true := by kernel_rfl
end
theorem put_walk (A0 : Option Addr) (n0 c0 : Nat) (l0 : List ByteArray) (A1 : Option Addr) (c1 : Nat) (l1 : List S98) (a1 : Int) (a2 : ByteArray) (w : World) (hn : n0 = l0.length) (hr0 : Kd.C Kd.string w A0 l0.length l0) (hc0 : l0.length ≤ c0) (hr1 : Kd.C k98 w A1 l1.length l1) (hc1 : l1.length ≤ c1) (hl : l1.length < 1000000) (h : assartref02_may.f l0 l1 a1 a2 = some true) :
  Calls Tryz.prog 101 #[.agg #[.slice A0 n0 c0, .slice A1 l1.length c1], .int .i64 a1, .string a2] w fun e w' => ∃ v1 : Value, e = .returned (.tuple #[.agg #[.slice A0 n0 c0, v1], .int .i64 0]) ∧ Kd.R k98 98 w' w.heap.size (fun _ => True) v1 (l1 ++ [(⟨a1, a2⟩ : S98)]) ∧ Below w.heap.size w w' := by
 have hu25 := Tryz.underlying25
 have hu98 := Tryz.underlying98
 have hu23 := Tryz.underlying23
 have HRC := Zk (fun (W : World) (hb : Below w.heap.size w W) => Kd.C_below hr1 hb)
 obtain ⟨w1, hw1⟩ : ∃ W, (w.alloc (.cells #[.slice A0 n0 c0, .slice A1 l1.length c1] 25)).alloc (.cells #[.slice none 0 0, .slice none 0 0] 25) = W := ⟨_, rfl⟩
 have hb1 : Below w.heap.size w w1 := by rw [← hw1]; exact ((Below.refl _ w).alloc (Nat.le_refl _) _).alloc (by simp) _
 have g3 : w1.heap[w.heap.size]? = some (.cells #[.slice A0 n0 c0, .slice A1 l1.length c1] 25 (0, 0)) := by rw [← hw1]; exact blk_alloc (alloc_new w _) _
 have g6 : w1.heap[w.heap.size + 1]? = some (.cells #[.slice none 0 0, .slice none 0 0] 25 (0, 0)) := by
  rw [← hw1]
  have := alloc_new (w.alloc (.cells #[.slice A0 n0 c0, .slice A1 l1.length c1] 25)) (.cells #[.slice none 0 0, .slice none 0 0] 25)
  rwa [World.size_alloc] at this
 have HM := Zk (assartref02_may.calls A0 c0 l0 A1 c1 l1 a1 a2 true w1 (Kd.C_below hr0 hb1) hc0 (Kd.C_below hr1 hb1) hc1 h)
 rw [← hn] at HM
 have d0 : w1.cell? ⟨w.heap.size, 0, none⟩ = some (.slice A0 n0 c0) := (blk_cell g3 0).trans rfl
 have d1 : w1.cell? ⟨w.heap.size, 1, none⟩ = some (.slice A1 l1.length c1) := (blk_cell g3 1).trans rfl
 have BK3 := Zk g3
 have BK6 := Zk g6
 have HB := Zk hb1
 clear hr0 hr1 g3 g6 hb1 h hn
 go_enter Tryz.func101, Tryz.ntmps101
 go_wp2_with fail
 refine HM.out.mono ?_
 rintro e w2 ⟨rfl, hb2⟩
 replace BK3 := Zk (blk_drew (blk_below BK3.out hb2))
 replace BK6 := Zk (blk_drew (blk_below BK6.out hb2))
 replace HB := Zk (below_drew1 (below_step HB.out hb2))
 clear hb2 d0 d1 HM hw1
 go_wp2
 refine start_ (n := 14) (S := fun w' => w'.cell? ⟨w.heap.size, 0, none⟩ = some (.slice A0 n0 c0) ∧ w'.cell? ⟨w.heap.size, 1, none⟩ = some (.slice A1 l1.length c1)) (ds := []) #[false, false, false, false, false, false, false, false, false, false, false, false, false, false] (by kernel_rfl) rfl rfl ⟨(blk_cell BK3.out 0).trans rfl, (blk_cell BK3.out 1).trans rfl⟩ (fun hHeld => ?_)
 refine with_tabW assartref02_Put.tab4 assartref02_Put.bits4 (fun HT_ HW_ => ?_)
 generalize w2.drew = wd at BK3 BK6 HB hHeld ⊢
 refine pu_ 0 16 ?_
 refine pu_ 3 19 ?_
 refine pu_ 6 22 ?_
 refine pu_ 7 23 ?_
 refine pu_ 8 24 ?_
 refine tk_ 1 17 ?_
 refine tk_ 4 20 ?_
 refine join_ (σ := Value × Value × Value) 4 #[true, true, true, true, true, true, true, true, true, true, false, false, false, false] (fun s_ => [(18, s_.1), (21, s_.2.1), (25, s_.2.2)]) (fun s_ w' => (w'.cell? ⟨w.heap.size, 0, none⟩ = some (.slice A0 n0 c0) ∧ w'.cell? ⟨w.heap.size, 1, none⟩ = some (.slice A1 l1.length c1)) ∧ Kd.R k98 98 w' w.heap.size (fun k_ => some k_ ≠ (s_.2.2 : Value).ownBlock) s_.2.1 l1 ∧ Kd.R k98 98 w' w.heap.size (fun k_ => some k_ ≠ (s_.2.1 : Value).ownBlock) s_.2.2 [(⟨a1, a2⟩ : S98)] ∧ w'.heap[w.heap.size]? = some (.cells #[.slice A0 n0 c0, .slice A1 l1.length c1] 25 (0, 0)) ∧ w'.heap[w.heap.size + 1]? = some (.cells #[.slice none 0 0, .slice none 0 0] 25 (0, 0)) ∧ Below w.heap.size w w') ?_ ?_
 rotate_left
 ·skip
  intro hCont
  refine two_ (i := 2) (j := 9) (Ni := some 18) (Nj := some 25) #[true, true, true, true, true, false, true, true, true, false, false, false, false, false] #[true, true, false, true, true, false, true, true, true, true, false, false, false, false] rfl rfl rfl rfl (two_of HT_.out (by kernel_rfl)) (by decide) (by decide) (fun K hK => ?_) (fun K hK => ?_)
  ·skip
   refine Kd.R_lit_step k98 _ 98 ?hg (N := 18) ?hd (xs := ([] : List (S98))) (inner := []) (ok := fun _ => True) (okp := fun _ => True) ?hr ?hp (fun _ hk => hk) trivial (Below.refl _ _) (Nat.le_refl _) (by simp) ?_; (case hd => rfl); (case hg => rfl); (case hr => first | (go_simp; done) | (go_simp; rfl)); (case hp => exact (Reps.none _ _))
   intro v18 wa ho hb hg_ hnew_
   clear hg_ hnew_
   have BK3' := Zk (blk_below BK3.out hb)
   have BK6' := Zk (blk_below BK6.out hb)
   have HB' := Zk (below_step HB.out hb)
   have HO18 := Zk (Kd.R_lower ho HB.out.size)
   clear BK3 BK6 HB
   have BK3 := BK3'
   have BK6 := BK6'
   have HB := HB'
   clear BK3' BK6' HB' ho hb
   refine hK.out _ _ ⟨(blk_cell BK3.out 0).trans rfl, (blk_cell BK3.out 1).trans rfl⟩ (fun hHeld => ?_)
   clear hK K
   refine norm_ (a' := ?_) ?_ ?_
   rotate_left
   ·show Act.put _ (some 18) _ = _
    simp only [Act.put, List.setIfInBounds_toArray, List.set_cons_zero, List.set_cons_succ, i64_w, i32_w]
    rfl
   refine two_ (i := 5) (j := 9) (Ni := some 21) (Nj := some 25) #[true, true, true, true, true, true, true, true, true, false, false, false, false, false] #[true, true, true, true, true, false, true, true, true, true, false, false, false, false] rfl rfl rfl rfl (two_of HT_.out (by kernel_rfl)) (by decide) (by decide) (fun K hK => ?_) (fun K hK => ?_)
   ·skip
    refine Kd.R_append_rows_step k98 (w0 := w) w.heap.size (by rfl) (.tmp 18) (.tmp 20) 23 98 (.agg #[(.int .i64 0), (.string ⟨#[]⟩)]) 24 rfl Tryz.underlying23 info98 rfl (by decide) (by omega) v18 [] l1 _ _ _ (fun _ => True) (fun _ => False) rfl rfl ?aO ?aR (fun _ _ h => h) (fun _ h => h.elim) ?aF ?aB ?aS ?aL ?_
    (case aR => exact HRC.out _ HB.out)
    (case aB => exact HB.out)
    (case aF => exact fun _ _ => trivial)
    (case aO => exact HO18.out)
    (case aS => exact HB.out.size)
    (case aL => simp only [List.length_nil, Nat.zero_add]; omega)
    intro v21 wb ho hb hg hat
    have BK3' := Zk (blk_grown BK3.out hg (Kd.R_ne HO18.out BK3.out (by decide)))
    have BK6' := Zk (blk_grown BK6.out hg (Kd.R_ne HO18.out BK6.out (by decide)))
    have HB' := Zk hb
    have HO21 := Zk ho
    clear BK3 BK6 HB
    have BK3 := BK3'
    have BK6 := BK6'
    have HB := HB'
    clear BK3' BK6' HB' ho hb hg hat
    refine hK.out _ _ ⟨(blk_cell BK3.out 0).trans rfl, (blk_cell BK3.out 1).trans rfl⟩ (fun hHeld => ?_)
    clear hK K
    refine norm_ (a' := ?_) ?_ ?_
    rotate_left
    ·show Act.put _ (some 21) _ = _
     simp only [Act.put, List.setIfInBounds_toArray, List.set_cons_zero, List.set_cons_succ, i64_w, i32_w]
     rfl
    refine one_ (i := 9) (N := some 25) #[true, true, true, true, true, true, true, true, true, true, false, false, false, false] rfl rfl (one_of HT_.out (by kernel_rfl)) (by decide) (fun K hK => ?_)
    clear HO18
    refine Kd.R_lit_step k98 _ 98 ?hg (N := 25) ?hd (xs := ([(⟨a1, a2⟩ : S98)] : List (S98))) (inner := [.int .i64 a1, .string a2]) (ok := fun _ => True) (okp := fun _ => True) ?hr ?hp (fun _ hk => hk) trivial (Below.refl _ _) (Nat.le_refl _) (by simp) ?_; (case hd => rfl); (case hg => rfl); (case hr => first | (go_simp; done) | (go_simp; rfl)); (case hp => exact (Reps.c2 (show Kd.M k98 _ _ _ (⟨a1, a2⟩ : S98) [.int .i64 a1, .string a2] from (k98_mkM _ _ _ (⟨a1, a2⟩ : S98))) (Reps.none _ _)))
    intro v25 wc ho hb hg_ hnew_
    clear hg_ hnew_
    have BK3' := Zk (blk_below BK3.out hb)
    have BK6' := Zk (blk_below BK6.out hb)
    have HB' := Zk (below_step HB.out hb)
    have HO25 := Zk (Kd.R_lower (Kd.R_new' ho (Kd.R_lt HO21.out)) HB.out.size)
    have HO21' := Zk (Kd.R_elder' HO21.out (Kd.R_base ho) hb)
    clear BK3 BK6 HB HO21
    have BK3 := BK3'
    have BK6 := BK6'
    have HB := HB'
    have HO21 := HO21'
    clear BK3' BK6' HB' ho hb HO21'
    refine hK.out _ _ ⟨(blk_cell BK3.out 0).trans rfl, (blk_cell BK3.out 1).trans rfl⟩ (fun hHeld => ?_)
    clear hK K
    refine norm_ (a' := ?_) ?_ ?_
    rotate_left
    ·show Act.put _ (some 25) _ = _
     simp only [Act.put, List.setIfInBounds_toArray, List.set_cons_zero, List.set_cons_succ, i64_w, i32_w]
     rfl
    exact norm_ (by simp only [putAll, Act.put, List.setIfInBounds_toArray, List.set_cons_zero, List.set_cons_succ]) (hCont (v18, v21, v25) _ ⟨hHeld, Kd.R_mono HO21.out (fun _ hk => hk.2), Kd.R_mono HO25.out (fun _ hk => hk.2), BK3.out, BK6.out, HB.out⟩)
   ·skip
    refine Kd.R_lit_step k98 _ 98 ?hg (N := 25) ?hd (xs := ([(⟨a1, a2⟩ : S98)] : List (S98))) (inner := [.int .i64 a1, .string a2]) (ok := fun _ => True) (okp := fun _ => True) ?hr ?hp (fun _ hk => hk) trivial (Below.refl _ _) (Nat.le_refl _) (by simp) ?_; (case hd => rfl); (case hg => rfl); (case hr => first | (go_simp; done) | (go_simp; rfl)); (case hp => exact (Reps.c2 (show Kd.M k98 _ _ _ (⟨a1, a2⟩ : S98) [.int .i64 a1, .string a2] from (k98_mkM _ _ _ (⟨a1, a2⟩ : S98))) (Reps.none _ _)))
    intro v25 wb ho hb hg_ hnew_
    clear hg_ hnew_
    have BK3' := Zk (blk_below BK3.out hb)
    have BK6' := Zk (blk_below BK6.out hb)
    have HB' := Zk (below_step HB.out hb)
    have HO25 := Zk (Kd.R_lower (Kd.R_new' ho (Kd.R_lt HO18.out)) HB.out.size)
    have HO18' := Zk (Kd.R_elder' HO18.out (Kd.R_base ho) hb)
    clear BK3 BK6 HB HO18
    have BK3 := BK3'
    have BK6 := BK6'
    have HB := HB'
    have HO18 := HO18'
    clear BK3' BK6' HB' ho hb HO18'
    refine hK.out _ _ ⟨(blk_cell BK3.out 0).trans rfl, (blk_cell BK3.out 1).trans rfl⟩ (fun hHeld => ?_)
    clear hK K
    refine norm_ (a' := ?_) ?_ ?_
    rotate_left
    ·show Act.put _ (some 25) _ = _
     simp only [Act.put, List.setIfInBounds_toArray, List.set_cons_zero, List.set_cons_succ, i64_w, i32_w]
     rfl
    refine one_ (i := 5) (N := some 21) #[true, true, true, true, true, true, true, true, true, true, false, false, false, false] rfl rfl (one_of HT_.out (by kernel_rfl)) (by decide) (fun K hK => ?_)
    refine Kd.R_append_rows_step k98 (w0 := w) w.heap.size (by rfl) (.tmp 18) (.tmp 20) 23 98 (.agg #[(.int .i64 0), (.string ⟨#[]⟩)]) 24 rfl Tryz.underlying23 info98 rfl (by decide) (by omega) v18 [] l1 _ _ _ (fun k_ => some k_ ≠ (v25 : Value).ownBlock) (fun _ => False) rfl rfl ?aO ?aR (fun _ _ h => h) (fun _ h => h.elim) ?aF ?aB ?aS ?aL ?_
    (case aR => exact HRC.out _ HB.out)
    (case aB => exact HB.out)
    (case aF => exact fun k_ hk => Kd.fresh' (Kd.R_lt HO25.out) k_ hk)
    (case aO => exact Kd.R_mono HO18.out (fun _ hk => hk.2))
    (case aS => exact HB.out.size)
    (case aL => simp only [List.length_nil, Nat.zero_add]; omega)
    intro v21 wc ho hb hg hat
    have BK3' := Zk (blk_grown BK3.out hg (Kd.R_ne HO18.out BK3.out (by decide)))
    have BK6' := Zk (blk_grown BK6.out hg (Kd.R_ne HO18.out BK6.out (by decide)))
    have HB' := Zk hb
    have HO21 := Zk ho
    have HO25' := Zk (Kd.R_after (ok := (fun _ => True)) (Kd.R_mono HO25.out (fun _ hk => ⟨trivial, hk.2⟩)) hg hat)
    clear BK3 BK6 HB HO25
    have BK3 := BK3'
    have BK6 := BK6'
    have HB := HB'
    have HO25 := HO25'
    clear BK3' BK6' HB' ho hb hg hat HO25'
    refine hK.out _ _ ⟨(blk_cell BK3.out 0).trans rfl, (blk_cell BK3.out 1).trans rfl⟩ (fun hHeld => ?_)
    clear hK K
    refine norm_ (a' := ?_) ?_ ?_
    rotate_left
    ·show Act.put _ (some 21) _ = _
     simp only [Act.put, List.setIfInBounds_toArray, List.set_cons_zero, List.set_cons_succ, i64_w, i32_w]
     rfl
    exact norm_ (by simp only [putAll, Act.put, List.setIfInBounds_toArray, List.set_cons_zero, List.set_cons_succ]) (hCont (v18, v21, v25) _ ⟨hHeld, HO21.out, Kd.R_mono HO25.out (fun _ hk => hk.2), BK3.out, BK6.out, HB.out⟩)
  ·skip
   refine Kd.R_lit_step k98 _ 98 ?hg (N := 25) ?hd (xs := ([(⟨a1, a2⟩ : S98)] : List (S98))) (inner := [.int .i64 a1, .string a2]) (ok := fun _ => True) (okp := fun _ => True) ?hr ?hp (fun _ hk => hk) trivial (Below.refl _ _) (Nat.le_refl _) (by simp) ?_; (case hd => rfl); (case hg => rfl); (case hr => first | (go_simp; done) | (go_simp; rfl)); (case hp => exact (Reps.c2 (show Kd.M k98 _ _ _ (⟨a1, a2⟩ : S98) [.int .i64 a1, .string a2] from (k98_mkM _ _ _ (⟨a1, a2⟩ : S98))) (Reps.none _ _)))
   intro v25 wa ho hb hg_ hnew_
   clear hg_ hnew_
   have BK3' := Zk (blk_below BK3.out hb)
   have BK6' := Zk (blk_below BK6.out hb)
   have HB' := Zk (below_step HB.out hb)
   have HO25 := Zk (Kd.R_lower ho HB.out.size)
   clear BK3 BK6 HB
   have BK3 := BK3'
   have BK6 := BK6'
   have HB := HB'
   clear BK3' BK6' HB' ho hb
   refine hK.out _ _ ⟨(blk_cell BK3.out 0).trans rfl, (blk_cell BK3.out 1).trans rfl⟩ (fun hHeld => ?_)
   clear hK K
   refine norm_ (a' := ?_) ?_ ?_
   rotate_left
   ·show Act.put _ (some 25) _ = _
    simp only [Act.put, List.setIfInBounds_toArray, List.set_cons_zero, List.set_cons_succ, i64_w, i32_w]
    rfl
   refine one_ (i := 2) (N := some 18) #[true, true, true, true, true, false, true, true, true, true, false, false, false, false] rfl rfl (one_of HT_.out (by kernel_rfl)) (by decide) (fun K hK => ?_)
   refine Kd.R_lit_step k98 _ 98 ?hg (N := 18) ?hd (xs := ([] : List (S98))) (inner := []) (ok := fun _ => True) (okp := fun _ => True) ?hr ?hp (fun _ hk => hk) trivial (Below.refl _ _) (Nat.le_refl _) (by simp) ?_; (case hd => rfl); (case hg => rfl); (case hr => first | (go_simp; done) | (go_simp; rfl)); (case hp => exact (Reps.none _ _))
   intro v18 wb ho hb hg_ hnew_
   clear hg_ hnew_
   have BK3' := Zk (blk_below BK3.out hb)
   have BK6' := Zk (blk_below BK6.out hb)
   have HB' := Zk (below_step HB.out hb)
   have HO18 := Zk (Kd.R_lower (Kd.R_new' ho (Kd.R_lt HO25.out)) HB.out.size)
   have HO25' := Zk (Kd.R_elder' HO25.out (Kd.R_base ho) hb)
   clear BK3 BK6 HB HO25
   have BK3 := BK3'
   have BK6 := BK6'
   have HB := HB'
   have HO25 := HO25'
   clear BK3' BK6' HB' ho hb HO25'
   refine hK.out _ _ ⟨(blk_cell BK3.out 0).trans rfl, (blk_cell BK3.out 1).trans rfl⟩ (fun hHeld => ?_)
   clear hK K
   refine norm_ (a' := ?_) ?_ ?_
   rotate_left
   ·show Act.put _ (some 18) _ = _
    simp only [Act.put, List.setIfInBounds_toArray, List.set_cons_zero, List.set_cons_succ, i64_w, i32_w]
    rfl
   refine one_ (i := 5) (N := some 21) #[true, true, true, true, true, true, true, true, true, true, false, false, false, false] rfl rfl (one_of HT_.out (by kernel_rfl)) (by decide) (fun K hK => ?_)
   refine Kd.R_append_rows_step k98 (w0 := w) w.heap.size (by rfl) (.tmp 18) (.tmp 20) 23 98 (.agg #[(.int .i64 0), (.string ⟨#[]⟩)]) 24 rfl Tryz.underlying23 info98 rfl (by decide) (by omega) v18 [] l1 _ _ _ (fun k_ => some k_ ≠ (v25 : Value).ownBlock) (fun _ => False) rfl rfl ?aO ?aR (fun _ _ h => h) (fun _ h => h.elim) ?aF ?aB ?aS ?aL ?_
   (case aR => exact HRC.out _ HB.out)
   (case aB => exact HB.out)
   (case aF => exact fun k_ hk => Kd.fresh' (Kd.R_lt HO25.out) k_ hk)
   (case aO => exact Kd.R_mono HO18.out (fun _ hk => hk.2))
   (case aS => exact HB.out.size)
   (case aL => simp only [List.length_nil, Nat.zero_add]; omega)
   intro v21 wc ho hb hg hat
   have BK3' := Zk (blk_grown BK3.out hg (Kd.R_ne HO18.out BK3.out (by decide)))
   have BK6' := Zk (blk_grown BK6.out hg (Kd.R_ne HO18.out BK6.out (by decide)))
   have HB' := Zk hb
   have HO21 := Zk ho
   have HO25' := Zk (Kd.R_after (ok := (fun _ => True)) (Kd.R_mono HO25.out (fun _ hk => ⟨trivial, hk.2⟩)) hg hat)
   clear BK3 BK6 HB HO25
   have BK3 := BK3'
   have BK6 := BK6'
   have HB := HB'
   have HO25 := HO25'
   clear BK3' BK6' HB' ho hb hg hat HO25'
   refine hK.out _ _ ⟨(blk_cell BK3.out 0).trans rfl, (blk_cell BK3.out 1).trans rfl⟩ (fun hHeld => ?_)
   clear hK K
   refine norm_ (a' := ?_) ?_ ?_
   rotate_left
   ·show Act.put _ (some 21) _ = _
    simp only [Act.put, List.setIfInBounds_toArray, List.set_cons_zero, List.set_cons_succ, i64_w, i32_w]
    rfl
   exact norm_ (by simp only [putAll, Act.put, List.setIfInBounds_toArray, List.set_cons_zero, List.set_cons_succ]) (hCont (v18, v21, v25) _ ⟨hHeld, HO21.out, Kd.R_mono HO25.out (fun _ hk => hk.2), BK3.out, BK6.out, HB.out⟩)
 clear BK3 BK6 HB hHeld
 rintro ⟨v18, v21, v25⟩ we ⟨hHeld, h0_, h1_, h2_, h3_, h4_⟩
 replace h0_ : Kd.R k98 98 we w.heap.size (fun k_ => some k_ ≠ (v25 : Value).ownBlock) v21 l1 := h0_
 replace h1_ : Kd.R k98 98 we w.heap.size (fun k_ => some k_ ≠ (v21 : Value).ownBlock) v25 [(⟨a1, a2⟩ : S98)] := h1_
 have HO21 := Zk h0_
 obtain ⟨A25, c25, rfl⟩ := Kd.R_slice h1_
 have HO25 := Zk h1_
 have BK3 := Zk h2_
 have BK6 := Zk h3_
 have HB := Zk h4_
 clear h0_ h1_ h2_ h3_ h4_
 refine norm_ (a' := ?_) ?_ ?_
 rotate_left
 ·simp only [putAll, Act.put, List.setIfInBounds_toArray, List.set_cons_zero, List.set_cons_succ]
  rfl
 refine one_ (i := 10) (N := some 26) #[true, true, true, true, true, true, true, true, true, true, true, false, false, false] rfl rfl (one_of HT_.out (by kernel_rfl)) (by decide) (fun K hK => ?_)
 refine Kd.R_append_rows_step k98 (w0 := w) w.heap.size (by rfl) (.tmp 21) (.tmp 25) 23 98 (.agg #[(.int .i64 0), (.string ⟨#[]⟩)]) 24 rfl Tryz.underlying23 info98 rfl (by decide) (by omega) v21 l1 [(⟨a1, a2⟩ : S98)] _ _ _ (fun k_ => some k_ ≠ (.slice A25 [(⟨a1, a2⟩ : S98)].length c25 : Value).ownBlock) (fun _ => False) rfl rfl ?aO ?aR (fun _ _ h => h) (fun _ h => h.elim) ?aF ?aB ?aS ?aL ?_
 (case aR => exact (Kd.R_reads' HO25.out).2.2)
 (case aB => exact HB.out)
 (case aF => exact fun k_ hk => Kd.fresh' (Kd.R_lt HO25.out) k_ hk)
 (case aO => exact HO21.out)
 (case aS => exact HB.out.size)
 (case aL => simp only [List.length_singleton]; omega)
 intro v26 wf ho hb hg hat
 have BK3' := Zk (blk_grown BK3.out hg (Kd.R_ne HO21.out BK3.out (by decide)))
 have BK6' := Zk (blk_grown BK6.out hg (Kd.R_ne HO21.out BK6.out (by decide)))
 have HB' := Zk hb
 have HO26 := Zk ho
 clear BK3 BK6 HB
 have BK3 := BK3'
 have BK6 := BK6'
 have HB := HB'
 clear BK3' BK6' HB' ho hb hg hat
 refine hK.out _ _ ⟨(blk_cell BK3.out 0).trans rfl, (blk_cell BK3.out 1).trans rfl⟩ (fun hHeld => ?_)
 clear hK K
 refine norm_ (a' := ?_) ?_ ?_
 rotate_left
 ·show Act.put _ (some 26) _ = _
  simp only [Act.put, List.setIfInBounds_toArray, List.set_cons_zero, List.set_cons_succ, i64_w, i32_w]
  rfl
 clear HO21 HO25
 obtain ⟨A26, c26, ev⟩ := Kd.R_slice HO26.out
 have ev2 := ev
 rw [List.length_append, List.length_singleton] at ev2
 subst ev2
 clear ev
 refine pu_ 11 27 ?_
 refine one_ (i := 12) (N := none) #[true, true, true, true, true, true, true, true, true, true, true, true, true, false] rfl rfl (one_of HT_.out (by kernel_rfl)) (by decide) (fun K hK => ?_)
 have hs0 : wf.cell? ⟨w.heap.size + 1, 0, none⟩ = some (.slice none 0 0) := (blk_cell BK6.out 0).trans rfl
 have hfs0 := blk_frozen BK6.out 0
 have hs1 : wf.cell? ⟨w.heap.size + 1, 1, none⟩ = some (.slice none 0 0) := (blk_cell BK6.out 1).trans rfl
 have hfs1 := blk_frozen BK6.out 1
 have hne : w.heap.size ≠ w.heap.size + 1 := by omega
 have hne2 : w.heap.size + 1 ≠ w.heap.size := by omega
 refine skip_ (w1 := ?_) (by rfl) rfl ?_ ?_
 rotate_left
 ·go_simp
  rfl
 refine hK.out _ _ ⟨((cell_far (p := ⟨w.heap.size + 1, _, none⟩) hne _).trans (((cell_far (p := ⟨w.heap.size + 1, _, none⟩) hne _).trans (hHeld.1)))), ((cell_far (p := ⟨w.heap.size + 1, _, none⟩) hne _).trans (((cell_far (p := ⟨w.heap.size + 1, _, none⟩) hne _).trans (hHeld.2))))⟩ (fun hHeld => ?_)
 clear hK K
 refine pu_ 13 7 ?_
 refine done_ (done_of HT_.out (by kernel_rfl)) ?_
 try go_wp2
 refine bodyPost_ret (results_ct rfl _ _ (w.heap.size + 1) 25 #[.slice A0 n0 c0, .slice A26 (l1.length + 1) c26] (0, 0) _ rfl (blk_put (cs := #[.slice A0 n0 c0, .slice none 0 0]) (blk_put (cs := #[.slice none 0 0, .slice none 0 0]) BK6.out 0 _ rfl) 1 _ rfl) Tryz.underlying25 rfl (by kernel_rfl)) rfl ?_
 refine ⟨_, rfl, R_set (R_set (Kd.R_mono HO26.out (fun _ _ => trivial)) BK6.out (by decide) 0 (.slice A0 n0 c0)) (blk_put (cs' := #[.slice A0 n0 c0, .slice none 0 0]) BK6.out 0 (.slice A0 n0 c0) rfl) (by decide) 1 _, ?_⟩
 exact (HB.out.setCell (p := ⟨w.heap.size + 1, 0, none⟩) (Nat.le_succ _) _).setCell (p := ⟨w.heap.size + 1, 1, none⟩) (Nat.le_succ _) _
def doL : List S98 → List ByteArray → List S98 → Bool → Option (List ByteArray × List S98)
 | [], bs, ls, fl => if fl = true then some (bs, ls) else none
 | x :: r, bs, ls, fl =>
  if x.f0 = -1 ∧ x.f1 = ⟨#[]⟩ then (assartref02_Flush.f 100000 bs ls).bind fun q => doL r q.1 q.2 true
  else if ls.length < 1000000 ∧ assartref02_may.f bs ls x.f0 x.f1 = some true then doL r bs (ls ++ [x]) fl else none
def assartref02_Do.f (l0_0 : List ByteArray) (l0_1 : List S98) (l1 : List S98) (a2 : Int) : Option (List ByteArray × List S98 × Int) :=
 if a2 < 0 ∧ l1.length < 1000000 then (doL l1 l0_0 l0_1 false).map fun q => (q.1, q.2, (l1.length : Int)) else none
def RowOr {α : Type} (d : Kd α) (e : Nat) (w W : World) (own : Prop) (v : Value) (xs : List α) : Prop :=
 (¬ own ∧ ∃ A c, v = .slice A xs.length c ∧ xs.length ≤ c ∧ Kd.C d w A xs.length xs) ∨ Kd.R d e W w.heap.size (fun _ => True) v xs
theorem RowOr.reads {α : Type} {d : Kd α} {e : Nat} {w W : World} {own : Prop} {v : Value} {xs : List α} (h : RowOr d e w W own v xs) (hb : Below w.heap.size w W) : ∃ A c, v = .slice A xs.length c ∧ xs.length ≤ c ∧ Kd.C d W A xs.length xs := by
 rcases h with ⟨-, A, c, rfl, hc, hC⟩ | h
 ·exact ⟨A, c, rfl, hc, Kd.C_below hC hb⟩
 ·exact Kd.R_reads h
theorem RowOr.below {α : Type} {d : Kd α} {e : Nat} {w W W' : World} {own : Prop} {v : Value} {xs : List α} (h : RowOr d e w W own v xs) (hb : Below W.heap.size W W') : RowOr d e w W' own v xs := by
 rcases h with h | h
 ·exact .inl h
 ·exact .inr (Kd.R_below h hb)
theorem RowOr.set {α : Type} {d : Kd α} {e : Nat} {w W : World} {own : Prop} {v : Value} {xs : List α} (h : RowOr d e w W own v xs) {g t : Nat} {cells : Array Value} (hg : W.heap[g]? = some (.cells cells t (0, 0))) (ht : ∀ q, q ∈ e :: d.E → q ≠ t) (i : Nat) (u : Value) : RowOr d e w (W.setCell ⟨g, i, none⟩ u) own v xs := by
 rcases h with h | h
 ·exact .inl h
 ·exact .inr (R_set h hg ht i u)
theorem RowOr.own {α : Type} {d : Kd α} {e : Nat} {w W : World} {own : Prop} {v : Value} {xs : List α} (h : RowOr d e w W own v xs) (ho : own) : Kd.R d e W w.heap.size (fun _ => True) v xs := by
 rcases h with h | h
 ·exact absurd ho h.1
 ·exact h
theorem doL_drop {ws : List S98} {j : Nat} (h : j < ws.length) : ws.drop j = rd_T98 ws (j : Nat) :: ws.drop (j + 1) := by
 rw [List.drop_eq_getElem_cons h]
 congr 1
 simp [rd_T98, h]
def hDo.T8 : Bool × List (List Nat × List Nat) := (true, [([], []), ([], []), ([], []), ([1, 2], [1, 2]), ([3], [3]), ([4], [4]), ([], []), ([], []), ([6, 7], [6, 7]), ([8], [8]), ([9], [9]), ([0, 5, 10], [0, 5, 10]), ([11], [11]), ([12], [12]), ([12], [12]), ([], []), ([15, 13, 11, 0, 1, 2, 3, 4, 5, 6, 7, 8, 9, 10, 11, 12, 13, 15], [13, 15]), ([14, 16, 0, 1, 2, 3, 4, 5, 6, 7, 8, 9, 10, 11, 12, 13, 14, 15, 16], [14])])
def hDo.B8 : List Nat := [0, 0, 0, 6, 14, 30, 0, 0, 192, 448, 960, 2047, 4095, 8191, 8191, 0, 49151, 131071]
theorem hDo.tab8 : rtab .any (opsOf Tryz.f79 8) = hDo.T8 := by kernel_rfl
theorem hDo.bits8 : waitsOk hDo.T8.2 hDo.B8 = true := by kernel_rfl
theorem may_pos {bs : List ByteArray} {ls : List S98} {a : Int} {v : ByteArray} (h : assartref02_may.f bs ls a v = some true) : 0 ≤ a := by
 unfold assartref02_may.f at h
 by_cases h0 : a ≥ 0
 case pos => exact h0
 rw [if_neg h0] at h; cases h
theorem assartref02_Do.calls (A0_0 : Option Addr) (c0_0 : Nat) (l0_0 : List ByteArray) (A0_1 : Option Addr) (c0_1 : Nat) (l0_1 : List S98) (A1 : Option Addr) (c1 : Nat) (l1 : List S98) (a2 : Int) (r1 : List ByteArray) (r2 : List S98) (r3 : Int) (w : World) (hr0_0 : Kd.C Kd.string w A0_0 l0_0.length l0_0) (hc0_0 : l0_0.length ≤ c0_0) (hr0_1 : Kd.C k98 w A0_1 l0_1.length l0_1) (hc0_1 : l0_1.length ≤ c0_1) (hr1 : Kd.C k98 w A1 l1.length l1) (hc1 : l1.length ≤ c1) (h : assartref02_Do.f l0_0 l0_1 l1 a2 = some (r1, r2, r3)) :
  Calls Tryz.prog 79 #[.agg #[.slice A0_0 l0_0.length c0_0, .slice A0_1 l0_1.length c0_1], .slice A1 l1.length c1, .int .i64 a2] w fun e w' => ∃ v0_ v1_ : Value, e = .returned (.tuple #[.agg #[v0_, v1_], .int .i64 r3]) ∧ Kd.R Kd.string 9 w' w.heap.size (fun _ => True) v0_ r1 ∧ Kd.R k98 98 w' w.heap.size (fun _ => True) v1_ r2 ∧ Below w.heap.size w w' := by
 unfold assartref02_Do.f at h
 by_cases hk : a2 < 0 ∧ l1.length < 1000000
 case neg => rw [if_neg hk] at h; cases h
 rw [if_pos hk] at h
 obtain ⟨⟨q1, q2⟩, hq, hqe⟩ := Option.map_eq_some_iff.1 h
 simp only [Prod.mk.injEq] at hqe
 obtain ⟨rfl, rfl, rfl⟩ := hqe
 obtain ⟨ha2, hl1⟩ := hk
 have HL := Zk hl1
 have HR := Zk (fun (W : World) (hb : Below w.heap.size w W) => Kd.C_below hr1 hb)
 have hu25 := Tryz.underlying25
 have hu98 := Tryz.underlying98
 obtain ⟨w1, hw1⟩ : ∃ W, (w.alloc (.cells #[.slice A0_0 l0_0.length c0_0, .slice A0_1 l0_1.length c0_1] 25)).alloc (.cells #[.slice none 0 0, .slice none 0 0] 25) = W := ⟨_, rfl⟩
 have hb1 : Below w.heap.size w w1 := by rw [← hw1]; exact ((Below.refl _ w).alloc (Nat.le_refl _) _).alloc (by simp) _
 have BK3 := Zk (show w1.heap[w.heap.size]? = some (.cells #[.slice A0_0 l0_0.length c0_0, .slice A0_1 l0_1.length c0_1] 25 (0, 0)) by rw [← hw1]; exact blk_alloc (alloc_new w _) _)
 have BK6 := Zk (show w1.heap[w.heap.size + 1]? = some (.cells #[.slice none 0 0, .slice none 0 0] 25 (0, 0)) by
  rw [← hw1]
  have := alloc_new (w.alloc (.cells #[.slice A0_0 l0_0.length c0_0, .slice A0_1 l0_1.length c0_1] 25)) (.cells #[.slice none 0 0, .slice none 0 0] 25)
  rwa [World.size_alloc] at this)
 have HB := Zk hb1
 have HBO : Aside0 (RowOr Kd.string 9 w w1 (false = true) (.slice A0_0 l0_0.length c0_0) l0_0) := ⟨.inl ⟨by decide, A0_0, c0_0, rfl, hc0_0, hr0_0⟩⟩
 have HWO : Aside0 (RowOr k98 98 w w1 (false = true) (.slice A0_1 l0_1.length c0_1) l0_1) := ⟨.inl ⟨by decide, A0_1, c0_1, rfl, hc0_1, hr0_1⟩⟩
 have HD := Zk hq
 have hnn : decide (a2 ≥ 0) = false := decide_eq_false (by omega)
 have hnn2 : decide (0 ≤ a2) = false := decide_eq_false (by omega)
 clear h hq hr0_0 hr0_1 hr1 hb1 ha2
 go_enter Tryz.func79, Tryz.ntmps79
 go_wp2
 clear hw1
 go_loopg [8] l1.length (fun kx s8 wr => ∃ (j : Nat) (bs : List ByteArray) (ls : List S98) (fl : Bool) (vb vw : Value), s8 = .int .i64 j ∧ j ≤ l1.length ∧ l1.length - j ≤ kx ∧ Aside0 (doL (l1.drop j) bs ls fl = some (q1, q2)) ∧ Aside0 (wr.heap[w.heap.size]? = some (.cells #[vb, vw] 25 (0, 0))) ∧ Aside0 (wr.heap[w.heap.size + 1]? = some (.cells #[.slice none 0 0, .slice none 0 0] 25 (0, 0))) ∧ Aside0 (RowOr Kd.string 9 w wr (fl = true) vb bs) ∧ Aside0 (RowOr k98 98 w wr (fl = true) vw ls) ∧ Aside0 (Below w.heap.size w wr))
 case atStart => exact ⟨0, l0_0, l0_1, false, _, _, rfl, Nat.zero_le _, Nat.le_refl _, HD, BK3, BK6, HBO, HWO, HB⟩
 case round =>
  clear HD BK3 BK6 HBO HWO HB
  obtain ⟨j, bs, ls, fl, vb, vw, rfl, hj, hjk, HD, BK3, BK6, HBO, HWO, HB⟩ := hrel
  obtain ⟨Ab, cb, rfl, hcb, hCb⟩ := HBO.out.reads HB.out
  obtain ⟨Aw, cw, rfl, hcw, hCw⟩ := HWO.out.reads HB.out
  obtain ⟨d0, d1, -, -⟩ := cf2_ BK3
  have f0 := blk_frozen BK3.out 0
  have f1 := blk_frozen BK3.out 1
  by_cases hjl : j < l1.length
  case neg =>
   obtain rfl : j = l1.length := by omega
   have hd := HD.out
   rw [List.drop_length, doL] at hd
   cases fl with
   | false => simp at hd
   | true =>
    simp only [if_true, Option.some.injEq, Prod.mk.injEq] at hd
    obtain ⟨rfl, rfl⟩ := hd
    obtain ⟨z0, z1, -, -⟩ := cf2_ BK6
    have y0 := blk_frozen BK6.out 0
    have y1 := blk_frozen BK6.out 1
    have hRb := HBO.out.own rfl
    have hRw := HWO.out.own rfl
    clear HBO HWO
    have HRB := Zk hRb
    have HRW := Zk hRw
    clear hRb hRw hCb hCw
    go_wp2
    refine bodyPost_ret (results_ct rfl _ _ (w.heap.size + 1) 25 #[.slice Ab bs.length cb, .slice Aw ls.length cw] (0, 0) _ rfl (blk_put (blk_put BK6.out 0 _ rfl) 1 _ rfl) Tryz.underlying25 rfl (by kernel_rfl)) rfl ?_
    exact ⟨_, _, rfl, R_set (R_set HRB.out BK6.out (by decide) 0 _) (blk_put BK6.out 0 _ rfl) (by decide) 1 _, R_set (R_set HRW.out BK6.out (by decide) 0 _) (blk_put BK6.out 0 _ rfl) (by decide) 1 _, (HB.out.setCell (p := ⟨w.heap.size + 1, 0, none⟩) (Nat.le_succ _) _).setCell (p := ⟨w.heap.size + 1, 1, none⟩) (Nat.le_succ _) _⟩
  have hd := HD.out
  rw [doL_drop hjl] at hd
  obtain ⟨ad, rfl, xx0, xx1⟩ := at_T98 (HR.out _ (Below.refl _ w)) (j : Int) (by omega) (by omega)
  rw [Int.toNat_natCast] at xx0 xx1
  obtain ⟨x, hx⟩ : ∃ x, rd_T98 l1 (j : Nat) = x := ⟨_, rfl⟩
  rw [hx] at hd xx0 xx1
  have HX0 := Zk xx0
  have HX1 := Zk xx1
  have HXL := Zk (World.block_lt_of_cell? w _ xx0)
  have x0 := (HB.out.cell HXL.out).trans xx0
  have x1 := (HB.out.cell (p := ⟨(ad.add (j * 2)).block, (ad.add (j * 2)).off + 1, none⟩) HXL.out).trans xx1
  clear xx0 xx1
  have hjz : (0 : Int) ≤ j := by omega
  have hjl2 : (j : Int) < (l1.length : Int) := by omega
  rw [doL] at hd
  by_cases hfl : x.f0 = -1 ∧ x.f1 = ⟨#[]⟩
  case pos =>
   rw [if_pos hfl] at hd
   obtain ⟨⟨b2, l2⟩, hfs, hd2⟩ := Option.bind_eq_some_iff.1 hd
   rw [hfl.1] at x0
   rw [hfl.2] at x1
   have HFL := Zk (assartref02_Flush.calls 100000 Ab cb bs Aw cw ls b2 l2 wr hCb hcb hCw hcw hfs)
   have HD2 := Zk hd2
   clear hd hd2 hfs hfl hCb hCw hx
   go_wp2_with fail
   refine HFL.out.mono ?_
   rintro e w5 ⟨v0, v1, rfl, hv0, hv1, hb5⟩
   obtain ⟨A5, c5, rfl⟩ := Kd.R_slice hv0
   obtain ⟨A6, c6, rfl⟩ := Kd.R_slice hv1
   have K3 := Zk (blk_below BK3.out hb5)
   have K6 := Zk (blk_below BK6.out hb5)
   have HV0 := Zk (Kd.R_lower hv0 HB.out.size)
   have HV1 := Zk (Kd.R_lower hv1 HB.out.size)
   have HB5 := Zk (below_step HB.out hb5)
   clear d0 d1 f0 f1 x0 x1 hv0 hv1 hb5 HFL
   obtain ⟨d0, d1, -, -⟩ := cf2_ K3
   have f0 := blk_frozen K3.out 0
   have f1 := blk_frozen K3.out 1
   go_wp2
   go_roundg (l1.length - (j + 1))
   case measure => exact (show l1.length - (j + 1) < gk by omega)
   case rel => exact ⟨j + 1, b2, l2, true, _, _, rfl, by omega, Nat.le_refl _, HD2, ⟨blk_put (blk_put K3.out 0 _ rfl) 1 _ rfl⟩, ⟨(Below.heap_setCell _ _ _ _ (show w.heap.size + 1 ≠ w.heap.size by omega)).trans ((Below.heap_setCell _ _ _ _ (show w.heap.size + 1 ≠ w.heap.size by omega)).trans K6.out)⟩, ⟨.inr (R_set (R_set HV0.out K3.out (by decide) 0 _) (blk_put K3.out 0 _ rfl) (by decide) 1 _)⟩, ⟨.inr (R_set (R_set HV1.out K3.out (by decide) 0 _) (blk_put K3.out 0 _ rfl) (by decide) 1 _)⟩, ⟨(HB5.out.setCell (p := ⟨w.heap.size, 0, none⟩) (Nat.le_refl _) _).setCell (p := ⟨w.heap.size, 1, none⟩) (Nat.le_refl _) _⟩⟩
  rw [if_neg hfl] at hd
  by_cases hm : ls.length < 1000000 ∧ assartref02_may.f bs ls x.f0 x.f1 = some true
  case neg => rw [if_neg hm] at hd; cases hd
  rw [if_pos hm] at hd
  have hne : (x.f0 == -1) = false := by have := may_pos hm.2; simp; omega
  obtain ⟨hls, hmay⟩ := hm
  have HPW : Aside0 (∀ W, RowOr Kd.string 9 w W (fl = true) (.slice Ab bs.length cb) bs → RowOr k98 98 w W (fl = true) (.slice Aw ls.length cw) ls → Below w.heap.size w W → Calls Tryz.prog 101 #[.agg #[.slice Ab bs.length cb, .slice Aw ls.length cw], .int .i64 x.f0, .string x.f1] W fun e w' => ∃ v1 : Value, e = .returned (.tuple #[.agg #[.slice Ab bs.length cb, v1], .int .i64 0]) ∧ Kd.R k98 98 w' W.heap.size (fun _ => True) v1 (ls ++ [(⟨x.f0, x.f1⟩ : S98)]) ∧ Below W.heap.size W w') := ⟨fun W h1 h2 hb => by
   obtain ⟨A', c', e1, hc', hC'⟩ := h1.reads hb
   cases e1
   obtain ⟨A'', c'', e2, hc'', hC''⟩ := h2.reads hb
   cases e2
   exact put_walk Ab bs.length cb bs Aw cw ls x.f0 x.f1 W rfl hC' hc' hC'' hc'' hls hmay⟩
  have HD2 := Zk hd
  clear hd hmay hfl hx
  go_wp2
  have hCb2 := hCb
  replace BK3 := Zk (blk_drew BK3.out)
  replace BK6 := Zk (blk_drew BK6.out)
  replace HBO := Zk (RowOr.below HBO.out (below_drew (Below.refl _ wr)))
  replace HWO := Zk (RowOr.below HWO.out (below_drew (Below.refl _ wr)))
  replace HB := Zk (below_drew1 HB.out)
  refine start_ (n := 18) (S := fun w' => w'.cell? ⟨w.heap.size, 0, none⟩ = some (.slice Ab bs.length cb) ∧ w'.cell? ⟨w.heap.size, 1, none⟩ = some (.slice Aw ls.length cw) ∧ w'.cell? (ad.add (j * 2)) = some (.int .i64 x.f0) ∧ w'.cell? ⟨(ad.add (j * 2)).block, (ad.add (j * 2)).off + 1, none⟩ = some (.string x.f1)) (ds := []) #[false, false, false, false, false, false, false, false, false, false, false, false, false, false, false, false, false, false] (by kernel_rfl) rfl rfl ⟨(blk_cell BK3.out 0).trans rfl, (blk_cell BK3.out 1).trans rfl, (HB.out.cell HXL.out).trans HX0.out, (HB.out.cell (p := ⟨(ad.add (j * 2)).block, (ad.add (j * 2)).off + 1, none⟩) HXL.out).trans HX1.out⟩ (fun hHeld => ?_)
  refine with_tabW hDo.tab8 hDo.bits8 (fun HT_ HW_ => ?_)
  generalize wr.drew = wd at BK3 BK6 HBO HWO HB hHeld ⊢
  refine pu_ 1 44 ?_
  refine pu_ 2 45 ?_
  refine pu_ 3 46 ?_
  refine pu_ 4 47 ?_
  refine pu_ 6 49 ?_
  refine pu_ 7 50 ?_
  refine pu_ 8 51 ?_
  refine pu_ 9 52 ?_
  refine tk_ 0 43 ?_
  refine tk_ 5 48 ?_
  refine tk_ 10 53 ?_
  refine join_ (σ := Value × Nat) 2 #[true, true, true, true, true, true, true, true, true, true, true, true, true, true, true, true, false, false] (fun s_ => [(54, .tuple #[.agg #[.slice Ab bs.length cb, s_.1], .int .i64 0]), (9, .pointer (some ⟨s_.2, 0, none⟩)), (42, .tuple #[.agg #[.slice Ab bs.length cb, s_.1], .int .i64 0]), (55, .agg #[.slice Ab bs.length cb, s_.1]), (56, .int .i64 0)]) (fun s_ w' => (w'.cell? ⟨w.heap.size, 0, none⟩ = some (.slice Ab bs.length cb) ∧ w'.cell? ⟨w.heap.size, 1, none⟩ = some (.slice Aw ls.length cw) ∧ w'.cell? (ad.add (j * 2)) = some (.int .i64 x.f0) ∧ w'.cell? ⟨(ad.add (j * 2)).block, (ad.add (j * 2)).off + 1, none⟩ = some (.string x.f1)) ∧ Kd.R k98 98 w' w.heap.size (fun _ => True) s_.1 (ls ++ [(⟨x.f0, x.f1⟩ : S98)]) ∧ w'.heap[s_.2]? = some (.cells #[.slice none 0 0, .slice none 0 0] 25 (0, 0)) ∧ w.heap.size + 1 < s_.2 ∧ w'.heap[w.heap.size]? = some (.cells #[.slice Ab bs.length cb, .slice Aw ls.length cw] 25 (0, 0)) ∧ w'.heap[w.heap.size + 1]? = some (.cells #[.slice none 0 0, .slice none 0 0] 25 (0, 0)) ∧ RowOr Kd.string 9 w w' (fl = true) (.slice Ab bs.length cb) bs ∧ Below w.heap.size w w') ?_ ?_
  rotate_left
  ·skip
   intro hCont
   refine two_ (i := 11) (j := 15) (Ni := some 54) (Nj := some 9) #[true, true, true, true, true, true, true, true, true, true, true, true, false, false, false, false, false, false] #[true, true, true, true, true, true, true, true, true, true, true, false, false, false, false, true, false, false] rfl rfl rfl rfl (two_of HT_.out (by kernel_rfl)) (by decide) (by decide) (fun K hK => ?_) (fun K hK => ?_)
   ·skip
    refine goes_ Tryz.func101 (by kernel_rfl) rfl #[.agg #[.slice Ab bs.length cb, .slice Aw ls.length cw], .int .i64 x.f0, .string x.f1] (by rfl) rfl rfl (by first | done | rfl | (simp only [List.map_toArray, List.map_cons, List.map_nil]; first | done | rfl)) ?_
    refine (HPW.out _ HBO.out HWO.out HB.out).mono ?_
    rintro e wa ⟨v1, rfl, hv1, hb⟩
    refine ⟨_, rfl, ?_⟩
    have BK3' := Zk (blk_below BK3.out hb)
    have BK6' := Zk (blk_below BK6.out hb)
    have HBO' := Zk (RowOr.below HBO.out hb)
    have HWO' := Zk (RowOr.below HWO.out hb)
    have HV1 := Zk (Kd.R_lower hv1 HB.out.size)
    have HB' := Zk (below_step HB.out hb)
    clear BK3 BK6 HBO HWO HB
    have BK3 := BK3'
    have BK6 := BK6'
    have HBO := HBO'
    have HWO := HWO'
    have HB := HB'
    clear BK3' BK6' HBO' HWO' HB' hb hv1
    refine hK.out _ _ ⟨(blk_cell BK3.out 0).trans rfl, (blk_cell BK3.out 1).trans rfl, (HB.out.cell HXL.out).trans HX0.out, (HB.out.cell (p := ⟨(ad.add (j * 2)).block, (ad.add (j * 2)).off + 1, none⟩) HXL.out).trans HX1.out⟩ (fun hHeld => ?_)
    clear hK K
    refine norm_ (a' := ?_) ?_ ?_
    rotate_left
    ·show Act.put _ (some 54) _ = _
     simp only [Act.put, List.setIfInBounds_toArray, List.set_cons_zero, List.set_cons_succ, i64_w, i32_w]
     rfl
    refine pu_ 12 42 ?_
    refine pu_ 13 55 ?_
    refine pu_ 14 56 ?_
    refine one_ (i := 15) (N := some 9) #[true, true, true, true, true, true, true, true, true, true, true, true, true, true, true, true, false, false] rfl rfl (one_of HT_.out (by kernel_rfl)) (by decide) (fun K hK => ?_)
    go_simp
    have hba := (Below.refl wa.heap.size wa).alloc (Nat.le_refl _) (.cells #[.slice none 0 0, .slice none 0 0] 25)
    have BK3' := Zk (blk_below BK3.out hba)
    have BK6' := Zk (blk_below BK6.out hba)
    have HBO' := Zk (RowOr.below HBO.out hba)
    have HWO' := Zk (RowOr.below HWO.out hba)
    have HB' := Zk (below_step HB.out hba)
    have BK9 := Zk (alloc_new wa (.cells #[.slice none 0 0, .slice none 0 0] 25))
    have G9 := Zk (show w.heap.size + 1 < wa.heap.size from blk_lt BK6.out)
    have HV1' := Zk (Kd.R_below HV1.out hba)
    clear BK3 BK6 HBO HWO HB HV1
    have BK3 := BK3'
    have BK6 := BK6'
    have HBO := HBO'
    have HWO := HWO'
    have HB := HB'
    have HV1 := HV1'
    clear BK3' BK6' HBO' HWO' HB' hba HV1'
    refine hK.out _ _ ⟨(blk_cell BK3.out 0).trans rfl, (blk_cell BK3.out 1).trans rfl, (HB.out.cell HXL.out).trans HX0.out, (HB.out.cell (p := ⟨(ad.add (j * 2)).block, (ad.add (j * 2)).off + 1, none⟩) HXL.out).trans HX1.out⟩ (fun hHeld => ?_)
    clear hK K
    exact norm_ (by simp only [putAll, Act.put, List.setIfInBounds_toArray, List.set_cons_zero, List.set_cons_succ]) (hCont (v1, wa.heap.size) _ ⟨hHeld, HV1.out, BK9.out, G9.out, BK3.out, BK6.out, HBO.out, HB.out⟩)
   ·skip
    go_simp
    have hba := (Below.refl wd.heap.size wd).alloc (Nat.le_refl _) (.cells #[.slice none 0 0, .slice none 0 0] 25)
    have BK3' := Zk (blk_below BK3.out hba)
    have BK6' := Zk (blk_below BK6.out hba)
    have HBO' := Zk (RowOr.below HBO.out hba)
    have HWO' := Zk (RowOr.below HWO.out hba)
    have HB' := Zk (below_step HB.out hba)
    have BK9 := Zk (alloc_new wd (.cells #[.slice none 0 0, .slice none 0 0] 25))
    have G9 := Zk (show w.heap.size + 1 < wd.heap.size from blk_lt BK6.out)
    clear BK3 BK6 HBO HWO HB
    have BK3 := BK3'
    have BK6 := BK6'
    have HBO := HBO'
    have HWO := HWO'
    have HB := HB'
    clear BK3' BK6' HBO' HWO' HB' hba
    refine hK.out _ _ ⟨(blk_cell BK3.out 0).trans rfl, (blk_cell BK3.out 1).trans rfl, (HB.out.cell HXL.out).trans HX0.out, (HB.out.cell (p := ⟨(ad.add (j * 2)).block, (ad.add (j * 2)).off + 1, none⟩) HXL.out).trans HX1.out⟩ (fun hHeld => ?_)
    clear hK K
    refine one_ (i := 11) (N := some 54) #[true, true, true, true, true, true, true, true, true, true, true, true, false, false, false, true, false, false] rfl rfl (one_of HT_.out (by kernel_rfl)) (by decide) (fun K hK => ?_)
    refine goes_ Tryz.func101 (by kernel_rfl) rfl #[.agg #[.slice Ab bs.length cb, .slice Aw ls.length cw], .int .i64 x.f0, .string x.f1] (by rfl) rfl rfl (by first | done | rfl | (simp only [List.map_toArray, List.map_cons, List.map_nil]; first | done | rfl)) ?_
    refine (HPW.out _ HBO.out HWO.out HB.out).mono ?_
    rintro e wb ⟨v1, rfl, hv1, hb⟩
    refine ⟨_, rfl, ?_⟩
    have BK3' := Zk (blk_below BK3.out hb)
    have BK6' := Zk (blk_below BK6.out hb)
    have HBO' := Zk (RowOr.below HBO.out hb)
    have HWO' := Zk (RowOr.below HWO.out hb)
    have HV1 := Zk (Kd.R_lower hv1 HB.out.size)
    have HB' := Zk (below_step HB.out hb)
    have BK9' := Zk (blk_below BK9.out hb)
    clear BK3 BK6 HBO HWO HB BK9
    have BK3 := BK3'
    have BK6 := BK6'
    have HBO := HBO'
    have HWO := HWO'
    have HB := HB'
    have BK9 := BK9'
    clear BK3' BK6' HBO' HWO' HB' hb hv1 BK9'
    refine hK.out _ _ ⟨(blk_cell BK3.out 0).trans rfl, (blk_cell BK3.out 1).trans rfl, (HB.out.cell HXL.out).trans HX0.out, (HB.out.cell (p := ⟨(ad.add (j * 2)).block, (ad.add (j * 2)).off + 1, none⟩) HXL.out).trans HX1.out⟩ (fun hHeld => ?_)
    clear hK K
    refine norm_ (a' := ?_) ?_ ?_
    rotate_left
    ·show Act.put _ (some 54) _ = _
     simp only [Act.put, List.setIfInBounds_toArray, List.set_cons_zero, List.set_cons_succ, i64_w, i32_w]
     rfl
    refine pu_ 12 42 ?_
    refine pu_ 13 55 ?_
    refine pu_ 14 56 ?_
    exact norm_ (by simp only [putAll, Act.put, List.setIfInBounds_toArray, List.set_cons_zero, List.set_cons_succ]) (hCont (v1, wd.heap.size) _ ⟨hHeld, HV1.out, BK9.out, G9.out, BK3.out, BK6.out, HBO.out, HB.out⟩)
  clear BK3 BK6 HBO HWO HB hHeld HPW
  rintro ⟨v1, g9⟩ we ⟨hHeld, h0_, h1_, h2_, h4_, h5_, h6_, h7_⟩
  replace h0_ : Kd.R k98 98 we w.heap.size (fun _ => True) v1 (ls ++ [(⟨x.f0, x.f1⟩ : S98)]) := h0_
  replace h1_ : we.heap[g9]? = some (.cells #[.slice none 0 0, .slice none 0 0] 25 (0, 0)) := h1_
  replace h2_ : w.heap.size + 1 < g9 := h2_
  obtain ⟨Av, cv, rfl⟩ := Kd.R_slice h0_
  have HV1 := Zk h0_
  have BK9 := Zk h1_
  have G9 := Zk h2_
  have BK3 := Zk h4_
  have BK6 := Zk h5_
  have HBO := Zk h6_
  have HB := Zk h7_
  clear h0_ h1_ h2_ h4_ h5_ h6_ h7_
  refine norm_ (a' := ?_) ?_ ?_
  rotate_left
  ·simp only [putAll, Act.put, List.setIfInBounds_toArray, List.set_cons_zero, List.set_cons_succ]
   rfl
  refine one_ (i := 16) (N := none) #[true, true, true, true, true, true, true, true, true, true, true, true, true, true, true, true, true, false] rfl rfl (one_of HT_.out (by kernel_rfl)) (by decide) (fun K hK => ?_)
  have hs0 : we.cell? ⟨g9, 0, none⟩ = some (.slice none 0 0) := (blk_cell BK9.out 0).trans rfl
  have hfs0 := blk_frozen BK9.out 0
  have hs1 : we.cell? ⟨g9, 1, none⟩ = some (.slice none 0 0) := (blk_cell BK9.out 1).trans rfl
  have hfs1 := blk_frozen BK9.out 1
  have hn3 : w.heap.size ≠ g9 := by have := G9.out; omega
  have hnx : (ad.add (j * 2)).block ≠ g9 := by have := HXL.out; have := G9.out; omega
  have hnx2 : (⟨(ad.add (j * 2)).block, (ad.add (j * 2)).off + 1, none⟩ : Addr).block ≠ g9 := hnx
  refine skip_ (w1 := ?_) (by rfl) rfl ?_ ?_
  rotate_left
  ·go_simp
   rfl
  refine hK.out _ _ ⟨(cell_far (p := ⟨g9, _, none⟩) hn3 _).trans ((cell_far (p := ⟨g9, _, none⟩) hn3 _).trans hHeld.1), (cell_far (p := ⟨g9, _, none⟩) hn3 _).trans ((cell_far (p := ⟨g9, _, none⟩) hn3 _).trans hHeld.2.1), (cell_far (p := ⟨g9, _, none⟩) hnx _).trans ((cell_far (p := ⟨g9, _, none⟩) hnx _).trans hHeld.2.2.1), (cell_far (p := ⟨g9, _, none⟩) hnx2 _).trans ((cell_far (p := ⟨g9, _, none⟩) hnx2 _).trans hHeld.2.2.2)⟩ (fun hHeld => ?_)
  clear hK K
  refine pu_ 17 10 ?_
  refine done_ (done_of HT_.out (by kernel_rfl)) ?_
  clear hHeld HT_ HW_
  have K9 := Zk (blk_put (cs' := #[.slice Ab bs.length cb, .slice Av (ls.length + 1) cv]) (blk_put (cs' := #[.slice Ab bs.length cb, .slice none 0 0]) BK9.out 0 (.slice Ab bs.length cb) rfl) 1 (.slice Av (ls.length + 1) cv) rfl)
  have g9o := G9.out
  have K3 := Zk (show ((we.setCell ⟨g9, 0, none⟩ (.slice Ab bs.length cb)).setCell ⟨g9, 1, none⟩ (.slice Av (ls.length + 1) cv)).heap[w.heap.size]? = _ from (Below.heap_setCell _ _ _ _ (show w.heap.size ≠ g9 by omega)).trans ((Below.heap_setCell _ _ _ _ (show w.heap.size ≠ g9 by omega)).trans BK3.out))
  have K6 := Zk (show ((we.setCell ⟨g9, 0, none⟩ (.slice Ab bs.length cb)).setCell ⟨g9, 1, none⟩ (.slice Av (ls.length + 1) cv)).heap[w.heap.size + 1]? = _ from (Below.heap_setCell _ _ _ _ (show w.heap.size + 1 ≠ g9 by omega)).trans ((Below.heap_setCell _ _ _ _ (show w.heap.size + 1 ≠ g9 by omega)).trans BK6.out))
  have KB := Zk (RowOr.set (RowOr.set HBO.out BK9.out (by decide) 0 (.slice Ab bs.length cb)) (blk_put (cs' := #[.slice Ab bs.length cb, .slice none 0 0]) BK9.out 0 (.slice Ab bs.length cb) rfl) (by decide) 1 (.slice Av (ls.length + 1) cv))
  have KV := Zk (R_set (R_set HV1.out BK9.out (by decide) 0 (.slice Ab bs.length cb)) (blk_put (cs' := #[.slice Ab bs.length cb, .slice none 0 0]) BK9.out 0 (.slice Ab bs.length cb) rfl) (by decide) 1 (.slice Av (ls.length + 1) cv))
  have KH := Zk ((HB.out.setCell (p := ⟨g9, 0, none⟩) (show w.heap.size ≤ g9 by omega) (.slice Ab bs.length cb)).setCell (p := ⟨g9, 1, none⟩) (show w.heap.size ≤ g9 by omega) (.slice Av (ls.length + 1) cv))
  clear BK3 BK6 BK9 HBO HV1 HB d0 d1 f0 f1 x0 x1 hs0 hs1 hfs0 hfs1
  generalize (we.setCell ⟨g9, 0, none⟩ (.slice Ab bs.length cb)).setCell ⟨g9, 1, none⟩ (.slice Av (ls.length + 1) cv) = wx at K9 K3 K6 KB KV KH ⊢
  obtain ⟨e0, e1, -, -⟩ := cf2_ K9
  obtain ⟨d0, d1, -, -⟩ := cf2_ K3
  have f0 := blk_frozen K3.out 0
  have f1 := blk_frozen K3.out 1
  replace KV : Aside0 (Kd.R k98 98 wx w.heap.size (fun _ => True) (.slice Av (ls.length + 1) cv) (ls ++ [x])) := ⟨by
   have h1 := KV.out
   rw [List.length_append, List.length_singleton] at h1
   exact h1⟩
  clear hCb hCw hCb2
  go_wp2
  go_roundg (l1.length - (j + 1))
  case measure => exact (show l1.length - (j + 1) < gk by omega)
  case rel => exact ⟨j + 1, bs, ls ++ [x], fl, _, _, rfl, by omega, Nat.le_refl _, HD2, ⟨blk_put (blk_put K3.out 0 _ rfl) 1 _ rfl⟩, ⟨(Below.heap_setCell _ _ _ _ (show w.heap.size + 1 ≠ w.heap.size by omega)).trans ((Below.heap_setCell _ _ _ _ (show w.heap.size + 1 ≠ w.heap.size by omega)).trans K6.out)⟩, ⟨RowOr.set (RowOr.set KB.out K3.out (by decide) 0 _) (blk_put K3.out 0 _ rfl) (by decide) 1 _⟩, ⟨.inr (R_set (R_set KV.out K3.out (by decide) 0 _) (blk_put K3.out 0 _ rfl) (by decide) 1 _)⟩, ⟨(KH.out.setCell (p := ⟨w.heap.size, 0, none⟩) (Nat.le_refl _) _).setCell (p := ⟨w.heap.size, 1, none⟩) (Nat.le_refl _) _⟩⟩
end Go.Proofs.YtfmjepmgcdoelaaGreat.P
