/- Texts of this claim's proof put together: F42, F82, HBook, HBook2, HBook3, HBook4, HMRight, PMR, PSound, HRead, F22, F7, PDisk, F46, F14, F47, F15, F5, PMay, HText. -/
import Derived.Test.YtfmjepmgcdoelaaGreatKMountReads1
namespace Foot
end Foot
namespace Go.Proofs.YtfmjepmgcdoelaaGreat
end Go.Proofs.YtfmjepmgcdoelaaGreat
namespace Go.Proofs.YtfmjepmgcdoelaaGreat.P
end Go.Proofs.YtfmjepmgcdoelaaGreat.P
namespace Go.Proofs.YtfmjepmgcdoelaaGreat.mountReads
end Go.Proofs.YtfmjepmgcdoelaaGreat.mountReads
namespace Go.Proofs.YtfmjepmgcdoelaaGreatW.PrintLast
end Go.Proofs.YtfmjepmgcdoelaaGreatW.PrintLast
namespace Go.Proofs.YtfmjepmgcdoelaaGreatW.PrintMore
end Go.Proofs.YtfmjepmgcdoelaaGreatW.PrintMore
namespace Go.Proofs.YtfmjepmgcdoelaaGreatW.PrintWords
end Go.Proofs.YtfmjepmgcdoelaaGreatW.PrintWords
namespace Kd
end Kd
set_option linter.unusedVariables false
set_option linter.unusedSimpArgs false
set_option maxHeartbeats 8000000
set_option maxRecDepth 100000
namespace Go.Proofs.YtfmjepmgcdoelaaGreat.P
open Go.RowKit Go.Proofs.YtfmjepmgcdoelaaGreatW.PrintWords Go.Proofs.YtfmjepmgcdoelaaGreatW.PrintLast Go.Proofs.YtfmjepmgcdoelaaGreatW.PrintMore
section
attribute [local go_sem] max2_int min2_int max_two min_two max_three min_three max_four min_four
def audit_Sound.l0 : Nat → List Int → List Bool → List (S65) → Int → Int → Option (Bool)
 | 0, _, _, _, _, _ => none
 | k + 1, x7, x8, x20, x21, x22 => if x22 < x21 then (if 0 ≤ x22 then (if x22 < (x20.length : Int) then (if x22 < (x7.length : Int) then (if ((rd_T65 x20 x22).f0) = (rd x7 x22) then (if x22 < (x8.length : Int) then (if ((rdOf false x8 x22) != (decide (((rd_T65 x20 x22).f0) > 0))) = true then (some false) else (audit_Sound.l0 k x7 x8 x20 x21 (wrap64 (x22 + 1)))) else (none)) else (some false)) else (none)) else (none)) else (none)) else (some true)
def audit_Sound.f (k : Nat) (l0_0 : List (S65)) (a0_1 : Int) (l1 : List Int) (l2 : List (Nat × Nat)) : Option (Bool) := (audit_Refs.f k l0_0 a0_1 l1 l2).bind fun aA => ((audit_Held.f l0_0 a0_1 l1 l2).bind fun aB => (audit_Sound.l0 k aA aB l0_0 (l0_0.length : Int) 0))
def audit_Sound.T1 : Bool × List (List Nat × List Nat) := (true, [([], []), ([], []), ([], []), ([0, 1, 2], [0, 1, 2]), ([], []), ([], []), ([], []), ([4, 5, 6, 3], [4, 5, 6]), ([3, 7, 0, 1, 2, 3], [3]), ([7, 8, 0, 1, 2, 3, 4, 5, 6, 7, 8], [7])])
def audit_Sound.B1 : List Nat := [0, 0, 0, 7, 0, 0, 0, 127, 255, 511]
theorem audit_Sound.tab1 : rtab .any (opsOf Tryz.f42 1) = audit_Sound.T1 := by kernel_rfl
theorem audit_Sound.bits1 : waitsOk audit_Sound.T1.2 audit_Sound.B1 = true := by kernel_rfl
def audit_Sound.T5 : Bool × List (List Nat × List Nat) := (true, [([], []), ([0], [0]), ([], []), ([], []), ([2, 3], [2, 3]), ([4], [4]), ([1, 5], [1, 5]), ([6], [6]), ([7], [7]), ([7], [7]), ([8, 9, 7], [7, 8, 9]), ([10, 7], [7, 10]), ([7], [7]), ([12, 7], [7, 12]), ([13, 7], [7, 13]), ([11, 14, 7], [7, 11, 14]), ([7, 15], [7, 15])])
def audit_Sound.B5 : List Nat := [0, 1, 0, 0, 12, 28, 63, 127, 255, 255, 1023, 2047, 255, 4351, 12543, 32767, 65535]
theorem audit_Sound.tab5 : rtab .any (opsOf Tryz.f42 5) = audit_Sound.T5 := by kernel_rfl
theorem audit_Sound.bits5 : waitsOk audit_Sound.T5.2 audit_Sound.B5 = true := by kernel_rfl
theorem audit_Sound.calls (k : Nat) (A0_0 : Option Addr) (c0_0 : Nat) (l0_0 : List (S65)) (a0_1 : Int) (A1 : Option Addr) (c1 : Nat) (l1 : List Int) (A2 : Option Addr) (c2 : Nat) (l2 : List (Nat × Nat)) (r : Bool) (w : World) (hr0_0 : Kd.C k65 w A0_0 l0_0.length l0_0) (hc0_0 : l0_0.length ≤ c0_0) (hr1 : Kd.C (Kd.int .i64) w A1 l1.length l1) (hc1 : l1.length ≤ c1) (hr2 : Kd.C kc w A2 l2.length l2) (hc2 : l2.length ≤ c2) (h : audit_Sound.f k l0_0 a0_1 l1 l2 = some r) :
  Calls Tryz.prog 42 #[.agg #[.slice A0_0 l0_0.length c0_0, .int .i64 a0_1], .slice A1 l1.length c1, .slice A2 l2.length c2] w fun e w' => e = .returned (.bool r) ∧ Below w.heap.size w w' := by
 have hu30 := Tryz.underlying30
 have hu65 := Tryz.underlying65
 have aX := Zk hr0_0
 have bK := Zk hc0_0
 clear hr0_0 hc0_0
 have HR1 := Zk hr1
 have HC1 := Zk hc1
 clear hr1 hc1
 have HR2 := Zk hr2
 have HC2 := Zk hc2
 clear hr2 hc2
 have HB := Zk (Below.refl w.heap.size w)
 have H : ((audit_Refs.f k l0_0 a0_1 l1 l2).bind fun aQ => ((audit_Held.f l0_0 a0_1 l1 l2).bind fun aN => (audit_Sound.l0 k aQ aN l0_0 (l0_0.length : Int) 0))) = some r := h
 clear h
 replace H := Option.bind_eq_some_iff.mp H
 obtain ⟨aQ, A40, H⟩ := H
 (try dsimp only at H)
 have A4 := Zk A40
 clear A40
 replace H := Option.bind_eq_some_iff.mp H
 obtain ⟨aN, A50, H⟩ := H
 (try dsimp only at H)
 have A5 := Zk A50
 clear A50
 have H' := Zk H
 clear H
 go_enter Tryz.func42, Tryz.ntmps42
 try go_wp2_with (first | (refine gd_ 3 ?_; refine bx_ 3 #[.slice A0_0 l0_0.length c0_0, .int .i64 a0_1] 30 ?_; intro aW hg w6 hbox hb; have aC := Zk (hbox); have dB := gw_ HB hg; replace HB := al_ HB hb; clear hb hbox hg))
 replace aC := Zk (blk_drew aC.out)
 replace HB := Zk (below_drew1 HB.out)
 refine start_ (n := 10) (S := fun w' => w'.cell? ⟨aW, 0, none⟩ = some (.slice A0_0 l0_0.length c0_0) ∧ w'.cell? ⟨aW, 1, none⟩ = some (.int .i64 a0_1)) (ds := []) #[false, false, false, false, false, false, false, false, false, false] (by kernel_rfl) rfl rfl ⟨(blk_cell aC.out 0).trans rfl, (blk_cell aC.out 1).trans rfl⟩ (fun hHeld => ?_); refine with_tabW audit_Sound.tab1 audit_Sound.bits1 (fun HT_ HW_ => ?_)
 generalize w6.drew = w7 at aC HB hHeld ⊢
 refine pu_ 1 12 ?_
 refine pu_ 2 13 ?_
 refine pu_ 5 16 ?_
 refine pu_ 6 17 ?_
 refine tk_ 0 11 ?_
 refine tk_ 4 15 ?_
 refine one_ (i := 3) (N := some 14) #[true, true, true, true, true, true, true, false, false, false] rfl rfl (one_of HT_.out (by kernel_rfl)) (by decide) (fun K hK => ?_)
 refine goes_ Tryz.func74 (by kernel_rfl) rfl #[.agg #[.slice A0_0 l0_0.length c0_0, .int .i64 a0_1], .slice A1 l1.length c1, .slice A2 l2.length c2] (by rfl) rfl rfl (by (try simp only [List.map_toArray, List.map_cons, List.map_nil]); first | done | rfl | (simp only [List.length_drop, List.length_take]; rfl)) ?_
 with_reducible refine (audit_Refs.calls k _ _ l0_0 a0_1 _ _ l1 _ _ l2 aQ _ ?side1 ?side2 ?side3 ?side4 ?side5 ?side6 A4.out).mono ?_
 (case side1 => repeat (first | exact (Kd.C_below aX.out HB.out) | (with_reducible refine Kd.C_alloc ?_ _) | (with_reducible refine Kd.C_drewN ?_ _) | (with_reducible refine Kd.C_drew ?_)))
 (case side2 => exact bK.out)
 (case side3 => repeat (first | exact (Kd.C_below HR1.out HB.out) | (with_reducible refine Kd.C_alloc ?_ _) | (with_reducible refine Kd.C_drewN ?_ _) | (with_reducible refine Kd.C_drew ?_)))
 (case side4 => exact HC1.out)
 (case side5 => repeat (first | exact (Kd.C_below HR2.out HB.out) | (with_reducible refine Kd.C_alloc ?_ _) | (with_reducible refine Kd.C_drewN ?_ _) | (with_reducible refine Kd.C_drew ?_)))
 (case side6 => exact HC2.out)
 rintro e w8 ⟨bI, rfl, ho0, hb⟩
 refine ⟨_, rfl, ?_⟩
 have bE := Zk (Kd.R_lower ho0 (below_size (bl_ HB)))
 replace aC := ab_ aC hb
 replace HB := al_ HB hb
 (try clear hb)
 (try clear hb2)
 (try clear hk)
 (try clear hi)
 (try clear ho0)
 refine hK.out _ _ ⟨(blk_cell aC.out 0).trans rfl, (blk_cell aC.out 1).trans rfl⟩ (fun hHeld => ?_)
 clear hK K
 refine norm_ (a' := ?_) ?_ ?_
 rotate_left
 ·show Act.put _ (some 14) _ = _
  simp only [Act.put, List.setIfInBounds_toArray, List.set_cons_zero, List.set_cons_succ, i64_w, i32_w]
  rfl
 refine one_ (i := 7) (N := some 18) #[true, true, true, true, true, true, true, true, false, false] rfl rfl (one_of HT_.out (by kernel_rfl)) (by decide) (fun K hK => ?_)
 refine goes_ Tryz.func75 (by kernel_rfl) rfl #[.agg #[.slice A0_0 l0_0.length c0_0, .int .i64 a0_1], .slice A1 l1.length c1, .slice A2 l2.length c2] (by rfl) rfl rfl (by (try simp only [List.map_toArray, List.map_cons, List.map_nil]); first | done | rfl | (simp only [List.length_drop, List.length_take]; rfl)) ?_
 with_reducible refine (audit_Held.calls _ _ l0_0 a0_1 _ _ l1 _ _ l2 aN _ ?side1 ?side2 ?side3 ?side4 ?side5 ?side6 A5.out).mono ?_
 (case side1 => repeat (first | exact (Kd.C_below aX.out HB.out) | (with_reducible refine Kd.C_alloc ?_ _) | (with_reducible refine Kd.C_drewN ?_ _) | (with_reducible refine Kd.C_drew ?_)))
 (case side2 => exact bK.out)
 (case side3 => repeat (first | exact (Kd.C_below HR1.out HB.out) | (with_reducible refine Kd.C_alloc ?_ _) | (with_reducible refine Kd.C_drewN ?_ _) | (with_reducible refine Kd.C_drew ?_)))
 (case side4 => exact HC1.out)
 (case side5 => repeat (first | exact (Kd.C_below HR2.out HB.out) | (with_reducible refine Kd.C_alloc ?_ _) | (with_reducible refine Kd.C_drewN ?_ _) | (with_reducible refine Kd.C_drew ?_)))
 (case side6 => exact HC2.out)
 rintro e w9 ⟨bJ, rfl, ho0, hb⟩
 refine ⟨_, rfl, ?_⟩
 replace bE := ar_ bE hb
 have bN := Zk (Kd.R_lower ho0 (below_size (bl_ HB)))
 replace aC := ab_ aC hb
 replace HB := al_ HB hb
 (try clear hb)
 (try clear hb2)
 (try clear hk)
 (try clear hi)
 (try clear ho0)
 refine hK.out _ _ ⟨(blk_cell aC.out 0).trans rfl, (blk_cell aC.out 1).trans rfl⟩ (fun hHeld => ?_)
 clear hK K
 refine norm_ (a' := ?_) ?_ ?_
 rotate_left
 ·show Act.put _ (some 18) _ = _
  simp only [Act.put, List.setIfInBounds_toArray, List.set_cons_zero, List.set_cons_succ, i64_w, i32_w]
  rfl
 refine pu_ 8 7 ?_
 refine pu_ 9 8 ?_
 refine done_ (done_of HT_.out (by kernel_rfl)) ?_
 obtain ⟨bZ, cA, cB, cC⟩ := cf2_ aC
 try go_wp2
 go_loopg [22] k (fun kq v22 w' => ∃ (aA : Int), v22 = .int .i64 aA ∧ Aside0 (audit_Sound.l0 kq aQ aN l0_0 (l0_0.length : Int) aA = some r) ∧ Aside0 (kq ≤ k) ∧ Aside0 (Kd.R (Kd.int .i64) 3 w' w.heap.size (fun _ => True) bI aQ) ∧ Aside0 (Kd.R Kd.bool 4 w' w.heap.size (fun _ => True) bJ aN) ∧ Aside0 (w'.heap[aW]? = some (.cells #[(.slice A0_0 l0_0.length c0_0), .int .i64 a0_1] 30 (0, 0))) ∧ Aside0 (Below w.heap.size w w'))
 case atStart => exact ⟨(0), q_, H', ⟨Nat.le_refl _⟩, ⟨r_ bE⟩, ⟨r_ bN⟩, ⟨bk_ aC⟩, ⟨bl_ HB⟩⟩
 case round =>
  clear H'
  obtain ⟨aA, rfl, HA, HK1, aG, aH, aC, HB⟩ := hrel
  cases gk with
  | zero => exact absurd HA.out (by simp [audit_Sound.l0])
  | succ k1 =>
   have H := HA.out
   clear HA
   simp only [audit_Sound.l0] at H
   by_cases c11 : aA < (l0_0.length : Int)
   case neg =>
    rw [if_neg c11] at H
    have bO : decide (aA < (l0_0.length : Int)) = false := decide_eq_false c11
    clear c11
    obtain rfl := Option.some.inj H
    go_wp2
    go_ret
    exact ⟨e_, bl_ HB⟩
   rw [if_pos c11] at H
   have bO := decide_eq_true c11
   clear c11
   by_cases c12 : 0 ≤ aA
   case neg => exact no_ c12 H
   rw [if_pos c12] at H
   have dC := decide_eq_true c12
   clear c12
   by_cases c13 : aA < (l0_0.length : Int)
   case neg => exact no_ c13 H
   rw [if_pos c13] at H
   have dD := decide_eq_true c13
   clear c13
   by_cases c14 : aA < (aQ.length : Int)
   case neg => exact no_ c14 H
   rw [if_pos c14] at H
   have dE := decide_eq_true c14
   clear c14
   by_cases c15 : ((rd_T65 l0_0 aA).f0) = (rd aQ aA)
   case neg =>
    rw [if_neg c15] at H
    have bP : (((rd_T65 l0_0 aA).f0) == (rd aQ aA)) = false := beq_eq_false_iff_ne.mpr c15
    have bQ : (((rd_T65 l0_0 aA).f0) != (rd aQ aA)) = true := bne_iff_ne.mpr c15
    obtain rfl := Option.some.inj H
    have aS : 0 ≤ (aA : Int) := of_decide_eq_true as_
    have aT : aA < (l0_0.length : Int) := of_decide_eq_true as_
    obtain ⟨aY, aE, aF, bF, aI, aJ, aK, aL, hl174_3, hi174_3⟩ := at_T65 aX.out aA aS aT
    cases bF
    replace aI := hx_ HB aI
    replace aJ := hx_ HB aJ
    replace aK := hx_ HB aK
    replace aL := hx_ HB aL
    have bC := Zk hi174_3
    have bD := Zk hl174_3
    clear hi174_3 hl174_3
    replace aS := eq_true aS
    replace aT := eq_true aT
    try go_wp2_with (first | (refine gd_ 10 ?_; refine bx_ 10 #[.int .i64 0, .bool false, .bool false, .slice none 0 0] 65 ?_; intro aB hg w32 hbox hb; replace aG := ar_ aG hb; replace aH := ar_ aH hb; have aD := Zk (hbox); have bL := gw_ HB hg; replace HB := al_ HB hb; have aO := n1_ aC hg; have aP := n2_ aC hg; replace aC := ab_ aC hb; clear hb hbox hg; obtain ⟨dF, dG⟩ := nn_ aP aO; obtain ⟨cD, cE, cF, cG, cH, cI, cJ, cK⟩ := cf4_ aD))
    have n0_ : Aside0 (Kd.R (Kd.int .i64) 3 ((((w32.setCell ⟨aB, 0, none⟩ (.int .i64 ((rd_T65 l0_0 aA).f0))).setCell ⟨aB, 1, none⟩ (.bool ((rd_T65 l0_0 aA).f1))).setCell ⟨aB, 2, none⟩ (.bool ((rd_T65 l0_0 aA).f2.f0))).setCell ⟨aB, 3, none⟩ (.slice aE ((rd_T65 l0_0 aA).f2.f1).length aF)) w.heap.size (fun _ => True) bI aQ) := ⟨rg_ (Kd.R_types aG.out aD.out (by decide)) (fun _ hk => trivial)⟩
    have n1_ : Aside0 (Kd.R Kd.bool 4 ((((w32.setCell ⟨aB, 0, none⟩ (.int .i64 ((rd_T65 l0_0 aA).f0))).setCell ⟨aB, 1, none⟩ (.bool ((rd_T65 l0_0 aA).f1))).setCell ⟨aB, 2, none⟩ (.bool ((rd_T65 l0_0 aA).f2.f0))).setCell ⟨aB, 3, none⟩ (.slice aE ((rd_T65 l0_0 aA).f2.f1).length aF)) w.heap.size (fun _ => True) bJ aN) := ⟨rg_ (Kd.R_types aH.out aD.out (by decide)) (fun _ hk => trivial)⟩
    have n2_ : Aside0 (((((w32.setCell ⟨aB, 0, none⟩ (.int .i64 ((rd_T65 l0_0 aA).f0))).setCell ⟨aB, 1, none⟩ (.bool ((rd_T65 l0_0 aA).f1))).setCell ⟨aB, 2, none⟩ (.bool ((rd_T65 l0_0 aA).f2.f0))).setCell ⟨aB, 3, none⟩ (.slice aE ((rd_T65 l0_0 aA).f2.f1).length aF)).heap[aW]? = some (.cells #[.slice (some aY) l0_0.length c0_0, .int .i64 a0_1] 30 (0, 0))) := ⟨bk_ aC⟩
    have n3_ : Aside0 (((((w32.setCell ⟨aB, 0, none⟩ (.int .i64 ((rd_T65 l0_0 aA).f0))).setCell ⟨aB, 1, none⟩ (.bool ((rd_T65 l0_0 aA).f1))).setCell ⟨aB, 2, none⟩ (.bool ((rd_T65 l0_0 aA).f2.f0))).setCell ⟨aB, 3, none⟩ (.slice aE ((rd_T65 l0_0 aA).f2.f1).length aF)).heap[aB]? = some (.cells #[.int .i64 ((rd_T65 l0_0 aA).f0), .bool ((rd_T65 l0_0 aA).f1), .bool ((rd_T65 l0_0 aA).f2.f0), .slice aE ((rd_T65 l0_0 aA).f2.f1).length aF] 65 (0, 0))) := ⟨bp_ aD⟩
    have n4_ : Aside0 (Below w.heap.size w ((((w32.setCell ⟨aB, 0, none⟩ (.int .i64 ((rd_T65 l0_0 aA).f0))).setCell ⟨aB, 1, none⟩ (.bool ((rd_T65 l0_0 aA).f1))).setCell ⟨aB, 2, none⟩ (.bool ((rd_T65 l0_0 aA).f2.f0))).setCell ⟨aB, 3, none⟩ (.slice aE ((rd_T65 l0_0 aA).f2.f1).length aF))) := ⟨bl_ HB⟩
    (try clear aG)
    (try clear aH)
    (try clear aC)
    (try clear aD)
    (try clear HB)
    generalize ((((w32.setCell ⟨aB, 0, none⟩ (.int .i64 ((rd_T65 l0_0 aA).f0))).setCell ⟨aB, 1, none⟩ (.bool ((rd_T65 l0_0 aA).f1))).setCell ⟨aB, 2, none⟩ (.bool ((rd_T65 l0_0 aA).f2.f0))).setCell ⟨aB, 3, none⟩ (.slice aE ((rd_T65 l0_0 aA).f2.f1).length aF)) = w35 at n0_ n1_ n2_ n3_ n4_ ⊢
    have aG := n0_
    have aH := n1_
    have aC := n2_
    have aD := n3_
    have HB := n4_
    clear n0_ n1_ n2_ n3_ n4_
    replace aG := Zk (Kd.R_drew aG.out)
    replace aH := Zk (Kd.R_drew aH.out)
    replace aC := Zk (blk_drew aC.out)
    replace aD := Zk (blk_drew aD.out)
    replace HB := Zk (below_drew1 HB.out)
    obtain ⟨dN, dO, bR⟩ := Kd.R_slice aG.out
    (first | subst bR | (injection bR with f1_ f2_ f3_; have f4_ := f1_.symm; have f5_ := f3_.symm; clear f1_ f2_ f3_; subst f4_; subst f5_))
    have aU : 0 ≤ (aA : Int) := of_decide_eq_true as_
    have aV : aA < (aQ.length : Int) := of_decide_eq_true as_
    obtain ⟨aZ, bG, aM⟩ := Kd.at_int (Kd.R_reads' aG.out).2.2 aA aU aV
    cases bG
    replace aU := eq_true aU
    replace aV := eq_true aV
    refine start_ (n := 17) (S := fun w' => w'.cell? ⟨aB, 0, none⟩ = some (.int .i64 ((rd_T65 l0_0 aA).f0)) ∧ w'.cell? ⟨aB, 1, none⟩ = some (.bool ((rd_T65 l0_0 aA).f1)) ∧ w'.cell? ⟨aB, 2, none⟩ = some (.bool ((rd_T65 l0_0 aA).f2.f0)) ∧ w'.cell? ⟨aB, 3, none⟩ = some (.slice aE ((rd_T65 l0_0 aA).f2.f1).length aF) ∧ w'.cell? (aZ.add (aA).toNat) = some (.int .i64 (rd aQ aA))) (ds := []) #[false, false, false, false, false, false, false, false, false, false, false, false, false, false, false, false, false] (by kernel_rfl) rfl rfl ⟨(blk_cell aD.out 0).trans rfl, (blk_cell aD.out 1).trans rfl, (blk_cell aD.out 2).trans rfl, (blk_cell aD.out 3).trans rfl, aM⟩ (fun hHeld => ?_); refine with_tabW audit_Sound.tab5 audit_Sound.bits5 (fun HT_ HW_ => ?_)
    generalize w35.drew = w36 at aG aH aC aD HB aM hHeld ⊢
    refine pu_ 0 27 ?_
    refine pu_ 2 29 ?_
    refine pu_ 3 30 ?_
    refine pu_ 4 31 ?_
    refine tk_ 1 28 ?_
    refine tk_ 5 32 ?_
    refine pu_ 6 33 ?_
    refine pu_ 7 34 ?_
    refine ps_ 8 35 ?_
    refine ps_ 9 36 ?_
    refine ps_ 10 37 ?_
    refine ps_ 11 38 ?_
    refine ps_ 12 39 ?_
    refine ps_ 13 40 ?_
    refine ps_ 14 41 ?_
    refine ps_ 15 42 ?_
    refine pu_ 16 43 ?_
    refine done_ (done_of HT_.out (by kernel_rfl)) ?_
    try go_wp2
    go_ret
    exact ⟨e_, bl_ HB⟩
   rw [if_pos c15] at H
   have bP := beq_iff_eq.mpr c15
   have bQ := bne_eq_false_iff_eq.mpr c15
   clear c15
   by_cases c16 : aA < (aN.length : Int)
   case neg => exact no_ c16 H
   rw [if_pos c16] at H
   have dH := decide_eq_true c16
   clear c16
   by_cases c17 : ((rdOf false aN aA) != (decide (((rd_T65 l0_0 aA).f0) > 0))) = true
   case pos =>
    rw [if_pos c17] at H
    have bS : ((rdOf false aN aA) != (decide (((rd_T65 l0_0 aA).f0) > 0))) = true := c17
    (try (have bT : decide ((rdOf false aN aA) = (decide (((rd_T65 l0_0 aA).f0) > 0))) = false := by simpa using c17))
    (try (have bU : ((rdOf false aN aA) == (decide (((rd_T65 l0_0 aA).f0) > 0))) = false := by simpa using c17))
    (try (have dI : ¬ ((rdOf false aN aA) = (decide (((rd_T65 l0_0 aA).f0) > 0))) := by simpa using c17))
    clear c17
    obtain rfl := Option.some.inj H
    have aS : 0 ≤ (aA : Int) := of_decide_eq_true as_
    have aT : aA < (l0_0.length : Int) := of_decide_eq_true as_
    obtain ⟨aY, aE, aF, bF, aI, aJ, aK, aL, hl174_3, hi174_3⟩ := at_T65 aX.out aA aS aT
    cases bF
    replace aI := hx_ HB aI
    replace aJ := hx_ HB aJ
    replace aK := hx_ HB aK
    replace aL := hx_ HB aL
    have bC := Zk hi174_3
    have bD := Zk hl174_3
    clear hi174_3 hl174_3
    replace aS := eq_true aS
    replace aT := eq_true aT
    try go_wp2_with (first | (refine gd_ 10 ?_; refine bx_ 10 #[.int .i64 0, .bool false, .bool false, .slice none 0 0] 65 ?_; intro aB hg w18 hbox hb; replace aG := ar_ aG hb; replace aH := ar_ aH hb; have aD := Zk (hbox); have bL := gw_ HB hg; replace HB := al_ HB hb; have aO := n1_ aC hg; have aP := n2_ aC hg; replace aC := ab_ aC hb; clear hb hbox hg; obtain ⟨dJ, dK⟩ := nn_ aP aO; obtain ⟨cL, cM, cN, cO, cP, cQ, cR, cS⟩ := cf4_ aD))
    have n0_ : Aside0 (Kd.R (Kd.int .i64) 3 ((((w18.setCell ⟨aB, 0, none⟩ (.int .i64 ((rd_T65 l0_0 aA).f0))).setCell ⟨aB, 1, none⟩ (.bool ((rd_T65 l0_0 aA).f1))).setCell ⟨aB, 2, none⟩ (.bool ((rd_T65 l0_0 aA).f2.f0))).setCell ⟨aB, 3, none⟩ (.slice aE ((rd_T65 l0_0 aA).f2.f1).length aF)) w.heap.size (fun _ => True) bI aQ) := ⟨rg_ (Kd.R_types aG.out aD.out (by decide)) (fun _ hk => trivial)⟩
    have n1_ : Aside0 (Kd.R Kd.bool 4 ((((w18.setCell ⟨aB, 0, none⟩ (.int .i64 ((rd_T65 l0_0 aA).f0))).setCell ⟨aB, 1, none⟩ (.bool ((rd_T65 l0_0 aA).f1))).setCell ⟨aB, 2, none⟩ (.bool ((rd_T65 l0_0 aA).f2.f0))).setCell ⟨aB, 3, none⟩ (.slice aE ((rd_T65 l0_0 aA).f2.f1).length aF)) w.heap.size (fun _ => True) bJ aN) := ⟨rg_ (Kd.R_types aH.out aD.out (by decide)) (fun _ hk => trivial)⟩
    have n2_ : Aside0 (((((w18.setCell ⟨aB, 0, none⟩ (.int .i64 ((rd_T65 l0_0 aA).f0))).setCell ⟨aB, 1, none⟩ (.bool ((rd_T65 l0_0 aA).f1))).setCell ⟨aB, 2, none⟩ (.bool ((rd_T65 l0_0 aA).f2.f0))).setCell ⟨aB, 3, none⟩ (.slice aE ((rd_T65 l0_0 aA).f2.f1).length aF)).heap[aW]? = some (.cells #[.slice (some aY) l0_0.length c0_0, .int .i64 a0_1] 30 (0, 0))) := ⟨bk_ aC⟩
    have n3_ : Aside0 (((((w18.setCell ⟨aB, 0, none⟩ (.int .i64 ((rd_T65 l0_0 aA).f0))).setCell ⟨aB, 1, none⟩ (.bool ((rd_T65 l0_0 aA).f1))).setCell ⟨aB, 2, none⟩ (.bool ((rd_T65 l0_0 aA).f2.f0))).setCell ⟨aB, 3, none⟩ (.slice aE ((rd_T65 l0_0 aA).f2.f1).length aF)).heap[aB]? = some (.cells #[.int .i64 ((rd_T65 l0_0 aA).f0), .bool ((rd_T65 l0_0 aA).f1), .bool ((rd_T65 l0_0 aA).f2.f0), .slice aE ((rd_T65 l0_0 aA).f2.f1).length aF] 65 (0, 0))) := ⟨bp_ aD⟩
    have n4_ : Aside0 (Below w.heap.size w ((((w18.setCell ⟨aB, 0, none⟩ (.int .i64 ((rd_T65 l0_0 aA).f0))).setCell ⟨aB, 1, none⟩ (.bool ((rd_T65 l0_0 aA).f1))).setCell ⟨aB, 2, none⟩ (.bool ((rd_T65 l0_0 aA).f2.f0))).setCell ⟨aB, 3, none⟩ (.slice aE ((rd_T65 l0_0 aA).f2.f1).length aF))) := ⟨bl_ HB⟩
    (try clear aG)
    (try clear aH)
    (try clear aC)
    (try clear aD)
    (try clear HB)
    generalize ((((w18.setCell ⟨aB, 0, none⟩ (.int .i64 ((rd_T65 l0_0 aA).f0))).setCell ⟨aB, 1, none⟩ (.bool ((rd_T65 l0_0 aA).f1))).setCell ⟨aB, 2, none⟩ (.bool ((rd_T65 l0_0 aA).f2.f0))).setCell ⟨aB, 3, none⟩ (.slice aE ((rd_T65 l0_0 aA).f2.f1).length aF)) = w21 at n0_ n1_ n2_ n3_ n4_ ⊢
    have aG := n0_
    have aH := n1_
    have aC := n2_
    have aD := n3_
    have HB := n4_
    clear n0_ n1_ n2_ n3_ n4_
    replace aG := Zk (Kd.R_drew aG.out)
    replace aH := Zk (Kd.R_drew aH.out)
    replace aC := Zk (blk_drew aC.out)
    replace aD := Zk (blk_drew aD.out)
    replace HB := Zk (below_drew1 HB.out)
    obtain ⟨dP, dQ, bV⟩ := Kd.R_slice aG.out
    (first | subst bV | (injection bV with f1_ f2_ f3_; have f4_ := f1_.symm; have f5_ := f3_.symm; clear f1_ f2_ f3_; subst f4_; subst f5_))
    have aU : 0 ≤ (aA : Int) := of_decide_eq_true as_
    have aV : aA < (aQ.length : Int) := of_decide_eq_true as_
    obtain ⟨aZ, bG, aM⟩ := Kd.at_int (Kd.R_reads' aG.out).2.2 aA aU aV
    cases bG
    replace aU := eq_true aU
    replace aV := eq_true aV
    obtain ⟨dR, dS, bW⟩ := Kd.R_slice aH.out
    (first | subst bW | (injection bW with f1_ f2_ f3_; have f4_ := f1_.symm; have f5_ := f3_.symm; clear f1_ f2_ f3_; subst f4_; subst f5_))
    have bA : 0 ≤ (aA : Int) := of_decide_eq_true as_
    have bB : aA < (aN.length : Int) := of_decide_eq_true as_
    obtain ⟨bH, bM, aR⟩ := Kd.at_bool (Kd.R_reads' aH.out).2.2 aA bA bB
    cases bM
    replace bA := eq_true bA
    replace bB := eq_true bB
    refine start_ (n := 17) (S := fun w' => w'.cell? ⟨aB, 0, none⟩ = some (.int .i64 ((rd_T65 l0_0 aA).f0)) ∧ w'.cell? ⟨aB, 1, none⟩ = some (.bool ((rd_T65 l0_0 aA).f1)) ∧ w'.cell? ⟨aB, 2, none⟩ = some (.bool ((rd_T65 l0_0 aA).f2.f0)) ∧ w'.cell? ⟨aB, 3, none⟩ = some (.slice aE ((rd_T65 l0_0 aA).f2.f1).length aF) ∧ w'.cell? (aZ.add (aA).toNat) = some (.int .i64 (rd aQ aA)) ∧ w'.cell? (bH.add (aA).toNat) = some (.bool (rdOf false aN aA))) (ds := []) #[false, false, false, false, false, false, false, false, false, false, false, false, false, false, false, false, false] (by kernel_rfl) rfl rfl ⟨(blk_cell aD.out 0).trans rfl, (blk_cell aD.out 1).trans rfl, (blk_cell aD.out 2).trans rfl, (blk_cell aD.out 3).trans rfl, aM, aR⟩ (fun hHeld => ?_); refine with_tabW audit_Sound.tab5 audit_Sound.bits5 (fun HT_ HW_ => ?_)
    generalize w21.drew = w22 at aG aH aC aD HB aM aR hHeld ⊢
    refine pu_ 0 27 ?_
    refine pu_ 2 29 ?_
    refine pu_ 3 30 ?_
    refine pu_ 4 31 ?_
    refine tk_ 1 28 ?_
    refine tk_ 5 32 ?_
    refine pu_ 6 33 ?_
    refine pu_ 7 34 ?_
    refine pu_ 8 35 ?_
    refine pu_ 9 36 ?_
    refine pu_ 10 37 ?_
    refine pu_ 12 39 ?_
    refine tk_ 11 38 ?_
    refine tk_ 13 40 ?_
    refine pu_ 14 41 ?_
    refine pu_ 15 42 ?_
    refine pu_ 16 43 ?_
    refine done_ (done_of HT_.out (by kernel_rfl)) ?_
    try go_wp2
    go_ret
    exact ⟨e_, bl_ HB⟩
   rw [if_neg c17] at H
   have bS : ((rdOf false aN aA) != (decide (((rd_T65 l0_0 aA).f0) > 0))) = false := by simpa using c17
   (try (have bT : decide ((rdOf false aN aA) = (decide (((rd_T65 l0_0 aA).f0) > 0))) = true := by simpa using c17))
   (try (have bU : ((rdOf false aN aA) == (decide (((rd_T65 l0_0 aA).f0) > 0))) = true := by simpa using c17))
   clear c17
   have H' := Zk H
   clear H
   have aS : 0 ≤ (aA : Int) := of_decide_eq_true as_
   have aT : aA < (l0_0.length : Int) := of_decide_eq_true as_
   obtain ⟨aY, aE, aF, bF, aI, aJ, aK, aL, hl174_3, hi174_3⟩ := at_T65 aX.out aA aS aT
   cases bF
   replace aI := hx_ HB aI
   replace aJ := hx_ HB aJ
   replace aK := hx_ HB aK
   replace aL := hx_ HB aL
   have bC := Zk hi174_3
   have bD := Zk hl174_3
   clear hi174_3 hl174_3
   replace aS := eq_true aS
   replace aT := eq_true aT
   try go_wp2_with (first | (refine gd_ 10 ?_; refine bx_ 10 #[.int .i64 0, .bool false, .bool false, .slice none 0 0] 65 ?_; intro aB hg w25 hbox hb; replace aG := ar_ aG hb; replace aH := ar_ aH hb; have aD := Zk (hbox); have bL := gw_ HB hg; replace HB := al_ HB hb; have aO := n1_ aC hg; have aP := n2_ aC hg; replace aC := ab_ aC hb; clear hb hbox hg; obtain ⟨dL, dM⟩ := nn_ aP aO; obtain ⟨cT, cU, cV, cW, cX, cY, cZ, dA⟩ := cf4_ aD))
   have n0_ : Aside0 (Kd.R (Kd.int .i64) 3 ((((w25.setCell ⟨aB, 0, none⟩ (.int .i64 ((rd_T65 l0_0 aA).f0))).setCell ⟨aB, 1, none⟩ (.bool ((rd_T65 l0_0 aA).f1))).setCell ⟨aB, 2, none⟩ (.bool ((rd_T65 l0_0 aA).f2.f0))).setCell ⟨aB, 3, none⟩ (.slice aE ((rd_T65 l0_0 aA).f2.f1).length aF)) w.heap.size (fun _ => True) bI aQ) := ⟨rg_ (Kd.R_types aG.out aD.out (by decide)) (fun _ hk => trivial)⟩
   have n1_ : Aside0 (Kd.R Kd.bool 4 ((((w25.setCell ⟨aB, 0, none⟩ (.int .i64 ((rd_T65 l0_0 aA).f0))).setCell ⟨aB, 1, none⟩ (.bool ((rd_T65 l0_0 aA).f1))).setCell ⟨aB, 2, none⟩ (.bool ((rd_T65 l0_0 aA).f2.f0))).setCell ⟨aB, 3, none⟩ (.slice aE ((rd_T65 l0_0 aA).f2.f1).length aF)) w.heap.size (fun _ => True) bJ aN) := ⟨rg_ (Kd.R_types aH.out aD.out (by decide)) (fun _ hk => trivial)⟩
   have n2_ : Aside0 (((((w25.setCell ⟨aB, 0, none⟩ (.int .i64 ((rd_T65 l0_0 aA).f0))).setCell ⟨aB, 1, none⟩ (.bool ((rd_T65 l0_0 aA).f1))).setCell ⟨aB, 2, none⟩ (.bool ((rd_T65 l0_0 aA).f2.f0))).setCell ⟨aB, 3, none⟩ (.slice aE ((rd_T65 l0_0 aA).f2.f1).length aF)).heap[aW]? = some (.cells #[.slice (some aY) l0_0.length c0_0, .int .i64 a0_1] 30 (0, 0))) := ⟨bk_ aC⟩
   have n3_ : Aside0 (((((w25.setCell ⟨aB, 0, none⟩ (.int .i64 ((rd_T65 l0_0 aA).f0))).setCell ⟨aB, 1, none⟩ (.bool ((rd_T65 l0_0 aA).f1))).setCell ⟨aB, 2, none⟩ (.bool ((rd_T65 l0_0 aA).f2.f0))).setCell ⟨aB, 3, none⟩ (.slice aE ((rd_T65 l0_0 aA).f2.f1).length aF)).heap[aB]? = some (.cells #[.int .i64 ((rd_T65 l0_0 aA).f0), .bool ((rd_T65 l0_0 aA).f1), .bool ((rd_T65 l0_0 aA).f2.f0), .slice aE ((rd_T65 l0_0 aA).f2.f1).length aF] 65 (0, 0))) := ⟨bp_ aD⟩
   have n4_ : Aside0 (Below w.heap.size w ((((w25.setCell ⟨aB, 0, none⟩ (.int .i64 ((rd_T65 l0_0 aA).f0))).setCell ⟨aB, 1, none⟩ (.bool ((rd_T65 l0_0 aA).f1))).setCell ⟨aB, 2, none⟩ (.bool ((rd_T65 l0_0 aA).f2.f0))).setCell ⟨aB, 3, none⟩ (.slice aE ((rd_T65 l0_0 aA).f2.f1).length aF))) := ⟨bl_ HB⟩
   (try clear aG)
   (try clear aH)
   (try clear aC)
   (try clear aD)
   (try clear HB)
   generalize ((((w25.setCell ⟨aB, 0, none⟩ (.int .i64 ((rd_T65 l0_0 aA).f0))).setCell ⟨aB, 1, none⟩ (.bool ((rd_T65 l0_0 aA).f1))).setCell ⟨aB, 2, none⟩ (.bool ((rd_T65 l0_0 aA).f2.f0))).setCell ⟨aB, 3, none⟩ (.slice aE ((rd_T65 l0_0 aA).f2.f1).length aF)) = w28 at n0_ n1_ n2_ n3_ n4_ ⊢
   have aG := n0_
   have aH := n1_
   have aC := n2_
   have aD := n3_
   have HB := n4_
   clear n0_ n1_ n2_ n3_ n4_
   replace aG := Zk (Kd.R_drew aG.out)
   replace aH := Zk (Kd.R_drew aH.out)
   replace aC := Zk (blk_drew aC.out)
   replace aD := Zk (blk_drew aD.out)
   replace HB := Zk (below_drew1 HB.out)
   obtain ⟨dT, dU, bX⟩ := Kd.R_slice aG.out
   (first | subst bX | (injection bX with f1_ f2_ f3_; have f4_ := f1_.symm; have f5_ := f3_.symm; clear f1_ f2_ f3_; subst f4_; subst f5_))
   have aU : 0 ≤ (aA : Int) := of_decide_eq_true as_
   have aV : aA < (aQ.length : Int) := of_decide_eq_true as_
   obtain ⟨aZ, bG, aM⟩ := Kd.at_int (Kd.R_reads' aG.out).2.2 aA aU aV
   cases bG
   replace aU := eq_true aU
   replace aV := eq_true aV
   obtain ⟨dV, dW, bY⟩ := Kd.R_slice aH.out
   (first | subst bY | (injection bY with f1_ f2_ f3_; have f4_ := f1_.symm; have f5_ := f3_.symm; clear f1_ f2_ f3_; subst f4_; subst f5_))
   have bA : 0 ≤ (aA : Int) := of_decide_eq_true as_
   have bB : aA < (aN.length : Int) := of_decide_eq_true as_
   obtain ⟨bH, bM, aR⟩ := Kd.at_bool (Kd.R_reads' aH.out).2.2 aA bA bB
   cases bM
   replace bA := eq_true bA
   replace bB := eq_true bB
   refine start_ (n := 17) (S := fun w' => w'.cell? ⟨aB, 0, none⟩ = some (.int .i64 ((rd_T65 l0_0 aA).f0)) ∧ w'.cell? ⟨aB, 1, none⟩ = some (.bool ((rd_T65 l0_0 aA).f1)) ∧ w'.cell? ⟨aB, 2, none⟩ = some (.bool ((rd_T65 l0_0 aA).f2.f0)) ∧ w'.cell? ⟨aB, 3, none⟩ = some (.slice aE ((rd_T65 l0_0 aA).f2.f1).length aF) ∧ w'.cell? (aZ.add (aA).toNat) = some (.int .i64 (rd aQ aA)) ∧ w'.cell? (bH.add (aA).toNat) = some (.bool (rdOf false aN aA))) (ds := []) #[false, false, false, false, false, false, false, false, false, false, false, false, false, false, false, false, false] (by kernel_rfl) rfl rfl ⟨(blk_cell aD.out 0).trans rfl, (blk_cell aD.out 1).trans rfl, (blk_cell aD.out 2).trans rfl, (blk_cell aD.out 3).trans rfl, aM, aR⟩ (fun hHeld => ?_); refine with_tabW audit_Sound.tab5 audit_Sound.bits5 (fun HT_ HW_ => ?_)
   generalize w28.drew = w29 at aG aH aC aD HB aM aR hHeld ⊢
   refine pu_ 0 27 ?_
   refine pu_ 2 29 ?_
   refine pu_ 3 30 ?_
   refine pu_ 4 31 ?_
   refine tk_ 1 28 ?_
   refine tk_ 5 32 ?_
   refine pu_ 6 33 ?_
   refine pu_ 7 34 ?_
   refine pu_ 8 35 ?_
   refine pu_ 9 36 ?_
   refine pu_ 10 37 ?_
   refine pu_ 12 39 ?_
   refine tk_ 11 38 ?_
   refine tk_ 13 40 ?_
   refine pu_ 14 41 ?_
   refine pu_ 15 42 ?_
   refine pu_ 16 43 ?_
   refine done_ (done_of HT_.out (by kernel_rfl)) ?_
   try go_wp2
   go_roundg k1
   case measure => have := HK1.out; omega
   case rel => exact ⟨(wrap64 (aA + 1)), q_, H', ⟨by have := HK1.out; omega⟩, ⟨r_ aG⟩, ⟨r_ aH⟩, ⟨bk_ aC⟩, ⟨bl_ HB⟩⟩
end
section
attribute [local go_sem] max2_int min2_int max_two min_two max_three min_three max_four min_four
mutual
def todo_Parse.l0 : Nat → List Int → Int → Int → Int → Int → List (Nat × Nat) → Int → Option (List (Nat × Nat) × Int × Int)
 | 0, _, _, _, _, _, _, _ => none
 | k + 1, x0, x1, x2, x9, x10, x11, x12 => if x12 < x9 then (todo_Parse.j1 k x0 x1 x2 x9 x10 x11 x12 (x10 == 0)) else (todo_Parse.j1 k x0 x1 x2 x9 x10 x11 x12 false)
def todo_Parse.j1 : Nat → List Int → Int → Int → Int → Int → List (Nat × Nat) → Int → Bool → Option (List (Nat × Nat) × Int × Int)
 | 0, _, _, _, _, _, _, _, _ => none
 | k + 1, x0, x1, x2, x9, x10, x11, x12, x32 => if x32 = true then ((num_Take.f k x0 x1 2).bind fun bt185 => ((num_Take.f k x0 bt185.2.1 1).bind fun bt188 => (if bt185.2.2 = 0 then (if bt188.2.2 = 0 then ((todo_Of.f bt185.1 bt188.1).bind fun aA => (if x11.length < 8796093022208 then (todo_Parse.l0 k x0 bt188.2.1 x2 x9 x10 (x11 ++ [aA]) (wrap64 (x12 + 1))) else (none))) else (if 2 = 0 then ((todo_Right.f x11 x2).bind fun aB => (if aB = true then (some (x11, x1, 0)) else (some (([] : List (Nat × Nat)), 0, 2)))) else (some (([] : List (Nat × Nat)), 0, 2)))) else (if 2 = 0 then ((todo_Right.f x11 x2).bind fun aC => (if aC = true then (some (x11, x1, 0)) else (some (([] : List (Nat × Nat)), 0, 2)))) else (some (([] : List (Nat × Nat)), 0, 2)))))) else (if x10 = 0 then ((todo_Right.f x11 x2).bind fun aD => (if aD = true then (some (x11, x1, 0)) else (some (([] : List (Nat × Nat)), 0, 2)))) else (some (([] : List (Nat × Nat)), 0, 2)))
end
def todo_Parse.f (k : Nat) (l0 : List Int) (a1 : Int) (a2 : Int) : Option (List (Nat × Nat) × Int × Int) := (num_Take.f k l0 a1 2).bind fun bt181 => (todo_Parse.l0 k l0 bt181.2.1 a2 bt181.1 bt181.2.2 ([] : List (Nat × Nat)) 0)
theorem todo_Parse.calls (k : Nat) (A0 : Option Addr) (c0 : Nat) (l0 : List Int) (a1 : Int) (a2 : Int) (r1 : List (Nat × Nat)) (r2 : Int) (r3 : Int) (w : World) (hr0 : Kd.C (Kd.int .u8) w A0 l0.length l0) (hc0 : l0.length ≤ c0) (h : todo_Parse.f k l0 a1 a2 = some (r1, r2, r3)) :
  Calls Tryz.prog 82 #[.slice A0 l0.length c0, .int .i64 a1, .int .i64 a2] w fun e w' => ∃ v0_ : Value, e = .returned (.tuple #[v0_, .int .i64 r2, .int .i64 r3]) ∧ Kd.R kc 79 w' w.heap.size (fun _ => True) v0_ r1 ∧ Below w.heap.size w w' := by
 have HR0 := Zk hr0
 have HC0 := Zk hc0
 clear hr0 hc0
 have HB := Zk (Below.refl w.heap.size w)
 have H : ((num_Take.f k l0 a1 2).bind fun bt181 => (todo_Parse.l0 k l0 bt181.2.1 a2 bt181.1 bt181.2.2 ([] : List (Nat × Nat)) 0)) = some (r1, r2, r3) := h
 clear h
 replace H := Option.bind_eq_some_iff.mp H
 obtain ⟨⟨aR, aW, aX⟩, A40, H⟩ := H
 (try dsimp only at H)
 have A4 := Zk A40
 clear A40
 have H' := Zk H
 clear H
 go_enter Tryz.func82, Tryz.ntmps82
 go_wp2_with (first | (refine gc_ 81 ?_; refine gl_ 81 (some 22) #[.slice A0 l0.length c0, .int .i64 a1, .int .i64 2] Tryz.func81 ?_; (with_reducible refine (num_Take.calls k _ _ l0 a1 2 aR aW aX _ (ct_ HR0.out) HC0.out A4.out).mono ?_); rintro e w' ⟨rfl, ⟨nd, rfl⟩⟩; refine ⟨_, rfl, ?_⟩))
 go_loopg [1, 10, 11, 12] k (fun kq v1 v10 v11 v12 w' => ∃ (aE : Int) (aD : Int) (aC : List (Nat × Nat)) (aG : Int), v1 = .int .i64 aE ∧ v10 = .int .i64 aD ∧ v12 = .int .i64 aG ∧ Aside0 (todo_Parse.l0 kq l0 aE a2 aR aD aC aG = some (r1, r2, r3)) ∧ Aside0 (kq ≤ k) ∧ Aside0 (Kd.R kc 79 w' w.heap.size (fun _ => True) v11 aC) ∧ Aside0 (Below w.heap.size w w'))
 case atStart => exact ⟨(aW), (aX), (([] : List (Nat × Nat))), (0), q_, q_, q_, H', ⟨Nat.le_refl _⟩, ⟨by first | exact Kd.R_nil _ _ _ _ _ | exact Kd.N_nil _ _ _ _ _ | exact Kd.V_nil _ _ _ _ _ | exact Kd.Q_nil _ _ _ _ _ | exact Kd.S_nil _ _ _ _ _⟩, ⟨bl_ HB⟩⟩
 case round =>
  clear H'
  obtain ⟨aE, aD, aC, aG, rfl, rfl, rfl, HA, HK1, aA, HB⟩ := hrel
  cases gk with
  | zero => exact absurd HA.out (by simp [todo_Parse.l0])
  | succ k1 =>
   have H := HA.out
   clear HA
   simp only [todo_Parse.l0] at H
   have HC5 := Zk H
   clear H
   go_upto_region 4 with (fail)
   go_cut [32] (fun v32 wc => ∃ (kq : Nat) (aI : Bool), v32 = .bool aI ∧ Aside0 (todo_Parse.j1 kq l0 aE a2 aR aD aC aG aI = some (r1, r2, r3)) ∧ Aside0 (kq ≤ k1) ∧ Aside0 (Kd.R kc 79 wc w.heap.size (fun _ => True) u11 aC) ∧ Aside0 (Below w.heap.size w wc))
   case first =>
    have H := HC5.out
    clear HC5
    by_cases c6 : aG < aR
    case neg =>
     rw [if_neg c6] at H
     have aK := decide_eq_false c6
     clear c6
     (first | rw [aK] | (simp only [i64_w, i32_w]; rw [aK]) | skip)
     have H' := Zk H
     clear H
     go_wp2
     go_meet
     case rel => exact ⟨_, (false), q_, H', ⟨by have := HK1.out; first | omega | exact Nat.le_refl _⟩, ⟨r_ aA⟩, ⟨bl_ HB⟩⟩
    rw [if_pos c6] at H
    have aK := decide_eq_true c6
    clear c6
    (first | rw [aK] | (simp only [i64_w, i32_w]; rw [aK]) | skip)
    have H' := Zk H
    clear H
    go_wp2
    go_meet
    case rel => exact ⟨_, ((aD == 0)), q_, H', ⟨by have := HK1.out; first | omega | exact Nat.le_refl _⟩, ⟨r_ aA⟩, ⟨bl_ HB⟩⟩
   case rest =>
    clear HC5
    try clear aK
    obtain ⟨kq, aI, rfl, HA, HJ4, aA, HB⟩ := hcut
    cases kq with
    | zero => exact absurd HA.out (by simp [todo_Parse.j1])
    | succ kj4 =>
     have H := HA.out
     clear HA
     simp only [todo_Parse.j1] at H
     by_cases c7 : aI = true
     case neg =>
      replace c7 := Bool.eq_false_iff.mpr c7
      subst c7
      rw [if_neg (show ¬ (false = true) by decide)] at H
      by_cases c29 : aD = 0
      case neg =>
       rw [if_neg c29] at H
       have aY := beq_eq_false_iff_ne.mpr c29
       have aZ := bne_iff_ne.mpr c29
       simp only [Option.some.injEq, Prod.mk.injEq] at H
       obtain ⟨rfl, rfl, rfl⟩ := H
       go_wp2
       go_ret3
       exact ⟨_, e_, by first | exact Kd.R_nil _ _ _ _ _ | exact Kd.N_nil _ _ _ _ _ | exact Kd.V_nil _ _ _ _ _ | exact Kd.Q_nil _ _ _ _ _ | exact Kd.S_nil _ _ _ _ _, bl_ HB⟩
      rw [if_pos c29] at H
      have aY := beq_iff_eq.mpr c29
      have aZ := bne_eq_false_iff_eq.mpr c29
      clear c29
      replace H := Option.bind_eq_some_iff.mp H
      obtain ⟨bI, bA, H⟩ := H
      (try dsimp only at H)
      have A30 := Zk bA
      clear bA
      by_cases c31 : bI = true
      case pos =>
       subst c31
       rw [if_pos rfl] at H
       simp only [Option.some.injEq, Prod.mk.injEq] at H
       obtain ⟨rfl, rfl, rfl⟩ := H
       obtain ⟨bQ, bR, bJ⟩ := Kd.R_slice aA.out
       subst bJ
       go_wp2_with (first | (go_at_call 30; (with_reducible refine (todo_Right.calls _ _ aC a2 true _ (ct_ (Kd.R_reads' aA.out).2.2) ((Kd.R_reads' aA.out).2.1) A30.out).mono ?_); rintro e w33 ⟨rfl, hb⟩; replace aA := ar_ aA hb; replace HB := al_ HB hb; (try clear hb)))
       go_ret3
       exact ⟨_, e_, r_ aA, bl_ HB⟩
      replace c31 := Bool.eq_false_iff.mpr c31
      subst c31
      rw [if_neg (show ¬ (false = true) by decide)] at H
      simp only [Option.some.injEq, Prod.mk.injEq] at H
      obtain ⟨rfl, rfl, rfl⟩ := H
      obtain ⟨bS, bT, bK⟩ := Kd.R_slice aA.out
      subst bK
      go_wp2_with (first | (go_at_call 30; (with_reducible refine (todo_Right.calls _ _ aC a2 false _ (ct_ (Kd.R_reads' aA.out).2.2) ((Kd.R_reads' aA.out).2.1) A30.out).mono ?_); rintro e w35 ⟨rfl, hb⟩; replace aA := ar_ aA hb; replace HB := al_ HB hb; (try clear hb)))
      go_ret3
      exact ⟨_, e_, by first | exact Kd.R_nil _ _ _ _ _ | exact Kd.N_nil _ _ _ _ _ | exact Kd.V_nil _ _ _ _ _ | exact Kd.Q_nil _ _ _ _ _ | exact Kd.S_nil _ _ _ _ _, bl_ HB⟩
     subst c7
     rw [if_pos rfl] at H
     replace H := Option.bind_eq_some_iff.mp H
     obtain ⟨⟨aM, aH, aT⟩, A80, H⟩ := H
     (try dsimp only at H)
     have A8 := Zk A80
     clear A80
     replace H := Option.bind_eq_some_iff.mp H
     obtain ⟨⟨aN, aU, aV⟩, A90, H⟩ := H
     (try dsimp only at H)
     have A9 := Zk A90
     clear A90
     by_cases c10 : aT = 0
     case neg =>
      rw [if_neg c10] at H
      have bB := beq_eq_false_iff_ne.mpr c10
      have bC := bne_iff_ne.mpr c10
      by_cases c22 : 2 = 0
      case pos => exact absurd c22 (by decide)
      rw [if_neg c22] at H
      have bM := beq_eq_false_iff_ne.mpr c22
      have bN := bne_iff_ne.mpr c22
      simp only [Option.some.injEq, Prod.mk.injEq] at H
      obtain ⟨rfl, rfl, rfl⟩ := H
      go_wp2_with (first | (refine gc_ 81 ?_; refine gl_ 81 (some 38) #[.slice A0 l0.length c0, .int .i64 aE, .int .i64 2] Tryz.func81 ?_; (with_reducible refine (num_Take.calls kj4 _ _ l0 aE 2 aM aH aT _ (cb_ HR0 HB) HC0.out A8.out).mono ?_); rintro e w' ⟨rfl, ⟨nd, rfl⟩⟩; refine ⟨_, rfl, ?_⟩) | (refine gc_ 81 ?_; refine gl_ 81 (some 45) #[.slice A0 l0.length c0, .int .i64 aH, .int .i64 1] Tryz.func81 ?_; (with_reducible refine (num_Take.calls kj4 _ _ l0 aH 1 aN aU aV _ (ct_ (Kd.C_below HR0.out (bl_ HB))) HC0.out A9.out).mono ?_); rintro e w' ⟨rfl, ⟨nd, rfl⟩⟩; refine ⟨_, rfl, ?_⟩))
      go_ret3
      exact ⟨_, e_, by first | exact Kd.R_nil _ _ _ _ _ | exact Kd.N_nil _ _ _ _ _ | exact Kd.V_nil _ _ _ _ _ | exact Kd.Q_nil _ _ _ _ _ | exact Kd.S_nil _ _ _ _ _, bl_ HB⟩
     rw [if_pos c10] at H
     have bB := beq_iff_eq.mpr c10
     have bC := bne_eq_false_iff_eq.mpr c10
     clear c10
     by_cases c11 : aV = 0
     case neg =>
      rw [if_neg c11] at H
      have bD := beq_eq_false_iff_ne.mpr c11
      have bE := bne_iff_ne.mpr c11
      by_cases c15 : 2 = 0
      case pos => exact absurd c15 (by decide)
      rw [if_neg c15] at H
      have bO := beq_eq_false_iff_ne.mpr c15
      have bP := bne_iff_ne.mpr c15
      simp only [Option.some.injEq, Prod.mk.injEq] at H
      obtain ⟨rfl, rfl, rfl⟩ := H
      go_wp2_with (first | (refine gc_ 81 ?_; refine gl_ 81 (some 38) #[.slice A0 l0.length c0, .int .i64 aE, .int .i64 2] Tryz.func81 ?_; (with_reducible refine (num_Take.calls kj4 _ _ l0 aE 2 aM aH aT _ (cb_ HR0 HB) HC0.out A8.out).mono ?_); rintro e w' ⟨rfl, ⟨nd, rfl⟩⟩; refine ⟨_, rfl, ?_⟩) | (refine gc_ 81 ?_; refine gl_ 81 (some 45) #[.slice A0 l0.length c0, .int .i64 aH, .int .i64 1] Tryz.func81 ?_; (with_reducible refine (num_Take.calls kj4 _ _ l0 aH 1 aN aU aV _ (ct_ (Kd.C_below HR0.out (bl_ HB))) HC0.out A9.out).mono ?_); rintro e w' ⟨rfl, ⟨nd, rfl⟩⟩; refine ⟨_, rfl, ?_⟩))
      go_ret3
      exact ⟨_, e_, by first | exact Kd.R_nil _ _ _ _ _ | exact Kd.N_nil _ _ _ _ _ | exact Kd.V_nil _ _ _ _ _ | exact Kd.Q_nil _ _ _ _ _ | exact Kd.S_nil _ _ _ _ _, bl_ HB⟩
     rw [if_pos c11] at H
     have bD := beq_iff_eq.mpr c11
     have bE := bne_eq_false_iff_eq.mpr c11
     clear c11
     replace H := Option.bind_eq_some_iff.mp H
     obtain ⟨aQ, bF, H⟩ := H
     (try dsimp only at H)
     have A12 := Zk bF
     clear bF
     by_cases c13 : aC.length < 8796093022208
     case neg => exact no_ c13 H
     rw [if_pos c13] at H
     have LMc13 := Zk c13
     clear c13
     obtain ⟨bL, aJ⟩ : ∃ y_ : List (Nat × Nat), y_ = (aC ++ [aQ]) := ⟨_, rfl⟩
     first | replace H := bnd_ aJ H | rw [← aJ] at H
     have bG := Zk aJ
     clear aJ
     have H' := Zk H
     clear H
     go_wp2_with (first | (refine gc_ 81 ?_; refine gl_ 81 (some 38) #[.slice A0 l0.length c0, .int .i64 aE, .int .i64 2] Tryz.func81 ?_; (with_reducible refine (num_Take.calls kj4 _ _ l0 aE 2 aM aH aT _ (cb_ HR0 HB) HC0.out A8.out).mono ?_); rintro e w' ⟨rfl, ⟨nd, rfl⟩⟩; refine ⟨_, rfl, ?_⟩) | (refine gc_ 81 ?_; refine gl_ 81 (some 45) #[.slice A0 l0.length c0, .int .i64 aH, .int .i64 1] Tryz.func81 ?_; (with_reducible refine (num_Take.calls kj4 _ _ l0 aH 1 aN aU aV _ (ct_ (Kd.C_below HR0.out (bl_ HB))) HC0.out A9.out).mono ?_); rintro e w' ⟨rfl, ⟨nd, rfl⟩⟩; refine ⟨_, rfl, ?_⟩) | (refine gc_ 104 ?_; refine gl_ 104 (some 58) #[.int .i64 aM, .int .i64 aN] Tryz.func104 ?_; (with_reducible refine (todo_Of.calls aM aN aQ _ A12.out).mono ?_); rintro e w' ⟨rfl, ⟨nd, rfl⟩⟩; refine ⟨_, rfl, ?_⟩) | ((with_reducible refine gate_builtin (b := .append) (xs := #[.tmp 55, .tmp 59]) rfl ?_); at_builtin; refine Kd.R_append kc (w0 := w) w.heap.size rfl (.tmp 55) (.tmp 59) 32 79 (.complex .f64 0 0) 16 rfl Tryz.underlying32 info79 rfl (by decide) (by omega) u11 aC aQ [.complex .f64 aQ.1 aQ.2] (fun _ => True) (fun _ => False) rfl rfl ?aP (fun _ hk => hk.elim) ?aF ?aO ?aB ?aS ?aL ?_; (case aP => exact rfl); (case aB => exact (bl_ HB)); (case aF => exact (fun _ _ => trivial)); (case aO => exact (r_ aA)); (case aS => exact (below_size (bl_ HB))); (case aL => have := LMc13.out; omega); intro bU w14 ho hb hg hat; rw [← bG.out] at ho; replace HB := Zk (hb); have bH := Zk (ho); clear aA; clear ho hb hg hat))
     go_roundg kj4
     case measure => have := HK1.out; have := HJ4.out; omega
     case rel => exact ⟨(aU), (aD), (bL), (wrap64 (aG + 1)), q_, q_, q_, H', ⟨by have := HK1.out; have := HJ4.out; omega⟩, ⟨r_ bH⟩, ⟨bl_ HB⟩⟩
end
theorem grown_drewN (w : World) (n : Nat) (row : Option Nat) : w.grownBy (w.drewN n) row := ⟨rfl, rfl, rfl, Nat.le_refl _, fun _ _ _ => rfl⟩
theorem grown_set (w : World) (g i : Nat) (v : Value) : w.grownBy (w.setCell ⟨g, i, none⟩ v) (some g) := ⟨rfl, rfl, rfl, by simp [World.setCell], fun k _ hne => Below.heap_setCell w ⟨g, i, none⟩ v k (fun e => hne (by rw [e]))⟩
abbrev chainP : List PanicEntry := [{ v := .iface 101 (.agg #[]), recovered := false }]
theorem must_yes (g : Nat) (w : World) : Calls Tryz.prog 53 #[.pointer (some ⟨g, 0, none⟩), .bool true] w fun e w' => e = .returned (.tuple #[]) ∧ w' = w := by
 go_enter Tryz.func53, Tryz.ntmps53
 go_wp2
 go_end0
 exact ⟨rfl, rfl⟩
theorem must_no (g : Nat) (w : World) : Calls Tryz.prog 53 #[.pointer (some ⟨g, 0, none⟩), .bool false] w fun e w' => e = .panicked chainP ∧ w' = w := by
 go_enter Tryz.func53, Tryz.ntmps53
 go_wp2
 exact ⟨rfl, rfl, rfl⟩
abbrev RdB (W : World) (g : Nat) (A : Option Addr) (n c : Nat) (i : Int) : Prop := W.heap[g]? = some (.cells #[.slice A n c, .int .i64 i] 105 (0, 0))
def bytesB (b : List Int) : Prop := b.length ≤ 100000 ∧ ∀ x ∈ b, 0 ≤ x ∧ x < 256
theorem number_yes (g : Nat) (A : Option Addr) (c : Nat) (b : List Int) (i wd : Int) (w : World) (hb : bytesB b) (hr : Kd.C (Kd.int .u8) w A b.length b) (hc : b.length ≤ c) (hX : RdB w g A b.length c i) (h1 : 1 ≤ wd) (h4 : wd ≤ 4) (h0 : 0 ≤ i) (hi : i + wd ≤ b.length) :
  Calls Tryz.prog 52 #[.pointer (some ⟨g, 0, none⟩), .int .i64 wd] w fun e w' => e = .returned (.int .i64 (lev b i wd)) ∧ RdB w' g A b.length c (i + wd) ∧ w.grownBy w' (some g) := by
 have HT := Zk (fun W (hr : Kd.C (Kd.int .u8) W A b.length b) => num_Take.calls 6 A c b i wd _ _ _ W hr hc (Take_val 0 b i wd (by have := hb.1; omega) hb.2 h1 h4 h0 hi))
 have HR := Zk hr
 have HX := Zk hX
 have k0 : w.cell? ⟨g, 0, none⟩ = some (.slice A b.length c) := (blk_cell hX 0).trans rfl
 have k1 : w.cell? ⟨g, 1, none⟩ = some (.int .i64 i) := (blk_cell hX 1).trans rfl
 have f1 := blk_frozen hX 1
 clear hr hX
 generalize lev b i wd = v at HT ⊢
 go_enter Tryz.func52, Tryz.ntmps52
 go_wp2
 go_quiet (first | (go_at_call 81; refine Calls.quiet_of ((HT.out _ (Kd.C_drewN HR.out _)).mono (fun e w' h => ⟨h.1, h.2.out⟩))))
 go_wp2
 go_end0
 go_wp2
 go_ret
 refine ⟨rfl, ?_, ?_⟩
 ·exact blk_put (cs := #[.slice A b.length c, .int .i64 i]) (blk_drewN HX.out nq) 1 _ rfl
 ·exact World.grownBy.trans (grown_drewN w nq _) (grown_set _ _ _ _)
theorem number_no (g : Nat) (A : Option Addr) (c : Nat) (b : List Int) (i wd : Int) (w : World) (hb : bytesB b) (hr : Kd.C (Kd.int .u8) w A b.length b) (hc : b.length ≤ c) (hX : RdB w g A b.length c i) (h1 : 1 ≤ wd) (h4 : wd ≤ 4) (h0 : 0 ≤ i) (hi : (b.length : Int) < i + wd) :
  Calls Tryz.prog 52 #[.pointer (some ⟨g, 0, none⟩), .int .i64 wd] w fun e w' => e = .panicked chainP ∧ w.grownBy w' (some g) := by
 have HT := Zk (fun W (hr : Kd.C (Kd.int .u8) W A b.length b) => num_Take.calls 6 A c b i wd _ _ _ W hr hc (Take_none 0 b i wd (by have := hb.1; omega) (by omega) (by omega)))
 have HR := Zk hr
 have HX := Zk hX
 have k0 : w.cell? ⟨g, 0, none⟩ = some (.slice A b.length c) := (blk_cell hX 0).trans rfl
 have k1 : w.cell? ⟨g, 1, none⟩ = some (.int .i64 i) := (blk_cell hX 1).trans rfl
 clear hr hX
 go_enter Tryz.func52, Tryz.ntmps52
 go_wp2
 go_quiet (first | (go_at_call 81; refine Calls.quiet_of ((HT.out _ (Kd.C_drewN HR.out _)).mono (fun e w' h => ⟨h.1, h.2.out⟩))))
 go_wp2
 exact ⟨rfl, rfl, rfl, grown_drewN _ _ _⟩
theorem grown_of_below' {W W' : World} (h : Below W.heap.size W W') (row : Option Nat) : W.grownBy W' row := ⟨h.os, h.tape, h.output, h.size, fun k hk _ => h.block k hk⟩
theorem tasks_yes (g : Nat) (A : Option Addr) (c : Nat) (b : List Int) (i : Int) (w : World) (k : Nat) (l : List (Nat × Nat)) (i' : Int) (hr : Kd.C (Kd.int .u8) w A b.length b) (hc : b.length ≤ c) (hX : RdB w g A b.length c i) (hp : todo_Parse.f k b i 65536 = some (l, i', 0)) :
  Calls Tryz.prog 55 #[.pointer (some ⟨g, 0, none⟩)] w fun e w' => ∃ v : Value, e = .returned v ∧ Kd.R kc 79 w' w.heap.size (fun _ => True) v l ∧ RdB w' g A b.length c i' ∧ w.grownBy w' (some g) := by
 have HT := Zk (fun W (hr : Kd.C (Kd.int .u8) W A b.length b) => todo_Parse.calls k A c b i 65536 l i' 0 W hr hc hp)
 have HR := Zk hr
 have HX := Zk hX
 have k0 : w.cell? ⟨g, 0, none⟩ = some (.slice A b.length c) := (blk_cell hX 0).trans rfl
 have k1 : w.cell? ⟨g, 1, none⟩ = some (.int .i64 i) := (blk_cell hX 1).trans rfl
 have hgl := blk_lt hX
 clear hr hX hp
 go_enter Tryz.func55, Tryz.ntmps55
 go_wp2
 go_region_held3 (fun w' => w'.cell? ⟨g, 0, none⟩ = some (.slice A b.length c) ∧ w'.cell? ⟨g, 1, none⟩ = some (.int .i64 i)) (go_keep)
  (first | (go_at_call 82; refine (HT.out _ (Kd.C_drew HR.out)).mono ?_; rintro e w2 ⟨v, rfl, hv, hb2⟩; have q0 : w2.cell? ⟨g, 0, none⟩ = some (.slice A b.length c) := (hb2.cell (p := ⟨g, 0, none⟩) hgl).trans k0; have q1 : w2.cell? ⟨g, 1, none⟩ = some (.int .i64 i) := (hb2.cell (p := ⟨g, 1, none⟩) hgl).trans k1))
 have HX2 : Aside0 (RdB w2 g A b.length c i) := ⟨(hb2.block g hgl).trans HX.out⟩
 have HV := Zk (Kd.R_mono (Kd.R_bound hv) (ok' := fun k => k ≠ g) (fun k hk => by have h2 : w.heap.size ≤ k := hk.2.1; omega))
 have HB2 : Aside0 (Below w.heap.size w w2) := ⟨below_then (below_drew (Below.refl _ w)) (Nat.le_refl _) hb2⟩
 have f1 := blk_frozen HX2.out 1
 have HW := Zk (Kd.R_mono (Kd.R_far (p := ⟨g, 1, none⟩) HV.out (fun k hk => hk) (.int .i64 i')) (ok' := fun _ => True) (fun _ _ => trivial))
 clear hv hb2
 obtain ⟨Av, cv, rfl, -, -⟩ := Kd.R_reads HV.out
 clear q0 q1
 go_wp2
 go_end0
 go_wp2
 go_ret
 refine ⟨_, rfl, HW.out, blk_put (cs := #[.slice A b.length c, .int .i64 i]) HX2.out 1 _ rfl, ?_⟩
 exact World.grownBy.trans (grown_of_below' HB2.out _) (grown_set _ _ _ _)
theorem tasks_no (g : Nat) (A : Option Addr) (c : Nat) (b : List Int) (i : Int) (w : World) (k : Nat) (l : List (Nat × Nat)) (i' er : Int) (hr : Kd.C (Kd.int .u8) w A b.length b) (hc : b.length ≤ c) (hX : RdB w g A b.length c i) (hp : todo_Parse.f k b i 65536 = some (l, i', er)) (he : er ≠ 0) :
  Calls Tryz.prog 55 #[.pointer (some ⟨g, 0, none⟩)] w fun e w' => e = .panicked chainP ∧ w.grownBy w' (some g) := by
 have HT := Zk (fun W (hr : Kd.C (Kd.int .u8) W A b.length b) => todo_Parse.calls k A c b i 65536 l i' er W hr hc hp)
 have HR := Zk hr
 have k0 : w.cell? ⟨g, 0, none⟩ = some (.slice A b.length c) := (blk_cell hX 0).trans rfl
 have k1 : w.cell? ⟨g, 1, none⟩ = some (.int .i64 i) := (blk_cell hX 1).trans rfl
 have hgl := blk_lt hX
 have heb : (er == 0) = false := beq_eq_false_iff_ne.2 he
 clear hr hX hp he
 go_enter Tryz.func55, Tryz.ntmps55
 go_wp2
 go_region_held3 (fun w' => w'.cell? ⟨g, 0, none⟩ = some (.slice A b.length c) ∧ w'.cell? ⟨g, 1, none⟩ = some (.int .i64 i)) (go_keep)
  (first | (go_at_call 82; refine (HT.out _ (Kd.C_drew HR.out)).mono ?_; rintro e w2 ⟨v, rfl, hv, hb2⟩; have q0 : w2.cell? ⟨g, 0, none⟩ = some (.slice A b.length c) := (hb2.cell (p := ⟨g, 0, none⟩) hgl).trans k0; have q1 : w2.cell? ⟨g, 1, none⟩ = some (.int .i64 i) := (hb2.cell (p := ⟨g, 1, none⟩) hgl).trans k1))
 have HB2 : Aside0 (Below w.heap.size w w2) := ⟨below_then (below_drew (Below.refl _ w)) (Nat.le_refl _) hb2⟩
 obtain ⟨Av, cv, rfl, -, -⟩ := Kd.R_reads hv
 clear hv hb2
 go_wp2
 exact ⟨rfl, rfl, rfl, grown_of_below' HB2.out _⟩
theorem info122 : (Tryz.prog.info? 122).map (fun i => (i.zero, i.size, i.bytes)) = some (some (.agg #[.int .i64 0, .int .i64 0]), 2, 16) := by kernel_rfl
def volsF (b : List Int) (next : Int) : Nat → Int → Int → List S122 → Option (List S122 × Int)
 | 0, i, _, out => if out.length ≤ 20 then some (out, i) else none
 | m + 1, i, last, out =>
  if i + 6 ≤ (b.length : Int) then
   (if last < lev b i 4 ∧ lev b i 4 < next then volsF b next m (i + 6) (lev b i 4) (out ++ [⟨lev b i 4, lev b (i + 4) 2 - 1⟩]) else none)
  else none
def volsR (b : List Int) (next i : Int) : Option (List S122 × Int) := if i + 1 ≤ (b.length : Int) then volsF b next (lev b i 1).toNat (i + 1) 0 [] else none
def VolsPost (res : Option (List S122 × Int)) (w : World) (g : Nat) (A : Option Addr) (n c : Nat) (e : Ending) (w' : World) : Prop :=
 w.grownBy w' (some g) ∧ (∀ l i', res = some (l, i') → ∃ v : Value, e = .returned v ∧ Kd.R k122 122 w' w.heap.size (fun k => k ≠ g) v l ∧ RdB w' g A n c i') ∧ (res = none → e = .panicked chainP)
theorem vols_fail {res : Option (List S122 × Int)} {w w' : World} {g n c : Nat} {A : Option Addr} (h : none = res) (hg : w.grownBy w' (some g)) : VolsPost res w g A n c (.panicked chainP) w' := ⟨hg, (fun l i' e => by rw [← h] at e; cases e), fun _ => rfl⟩
theorem C_grown {w w' : World} {A : Option Addr} {b : List Int} {g : Nat} (h : Kd.C (Kd.int .u8) w A b.length b) (hA : ∀ ad, A = some ad → ad.block ≠ g) (hg : w.grownBy w' (some g)) : Kd.C (Kd.int .u8) w' A b.length b := by
 refine ⟨h.1, h.2.1, fun hn => ?_⟩
 obtain ⟨ad, e, hc⟩ := h.2.2 hn
 refine ⟨ad, e, fun j p hp => ?_⟩
 obtain ⟨cs, h1, h2, h3⟩ := hc j p hp
 refine ⟨cs, h1, h2, fun i u hu => ?_⟩
 have hcell := h3 i u hu
 exact (hg.cell hcell (by rw [add_block]; intro e2; exact hA ad e (Option.some.inj e2)))
theorem levB {b : List Int} (hb : bytesB b) (i wd : Int) : 0 ≤ lev b i wd ∧ lev b i wd < 4294967296 := by
 have h0 := lt_of_all hb.2 i
 have h1 := lt_of_all hb.2 (i + 1)
 have h2 := lt_of_all hb.2 (i + 2)
 have h3 := lt_of_all hb.2 (i + 3)
 unfold lev
 split <;> split <;> split <;> omega
theorem append_op {P : Program} {o : Oper} {a : Act} {Q : Exit → Act → World → Prop} {K : Act → World → Prop} {α : Type} (d : Kd α) {w0 W : World} (base : Nat) (hgd : o.guard = none) (s x : Operand) (t e : TypeId) (z : Value) (bytes : Nat)
  (ho : o.op = .call { callee := .builtin .append, args := #[s, x], argTypes := #[t, t] })
  (ht : P.underlying t = some (.slice e)) (hinfo : (P.info? e).map (fun i => (i.zero, i.size, i.bytes)) = some (some z, d.sz, bytes)) (hz : z.cells.size = d.sz) (hs0 : 0 < d.sz) (hb0 : 0 < bytes)
  (v : Value) (xs : List α) (p : α) (cs : List Value) (ok okp : Nat → Prop) (hs : a.eval s = v) (hx : a.eval x = .slice (some ⟨W.heap.size, 0, none⟩) 1 1) (hp : d.M W base okp p cs) (hokp : ∀ k, okp k → ok k ∧ some k ≠ v.ownBlock) (hfresh : ∀ k, W.heap.size ≤ k → ok k)
  (HO : d.R e W base ok v xs) (HB : Below base w0 W) (hbase : base ≤ W.heap.size) (hl : (xs.length + 1) * bytes ≤ 140737488355328)
  (h : ∀ v1 w1, d.R e w1 base ok v1 (xs ++ [p]) → Below base w0 w1 → W.grownBy w1 v.ownBlock → (v1.ownBlock = v.ownBlock ∨ ∃ b, v1.ownBlock = some b ∧ W.heap.size ≤ b) → K (a.put o.dst v1) w1) :
  Oper.wp P o a (W.alloc (.cells cs.toArray e)) K Q := by
 have hw : Region.wanted o (yielded #[] a.tmps) = true := by simp [Region.wanted, hgd]
 have := Kd.R_append_step (P := P) (ops := #[]) (Q := Q) (Kc := K) d base hw s x t e z bytes ho ht hinfo hz hs0 hb0 v xs p cs ok okp hs hx hp hokp hfresh HO HB hbase hl h
 rwa [if_pos hw] at this
theorem grown_own {w W w1 : World} {row row' : Option Nat} (h : w.grownBy W row) (hg : W.grownBy w1 row') (hr : ∀ k, row' = some k → w.heap.size ≤ k) : w.grownBy w1 row :=
 ⟨hg.os.trans h.os, hg.tape.trans h.tape, hg.output.trans h.output, Nat.le_trans h.size hg.size, fun k hk hne => (hg.block k (Nat.lt_of_lt_of_le hk h.size) (fun e => by have := hr k e.symm; omega)).trans (h.block k hk hne)⟩
theorem vols_walk (g : Nat) (A : Option Addr) (c : Nat) (b : List Int) (next i0 : Int) (w : World) (hb : bytesB b) (hr : Kd.C (Kd.int .u8) w A b.length b) (hA : ∀ ad, A = some ad → ad.block ≠ g) (hc : b.length ≤ c) (hX : RdB w g A b.length c i0) (h0 : 0 ≤ i0) :
  Calls Tryz.prog 54 #[.pointer (some ⟨g, 0, none⟩), .int .i64 next] w (VolsPost (volsR b next i0) w g A b.length c) := by
 have hu122 := Tryz.underlying122
 have hgl := blk_lt hX
 have hgl' : w.heap.size ≤ w.heap.size := Nat.le_refl _
 have HR := Zk (fun W hg => C_grown (w' := W) hr hA hg)
 have HBB := Zk hb
 by_cases h1 : i0 + 1 ≤ (b.length : Int)
 case neg =>
  have HN := Zk (number_no g A c b i0 1 w hb hr hc hX (by omega) (by omega) h0 (by omega))
  have HE : Aside0 (volsR b next i0 = none) := ⟨by unfold volsR; rw [if_neg h1]⟩
  rw [HE.out]
  clear hr hX hb
  go_enter Tryz.func54, Tryz.ntmps54
  go_wp2_with fail
  refine HN.out.mono ?_
  rintro e w1 ⟨rfl, hg1⟩
  exact ⟨rfl, vols_fail rfl hg1⟩
 have HN := Zk (number_yes g A c b i0 1 w hb hr hc hX (by omega) (by omega) h0 h1)
 obtain ⟨res, hres⟩ : ∃ res, volsR b next i0 = res := ⟨_, rfl⟩
 have HF : Aside0 (volsF b next (lev b i0 1).toNat (i0 + 1) 0 [] = res) := ⟨by rw [← hres]; unfold volsR; rw [if_pos h1]⟩
 have hmb := levB hb i0 1
 have HM := Zk hmb.1
 rw [hres]
 clear hr hX hres hb
 obtain ⟨m0, hm0⟩ : ∃ m0 : Nat, lev b i0 1 = m0 := ⟨(lev b i0 1).toNat, by omega⟩
 rw [hm0] at HN HF hmb
 rw [Int.toNat_natCast] at HF
 clear HM hm0
 go_enter Tryz.func54, Tryz.ntmps54
 go_wp2_with fail
 refine HN.out.mono ?_
 rintro e w1 ⟨rfl, hx1, hg1⟩
 have HX1 := Zk hx1
 have HG1 := Zk hg1
 clear hx1 hg1 HN
 go_wp2
 go_loopg [5, 6, 10] m0 (fun kx s5 s6 s10 wr => ∃ (j m : Nat) (i last : Int) (out : List S122), s6 = .int .i64 last ∧ s10 = .int .i64 j ∧ j + m = m0 ∧ m ≤ kx ∧ 0 ≤ i ∧ Aside0 (out.length + m ≤ m0) ∧ Aside0 (volsF b next m i last out = res) ∧ Aside0 (Kd.R k122 122 wr w.heap.size (fun k => k ≠ g) s5 out) ∧ Aside0 (RdB wr g A b.length c i) ∧ Aside0 (w.grownBy wr (some g)))
 case atStart => exact ⟨0, m0, i0 + 1, 0, [], rfl, rfl, by omega, Nat.le_refl _, by omega, ⟨by simp⟩, HF, ⟨Kd.R_nil _ _ _ _ _⟩, HX1, HG1⟩
 case round =>
  clear HX1 HG1 HF
  obtain ⟨j, m, i, last, out, rfl, rfl, hj, hm, hi, HOL, HF, HO, HX, HG⟩ := hrel
  obtain ⟨Ao, co, rfl, -, -⟩ := Kd.R_reads HO.out
  have hjz : (0 : Int) ≤ j := by omega
  cases m with
  | zero =>
   obtain rfl : j = m0 := by omega
   have hf := HF.out
   rw [volsF] at hf
   by_cases hl : out.length ≤ 20
   case neg =>
    rw [if_neg hl] at hf
    have HE := Zk hf
    have hlb : decide ((out.length : Int) ≤ 20) = false := decide_eq_false (by omega)
    have HMU := must_no g
    clear hf HF hl
    go_wp2_with fail
    refine (HMU _).mono ?_
    rintro e w2 ⟨rfl, hw2⟩
    obtain rfl := hw2.symm
    exact ⟨rfl, vols_fail HE.out (HG.out)⟩
   rw [if_pos hl] at hf
   have HE := Zk hf
   have hlb : decide ((out.length : Int) ≤ 20) = true := decide_eq_true (by omega)
   have HMU := must_yes g
   clear hf HF hl
   go_wp2_with fail
   refine (HMU _).mono ?_
   rintro e w2 ⟨rfl, hw2⟩
   obtain rfl := hw2.symm
   clear hw2
   go_wp2
   go_ret
   exact ⟨HG.out, fun l i' h => by
    rw [← HE.out] at h
    obtain ⟨rfl, rfl⟩ := Prod.mk.inj (Option.some.inj h)
    exact ⟨_, rfl, Kd.R_lower HO.out hgl', HX.out⟩, (fun h => by rw [← HE.out] at h; cases h)⟩
  | succ m =>
   have hf := HF.out
   rw [volsF] at hf
   by_cases h6 : i + 6 ≤ (b.length : Int)
   case neg =>
    rw [if_neg h6] at hf
    have HE := Zk hf
    clear hf HF
    by_cases h4 : i + 4 ≤ (b.length : Int)
    case neg =>
     have HN1 := Zk (number_no g A c b i 4 wr HBB.out (HR.out wr HG.out) hc HX.out (by omega) (by omega) hi (by omega))
     go_wp2_with fail
     refine HN1.out.mono ?_
     rintro e w2 ⟨rfl, hg2⟩
     exact ⟨rfl, vols_fail HE.out (World.grownBy.trans HG.out hg2)⟩
    have HN1 := Zk (number_yes g A c b i 4 wr HBB.out (HR.out wr HG.out) hc HX.out (by omega) (by omega) hi h4)
    have HN2 := Zk (fun W (hX : RdB W g A b.length c (i + 4)) (hG : w.grownBy W (some g)) => number_no g A c b (i + 4) 2 W HBB.out (HR.out W hG) hc hX (by omega) (by omega) (by omega) (by omega))
    go_wp2_with fail
    refine HN1.out.mono ?_
    rintro e w2 ⟨rfl, hx2, hg2⟩
    have HX2 := Zk hx2
    have HG2 := Zk (World.grownBy.trans HG.out hg2)
    clear hx2 hg2 HN1 HX HG HO
    go_wp2_with fail
    refine (HN2.out _ HX2.out HG2.out).mono ?_
    rintro e w3 ⟨rfl, hg3⟩
    exact ⟨rfl, vols_fail HE.out (World.grownBy.trans HG2.out hg3)⟩
   rw [if_pos h6] at hf
   have HN1 := Zk (number_yes g A c b i 4 wr HBB.out (HR.out wr HG.out) hc HX.out (by omega) (by omega) hi (by omega))
   have HN2 := Zk (fun W (hX : RdB W g A b.length c (i + 4)) (hG : w.grownBy W (some g)) => number_yes g A c b (i + 4) 2 W HBB.out (HR.out W hG) hc hX (by omega) (by omega) (by omega) (by omega))
   have l1 := levB HBB.out i 4
   have l2 := levB HBB.out (i + 4) 2
   obtain ⟨id, hid⟩ : ∃ id, lev b i 4 = id := ⟨_, rfl⟩
   obtain ⟨rt, hrt⟩ : ∃ rt, lev b (i + 4) 2 = rt := ⟨_, rfl⟩
   rw [hid] at l1 HN1 hf
   rw [hrt] at l2 HN2 hf
   have HF2 := Zk hf
   clear hf hid hrt HF
   go_wp2_with fail
   refine HN1.out.mono ?_
   rintro e w2 ⟨rfl, hx2, hg2⟩
   have HX2 := Zk hx2
   have HG2 := Zk (World.grownBy.trans HG.out hg2)
   have HO2 := Zk (Kd.R_grown HO.out hg2 (fun k hk e => hk (Option.some.inj e)))
   clear hx2 hg2 HN1 HX HG HO
   go_wp2_with fail
   refine (HN2.out _ HX2.out HG2.out).mono ?_
   rintro e w3 ⟨rfl, hx3, hg3⟩
   have HX3 : Aside0 (RdB w3 g A b.length c (i + 6)) := ⟨by rw [show i + 6 = i + 4 + 2 by omega]; exact hx3⟩
   have HG3 := Zk (World.grownBy.trans HG2.out hg3)
   have HO3 := Zk (Kd.R_grown HO2.out hg3 (fun k hk e => hk (Option.some.inj e)))
   clear hx3 hg3 HN2 HX2 HG2 HO2
   by_cases hcd : last < id ∧ id < next
   case neg =>
    have hf := HF2.out
    rw [if_neg hcd] at hf
    have HE := Zk hf
    have HMU := must_no g
    clear hf HF2
    have hHG : w.grownBy (w3.alloc (.cells #[.int .i64 id, .int .i64 (rt - 1)] 122)) (some g) := World.grownBy.trans HG3.out (World.grownBy_alloc _ _ _)
    have HHG := Zk hHG
    clear hHG
    by_cases hc1 : last < id
    case neg =>
     clear hcd
     go_wp2_with fail
     refine (HMU _).mono ?_
     rintro e w4 ⟨rfl, hw4⟩
     obtain rfl := hw4.symm
     exact ⟨rfl, vols_fail HE.out HHG.out⟩
    have hc2 : decide (id < next) = false := decide_eq_false (fun h => hcd ⟨hc1, h⟩)
    have hc3 : ¬ id < next := fun h => hcd ⟨hc1, h⟩
    clear hcd
    go_wp2_with fail
    refine (HMU _).mono ?_
    rintro e w4 ⟨rfl, hw4⟩
    obtain rfl := hw4.symm
    exact ⟨rfl, vols_fail HE.out HHG.out⟩
   have hf := HF2.out
   rw [if_pos hcd] at hf
   have HF3 := Zk hf
   have hc1 : decide (last < id) = true := decide_eq_true hcd.1
   have hc2 : decide (id < next) = true := decide_eq_true hcd.2
   have hc3 := hcd.1
   have hc4 := hcd.2
   clear hf HF2 hcd
   obtain ⟨wB, hwB⟩ : ∃ wB, w3.alloc (.cells #[.int .i64 id, .int .i64 (rt - 1)] 122) = wB := ⟨_, rfl⟩
   have HXB : Aside0 (RdB wB g A b.length c (i + 6)) := ⟨by rw [← hwB]; exact blk_alloc HX3.out _⟩
   have HGB : Aside0 (w.grownBy wB (some g)) := ⟨by rw [← hwB]; exact World.grownBy.trans HG3.out (World.grownBy_alloc _ _ _)⟩
   have HOB : Aside0 (Kd.R k122 122 wB w.heap.size (fun k => k ≠ g) (.slice Ao out.length co) out) := ⟨by rw [← hwB]; exact Kd.R_alloc HO3.out _⟩
   have HVB : Aside0 (wB.heap[w3.heap.size]? = some (.cells #[.int .i64 id, .int .i64 (rt - 1)] 122 (0, 0))) := ⟨by rw [← hwB]; exact alloc_new _ _⟩
   obtain ⟨y0, y1, -, -⟩ := cf2_ HVB
   have HMU := must_yes g
   go_wp2_with fail
   refine (HMU _).mono ?_
   rintro e w4 ⟨rfl, hw4⟩
   obtain rfl := hw4.symm
   clear hw4
   go_wp2_with fail
   have hcn : Kd.R k122 122 wB.drew w.heap.size (fun k => k ≠ g) (.slice Ao out.length co) out := Kd.R_drew HOB.out
   have HCN := Zk hcn
   have HBW : Aside0 (Below w.heap.size w3 w3) := ⟨Below.refl _ _⟩
   clear hcn
   have hszB : w3.heap.size < wB.heap.size := blk_lt HVB.out
   have hown : (Value.slice Ao out.length co).ownBlock ≠ some w3.heap.size := fun e => by have := Kd.R_lt HO3.out _ e; omega
   have hall : ∀ v1 w1, Kd.R k122 122 w1 w.heap.size (fun k => k ≠ g) v1 (out ++ [⟨id, rt - 1⟩]) → Below w.heap.size w3 w1 → wB.drew.grownBy w1 (Value.slice Ao out.length co).ownBlock → True := fun _ _ _ _ _ => trivial
   go_region_held3 (fun w' => w'.cell? ⟨w3.heap.size, 0, none⟩ = some (.int .i64 id) ∧ w'.cell? ⟨w3.heap.size, 1, none⟩ = some (.int .i64 (rt - 1))) (go_keep)
    ((refine append_op k122 (w0 := wB.drew) (W := wB.drew) w.heap.size rfl (.tmp 30) (.tmp 32) 31 122 (.agg #[.int .i64 0, .int .i64 0]) 16 (by rfl) Tryz.underlying31 info122 rfl (by decide) (by omega) (.slice Ao out.length co) out ⟨id, rt - 1⟩ [.int .i64 id, .int .i64 (rt - 1)] (fun k => k ≠ g) (fun _ => False) (by rfl) (by rfl) (k122_mkM _ _ _ _) (fun _ hk => hk.elim) (fun k hk => by have h1 : wB.heap.size ≤ k := hk; have h2 := HGB.out.size; omega) HCN.out (Below.refl _ _) (by show w.heap.size ≤ wB.heap.size; have := HGB.out.size; omega) (by have := HOL.out; omega) ?_; intro v5 w5 ho5 hb5 hg5 hat5; have q0 : w5.cell? ⟨w3.heap.size, 0, none⟩ = some (.int .i64 id) := hg5.cell (a := ⟨w3.heap.size, 0, none⟩) y0 (Ne.symm hown); have q1 : w5.cell? ⟨w3.heap.size, 1, none⟩ = some (.int .i64 (rt - 1)) := hg5.cell (a := ⟨w3.heap.size, 1, none⟩) y1 (Ne.symm hown)))
   have hX5 : RdB w5 g A b.length c (i + 6) := (hg5.block g (blk_lt HXB.out) (Kd.R_away HCN.out (fun k hk => hk))).trans HXB.out
   have hG5 : w.grownBy w5 (some g) := grown_own HGB.out (show wB.grownBy w5 _ from ⟨hg5.os, hg5.tape, hg5.output, hg5.size, hg5.block⟩) (fun k e => Kd.R_base HO3.out k e)
   have HX5 := Zk hX5
   have HG5 := Zk hG5
   have HO5 := Zk ho5
   clear hX5 hG5 ho5 hb5 hg5 hat5 q0 q1 hown hall y0 y1
   go_wp2
   go_roundg m
   case measure => omega
   case rel => exact ⟨j + 1, m, i + 6, id, out ++ [⟨id, rt - 1⟩], rfl, rfl, by omega, Nat.le_refl _, by omega, ⟨by have := HOL.out; rw [List.length_append, List.length_singleton]; omega⟩, HF3, HO5, HX5, HG5⟩
theorem as101 (v : Value) (W : World) : (Instr.typeAssert (.iface 101 v) 20 101 true).run Tryz.prog W = .ok (.tuple #[v, .bool true]) W := by kernel_rfl
theorem asnil (W : World) : (Instr.typeAssert .nilIface 20 101 true).run Tryz.prog W = .ok (.tuple #[.agg #[], .bool false]) W := by kernel_rfl
abbrev zeroS : Array Value := #[.slice none 0 0, .int .i64 0, .slice none 0 0, .slice none 0 0, .int .i64 0, .int .i64 0]
theorem catch_no (b4 b5 : Nat) (w : World) (h4 : w.heap[b4]? = some (.cells zeroS 34 (0, 0))) (h5 : w.heap[b5]? = some (.cells #[.int .i64 0] 35 (0, 0))) (hne : b4 ≠ b5) :
  CallsD Tryz.prog 51 #[.pointer (some ⟨b4, 0, none⟩), .pointer (some ⟨b5, 0, none⟩)] (.panicking [{ v := .iface 101 (.agg #[]), recovered := false }]) w fun e u' w' =>
   e = .returned (.tuple #[]) ∧ u' = .panicking [{ v := .iface 101 (.agg #[]), recovered := true }] ∧ w'.heap[b4]? = some (.cells zeroS 34 (0, 0)) ∧ w'.heap[b5]? = some (.cells #[.int .i64 2] 35 (0, 0)) ∧ ∀ n, n ≤ b4 → n ≤ b5 → n ≤ w.heap.size → Below n w w' := by
 refine callsD_of_wpS Tryz.func51 rfl fun c₀ cs hu => ?_
 apply wpS_seq
 apply wpS_region
 simp [wpOpsS, go_sem, recoverD, hu, Tryz.ntmps51, Exit.thenS, as101]
 have H4 : Aside0 ((w.alloc (.cells #[] 101)).heap[b4]? = some (.cells zeroS 34 (0, 0))) := ⟨blk_alloc h4 _⟩
 have H5 : Aside0 ((w.alloc (.cells #[] 101)).heap[b5]? = some (.cells #[.int .i64 0] 35 (0, 0))) := ⟨blk_alloc h5 _⟩
 have HB : Aside0 (Below w.heap.size w (w.alloc (.cells #[] 101))) := ⟨(Below.refl _ w).alloc (Nat.le_refl _) _⟩
 generalize w.alloc (.cells #[] 101) = W at H4 H5 HB ⊢
 refine wpS_of_wp ?_
 simp only [List.setIfInBounds_toArray, Array.replicate_succ, Array.replicate_zero, List.push_toArray, List.append_toArray, List.nil_append, List.cons_append, List.set_cons_zero, List.set_cons_succ]
 have f0 := blk_frozen H4.out 0
 have f1 := blk_frozen H4.out 1
 have f2 := blk_frozen H4.out 2
 have f3 := blk_frozen H4.out 3
 have f4 := blk_frozen H4.out 4
 have f5 := blk_frozen H4.out 5
 have g0 := blk_frozen H5.out 0
 have c0 : W.cell? ⟨b4, 0, none⟩ = some (.slice none 0 0) := (blk_cell H4.out 0).trans rfl
 have c1 : W.cell? ⟨b4, 1, none⟩ = some (.int .i64 0) := (blk_cell H4.out 1).trans rfl
 have c2 : W.cell? ⟨b4, 2, none⟩ = some (.slice none 0 0) := (blk_cell H4.out 2).trans rfl
 have c3 : W.cell? ⟨b4, 3, none⟩ = some (.slice none 0 0) := (blk_cell H4.out 3).trans rfl
 have c4 : W.cell? ⟨b4, 4, none⟩ = some (.int .i64 0) := (blk_cell H4.out 4).trans rfl
 have c5 : W.cell? ⟨b4, 5, none⟩ = some (.int .i64 0) := (blk_cell H4.out 5).trans rfl
 have d0 : W.cell? ⟨b5, 0, none⟩ = some (.int .i64 0) := (blk_cell H5.out 0).trans rfl
 have hne2 : b5 ≠ b4 := Ne.symm hne
 have hu34 := Tryz.underlying34
 go_wp2
 have e1 : ∀ (i : Nat) (v : Value) (W : World), i < 6 → W.heap[b4]? = some (.cells zeroS 34 (0, 0)) → zeroS.setIfInBounds i v = zeroS → (W.setCell ⟨b4, i, none⟩ v).heap[b4]? = some (.cells zeroS 34 (0, 0)) := fun i v W _ h e => blk_put h i v e
 have e2 : ∀ (i : Nat) (v : Value) (W : World) (n : Nat), n ≤ b4 → Below n w W → Below n w (W.setCell ⟨b4, i, none⟩ v) := fun i v W n hn h => h.setCell (p := ⟨b4, i, none⟩) hn _
 refine ⟨rfl, _, rfl, _, results_none rfl _ _ _, rfl, rfl, ?_, ?_, ?_⟩
 ·refine (Below.heap_setCell _ _ _ _ hne).trans ?_
  exact e1 5 _ _ (by decide) (e1 4 _ _ (by decide) (e1 3 _ _ (by decide) (e1 2 _ _ (by decide) (e1 1 _ _ (by decide) (e1 0 _ _ (by decide) H4.out rfl) rfl) rfl) rfl) rfl) rfl
 ·refine blk_put (cs := #[.int .i64 0]) ?_ 0 _ rfl
  refine (Below.heap_setCell _ _ _ _ hne2).trans ?_
  refine (Below.heap_setCell _ _ _ _ hne2).trans ?_
  refine (Below.heap_setCell _ _ _ _ hne2).trans ?_
  refine (Below.heap_setCell _ _ _ _ hne2).trans ?_
  refine (Below.heap_setCell _ _ _ _ hne2).trans ?_
  exact (Below.heap_setCell _ _ _ _ hne2).trans H5.out
 ·intro n hn4 hn5 hnw
  refine Below.setCell (p := ⟨b5, 0, none⟩) ?_ hn5 _
  exact e2 _ _ _ n hn4 (e2 _ _ _ n hn4 (e2 _ _ _ n hn4 (e2 _ _ _ n hn4 (e2 _ _ _ n hn4 (e2 _ _ _ n hn4 (HB.out.mono hnw))))))
theorem catch_yes (b4 b5 : Nat) (w : World) :
  CallsD Tryz.prog 51 #[.pointer (some ⟨b4, 0, none⟩), .pointer (some ⟨b5, 0, none⟩)] .returning w fun e u' w' =>
   e = .returned (.tuple #[]) ∧ u' = .returning ∧ Below w.heap.size w w' := by
 refine callsD_of_wpS Tryz.func51 rfl fun c₀ cs hu => ?_
 apply wpS_seq
 apply wpS_region
 simp [wpOpsS, go_sem, recoverD, hu, Tryz.ntmps51, Exit.thenS, asnil]
 have HB : Aside0 (Below w.heap.size w (w.alloc (.cells #[] 101))) := ⟨(Below.refl _ w).alloc (Nat.le_refl _) _⟩
 generalize w.alloc (.cells #[] 101) = W at HB ⊢
 refine wpS_of_wp ?_
 simp only [List.setIfInBounds_toArray, Array.replicate_succ, Array.replicate_zero, List.push_toArray, List.append_toArray, List.nil_append, List.cons_append, List.set_cons_zero, List.set_cons_succ]
 go_wp2
 exact ⟨rfl, .returning, by cases c₀; simp_all, _, results_none rfl _ _ _, rfl, rfl, HB.out⟩
theorem book_results {W : World} {b4 b5 : Nat} {x : Value} {c0 c1 c2 c3 c4 c5 : Value} (h4 : W.heap[b4]? = some (.cells #[c0, c1, c2, c3, c4, c5] 34 (0, 0))) (h5 : W.heap[b5]? = some (.cells #[x] 35 (0, 0))) (tmps : Array Value)
  (t4 : tmps[4]?.getD undef = .pointer (some ⟨b4, 0, none⟩)) (t5 : tmps[5]?.getD undef = .pointer (some ⟨b5, 0, none⟩)) :
  (results Tryz.f19 tmps).run Tryz.prog W = .ok (.tuple #[.agg #[c0, c1, c2, c3, c4, c5], x]) W := by
 have hu34 := Tryz.underlying34
 have hu30 := Tryz.underlying30
 have e0 : W.cell? ⟨b4, 0, none⟩ = some c0 := (blk_cell h4 0).trans rfl
 have e1 : W.cell? ⟨b4, 1, none⟩ = some c1 := (blk_cell h4 1).trans rfl
 have e2 : W.cell? ⟨b4, 2, none⟩ = some c2 := (blk_cell h4 2).trans rfl
 have e3 : W.cell? ⟨b4, 3, none⟩ = some c3 := (blk_cell h4 3).trans rfl
 have e4 : W.cell? ⟨b4, 4, none⟩ = some c4 := (blk_cell h4 4).trans rfl
 have e5 : W.cell? ⟨b4, 5, none⟩ = some c5 := (blk_cell h4 5).trans rfl
 have d0 : W.cell? ⟨b5, 0, none⟩ = some x := (blk_cell h5 0).trans rfl
 simp [results, Tryz.f19, go_sem, t4, t5, e0, e1, e2, e3, e4, e5, d0]
theorem book_fail {b4 b5 : Nat} {tmps : Array Value} {R : Ending → World → Prop} {W : World} (h4 : W.heap[b4]? = some (.cells zeroS 34 (0, 0))) (h5 : W.heap[b5]? = some (.cells #[.int .i64 0] 35 (0, 0))) (hne : b4 ≠ b5)
  (t4 : tmps[4]?.getD undef = .pointer (some ⟨b4, 0, none⟩)) (t5 : tmps[5]?.getD undef = .pointer (some ⟨b5, 0, none⟩))
  (hR : ∀ W', (∀ n, n ≤ b4 → n ≤ b5 → n ≤ W.heap.size → Below n W W') → R (.returned (.tuple #[.agg zeroS, .int .i64 2])) W') :
  bodyPostD Tryz.prog Tryz.f19 R (Exit.panic chainP) { tmps := tmps, defers := [{ target := .fn (.func 51) #[.pointer (some ⟨b4, 0, none⟩), .pointer (some ⟨b5, 0, none⟩)], args := #[] }] } W := by
 refine leaves_cons (f := 51) (args := #[.pointer (some ⟨b4, 0, none⟩), .pointer (some ⟨b5, 0, none⟩)]) (by simp) (by simp [go_sem]) ?_
 refine (catch_no b4 b5 W h4 h5 hne).mono ?_
 rintro e u' w'' ⟨rfl, rfl, h4', h5', hb⟩
 exact ⟨_, book_results h4' h5' tmps t4 t5, hR w'' hb⟩
theorem book_end {b4 b5 : Nat} {tmps : Array Value} {R : Ending → World → Prop} {W : World} {x c0 c1 c2 c3 c4 c5 : Value} (h4 : W.heap[b4]? = some (.cells #[c0, c1, c2, c3, c4, c5] 34 (0, 0))) (h5 : W.heap[b5]? = some (.cells #[x] 35 (0, 0)))
  (t4 : tmps[4]?.getD undef = .pointer (some ⟨b4, 0, none⟩)) (t5 : tmps[5]?.getD undef = .pointer (some ⟨b5, 0, none⟩))
  (hR : ∀ W', Below W.heap.size W W' → R (.returned (.tuple #[.agg #[c0, c1, c2, c3, c4, c5], x])) W') :
  bodyPostD Tryz.prog Tryz.f19 R Exit.ret { tmps := tmps, defers := [{ target := .fn (.func 51) #[.pointer (some ⟨b4, 0, none⟩), .pointer (some ⟨b5, 0, none⟩)], args := #[] }] } W := by
 refine leaves_cons (f := 51) (args := #[.pointer (some ⟨b4, 0, none⟩), .pointer (some ⟨b5, 0, none⟩)]) (by simp) (by simp [go_sem]) ?_
 refine (catch_yes b4 b5 W).mono ?_
 rintro e u' w'' ⟨rfl, rfl, hb⟩
 exact ⟨_, book_results ((hb.block _ (blk_lt h4)).trans h4) ((hb.block _ (blk_lt h5)).trans h5) tmps t4 t5, hR w'' hb⟩
section
def bareV (r : Int) : List Value := [.int .i64 r, .bool false, .bool false, .slice none 0 0]
def cellsA (l : List Int) : Array Value := (l.flatMap bareV).toArray
theorem bareL_len (l : List Int) : (l.flatMap bareV).length = l.length * 4 := by
 induction l with
 | nil => rfl
 | cons x l ih => rw [List.flatMap_cons, List.length_append, ih]; simp [bareV]; omega
theorem cellsA_size (l : List Int) : (cellsA l).size = l.length * 4 := by unfold cellsA; rw [List.size_toArray]; exact bareL_len l
theorem bareL_at (l : List Int) (j q : Nat) (hj : j < l.length) (hq : q < 4) : (l.flatMap bareV)[j * 4 + q]? = (bareV (rd l (j : Nat)))[q]? := by
 induction l generalizing j with
 | nil => simp at hj
 | cons x l ih =>
  rw [List.flatMap_cons]
  cases j with
  | zero => rw [List.getElem?_append_left (by simp [bareV]; omega)]; simp [rd]
  | succ j =>
   rw [List.getElem?_append_right (by simp [bareV]; omega), show (j + 1) * 4 + q - (bareV x).length = j * 4 + q by simp [bareV]; omega, ih j (by simpa using hj)]
   simp [rd]
theorem cellsA_at (l : List Int) (j q : Nat) (hj : j < l.length) (hq : q < 4) : (cellsA l)[j * 4 + q]? = (bareV (rd l (j : Nat)))[q]? := by
 unfold cellsA
 rw [List.getElem?_toArray]
 exact bareL_at l j q hj hq
theorem bareL_set (l : List Int) (j : Nat) (hj : j < l.length) (r : Int) : (l.flatMap bareV).set (j * 4) (.int .i64 r) = (l.set j r).flatMap bareV := by
 induction l generalizing j with
 | nil => simp at hj
 | cons x l ih =>
  cases j with
  | zero => simp [bareV]
  | succ j =>
   rw [List.set_cons_succ, List.flatMap_cons, List.flatMap_cons, ← ih j (by simpa using hj), show (j + 1) * 4 = (bareV x).length + j * 4 by simp [bareV]; omega, List.set_append_right _ _ (Nat.le_add_right _ _), Nat.add_sub_cancel_left]
theorem cellsA_set (l : List Int) (j : Nat) (hj : j < l.length) (r : Int) : (cellsA l).setIfInBounds (j * 4) (.int .i64 r) = cellsA (l.set j r) := by
 unfold cellsA
 rw [List.setIfInBounds_toArray, bareL_set l j hj r]
theorem made_cells (n : Nat) : madeCells #[.int .i64 0, .bool false, .bool false, .slice none 0 0] (n * 4) = cellsA (List.replicate n 0) := by
 apply Array.ext_getElem?
 intro i
 by_cases hi : i < n * 4
 case neg => rw [Array.getElem?_eq_none (by rw [size_madeCells]; omega), Array.getElem?_eq_none (by rw [cellsA_size, List.length_replicate]; omega)]
 have e := cellsA_at (List.replicate n 0) (i / 4) (i % 4) (by rw [List.length_replicate]; omega) (Nat.mod_lt _ (by decide))
 rw [show i / 4 * 4 + i % 4 = i by omega] at e
 rw [e]
 have er : rd (List.replicate n (0 : Int)) ((i / 4 : Nat) : Int) = 0 := by
  unfold rd
  rw [List.getD_eq_getElem?_getD, List.getElem?_replicate, Int.toNat_natCast]
  split <;> rfl
 rw [er]
 unfold madeCells
 rw [Array.getElem?_map, Array.getElem?_range, if_pos hi]
 have : i % 4 < 4 := Nat.mod_lt _ (by decide)
 show some (#[Value.int .i64 0, .bool false, .bool false, .slice none 0 0][i % 4]!) = _
 rcases (show i % 4 = 0 ∨ i % 4 = 1 ∨ i % 4 = 2 ∨ i % 4 = 3 by omega) with h | h | h | h <;> rw [h] <;> rfl
theorem newgood_walk (n keep : Nat) (h1 : 1 ≤ n) (h2 : n ≤ 2000) (hk : keep ≤ n) (w : World) :
  Calls Tryz.prog 56 #[.int .i64 n, .int .i64 keep] w fun e w' => e = .returned (.tuple #[.agg #[.slice (some ⟨w.heap.size + 1, 0, none⟩) n n, .int .i64 keep], .int .i64 0]) ∧ w'.heap[w.heap.size + 1]? = some (.cells (cellsA (List.replicate n 0)) 65 (0, 0)) ∧ Below w.heap.size w w' := by
 have hu30 := Tryz.underlying30
 have hmk : ∀ W : World, (Instr.makeSlice 28 (.int .i64 (n : Int)) (.int .i64 (n : Int))).run Tryz.prog W = .ok (.slice (some ⟨W.heap.size, 0, none⟩) n n) (W.alloc (.cells (cellsA (List.replicate n 0)) 65)) := fun W => by
  obtain ⟨i0, hi, hzz⟩ := Option.map_eq_some_iff.1 info65
  simp only [Prod.mk.injEq] at hzz
  obtain ⟨hz0, hz1, hz2⟩ := hzz
  have := run_make (P := Tryz.prog) W 28 65 i0 _ Tryz.underlying28 hi hz0 .i64 .i64 (n : Int) (n : Int) (by omega) (by omega) (by rw [hz2]; omega) (by omega)
  rw [hz1, Int.toNat_natCast] at this
  rw [← made_cells]
  exact this
 have HMK := Zk hmk
 go_enter Tryz.func56, Tryz.ntmps56
 have hnk : decide (n < keep) = false := decide_eq_false (by omega)
 have hn0 : ¬ n < keep := by omega
 go_wp2
 refine ⟨rfl, _, results_ct rfl _ _ w.heap.size 30 #[.slice (some ⟨w.heap.size + 1, 0, none⟩) n n, .int .i64 keep] (0, 0) _ rfl (blk_alloc (alloc_new w _) _) hu30 rfl (by kernel_rfl), rfl, ?_, ((Below.refl _ w).alloc (Nat.le_refl _) _).alloc (by simp) _⟩
 have := alloc_new (w.alloc (.cells #[.slice (some ⟨w.heap.size + 1, 0, none⟩) n n, .int .i64 keep] 30)) (.cells (cellsA (List.replicate n 0)) 65)
 rwa [World.size_alloc] at this
theorem newbad_walk (n keep : Nat) (h : ¬ (1 ≤ n ∧ n ≤ 2000 ∧ keep ≤ n)) (w : World) :
  Calls Tryz.prog 56 #[.int .i64 n, .int .i64 keep] w fun e w' => e = .returned (.tuple #[.agg #[.slice none 0 0, .int .i64 0], .int .i64 1]) ∧ Below w.heap.size w w' := by
 have hu30 := Tryz.underlying30
 have hend : ∀ (W : World) (a : Act), (W.heap[w.heap.size]? = some (.cells #[.slice none 0 0, .int .i64 0] 30 (0, 0))) → True := fun _ _ _ => trivial
 by_cases h1 : (n : Int) < 1
 case pos =>
  go_enter Tryz.func56, Tryz.ntmps56
  go_wp2
  exact ⟨rfl, _, results_ct rfl _ _ w.heap.size 30 #[.slice none 0 0, .int .i64 0] (0, 0) _ rfl (alloc_new w _) hu30 rfl (by kernel_rfl), rfl, ((Below.refl _ w).alloc (Nat.le_refl _) _)⟩
 by_cases h2 : (n : Int) > 2000
 case pos =>
  go_enter Tryz.func56, Tryz.ntmps56
  go_wp2
  exact ⟨rfl, _, results_ct rfl _ _ w.heap.size 30 #[.slice none 0 0, .int .i64 0] (0, 0) _ rfl (alloc_new w _) hu30 rfl (by kernel_rfl), rfl, ((Below.refl _ w).alloc (Nat.le_refl _) _)⟩
 have h3 : ¬ ((keep : Int) < 0) := by omega
 have h4 : (keep : Int) > n := by omega
 have h5 : n < keep := by omega
 have h6 : ¬ n > 2000 := by omega
 have h7 : ¬ n < 1 := by omega
 go_enter Tryz.func56, Tryz.ntmps56
 go_wp2
 exact ⟨rfl, _, results_ct rfl _ _ w.heap.size 30 #[.slice none 0 0, .int .i64 0] (0, 0) _ rfl (alloc_new w _) hu30 rfl (by kernel_rfl), rfl, ((Below.refl _ w).alloc (Nat.le_refl _) _)⟩
abbrev BookT := List Int × Int × List S122 × List (Nat × Nat) × Int
def refsF (b : List Int) (i : Int) (n : Nat) : List Int := (List.range n).map fun t => lev b (i + 2 * (t : Nat)) 2
def rootOk (refs : List Int) (v : S122) : Bool := decide (v.f1 < (refs.length : Int)) && (decide (v.f1 < 0) || decide (0 < rd refs v.f1))
def bookC (b : List Int) (next : Int) (vs : List S122) (ts : List (Nat × Nat)) (i : Int) : Option BookT :=
 if i + 4 ≤ (b.length : Int) then
  (if 1 ≤ lev b (i + 2) 2 ∧ lev b (i + 2) 2 ≤ 2000 ∧ lev b i 2 ≤ lev b (i + 2) 2 then
   (if rightC ts (lev b (i + 2) 2) = true then
    (if i + 4 + 2 * lev b (i + 2) 2 ≤ (b.length : Int) then
     (if vs.all (rootOk (refsF b (i + 4) (lev b (i + 2) 2).toNat)) = true then
      (if i + 4 + 2 * lev b (i + 2) 2 = (b.length : Int) then some (refsF b (i + 4) (lev b (i + 2) 2).toNat, lev b i 2, vs, ts, next) else none)
     else none)
    else none)
   else none)
  else none)
 else none
def bookT (b : List Int) (next : Int) (vs : List S122) (i : Int) : Option BookT :=
 (todo_Parse.f 100000 b i 65536).bind fun r => if r.2.2 = 0 then bookC b next vs r.1 r.2.1 else none
def bookF (b : List Int) : Option BookT :=
 if 4 ≤ b.length then
  (if 1 ≤ lev b 0 4 ∧ lev b 0 4 ≤ 2147483647 then (volsR b (lev b 0 4) 4).bind fun r => bookT b (lev b 0 4) r.1 r.2 else none)
 else none
def BookPost (res : Option BookT) (gen : Int) (w : World) (e : Ending) (w' : World) : Prop :=
 Below w.heap.size w w' ∧ (res = none → e = .returned (.tuple #[.agg zeroS, .int .i64 2])) ∧
 ∀ refs keep vs ts next, res = some (refs, keep, vs, ts, next) → ∃ (g : Nat) (v1 v2 : Value), e = .returned (.tuple #[.agg #[.slice (some ⟨g, 0, none⟩) refs.length refs.length, .int .i64 keep, v1, v2, .int .i64 next, .int .i64 gen], .int .i64 0]) ∧
  w.heap.size ≤ g ∧ w'.heap[g]? = some (.cells (cellsA refs) 65 (0, 0)) ∧ Kd.R k122 122 w' w.heap.size (fun _ => True) v1 vs ∧ Kd.R kc 79 w' w.heap.size (fun _ => True) v2 ts
structure Bw (w W : World) (A : Option Addr) (n c : Nat) (i : Int) : Prop where
 x4 : W.heap[w.heap.size]? = some (.cells zeroS 34 (0, 0))
 x5 : W.heap[w.heap.size + 1]? = some (.cells #[.int .i64 0] 35 (0, 0))
 xr : RdB W (w.heap.size + 2) A n c i
 low : Below w.heap.size w W
theorem Bw.grown {w W W' : World} {A : Option Addr} {n c : Nat} {i i' : Int} (h : Bw w W A n c i) (hg : W.grownBy W' (some (w.heap.size + 2))) (hx : RdB W' (w.heap.size + 2) A n c i') : Bw w W' A n c i' :=
 ⟨(hg.block _ (blk_lt h.x4) (by simp)).trans h.x4, (hg.block _ (blk_lt h.x5) (by simp)).trans h.x5, hx, h.low.grown hg h.low.size (fun k e => by injection e with e; omega)⟩
theorem Bw.below {w W W' : World} {A : Option Addr} {n c : Nat} {i : Int} (h : Bw w W A n c i) (hb : Below W.heap.size W W') : Bw w W' A n c i :=
 ⟨(hb.block _ (blk_lt h.x4)).trans h.x4, (hb.block _ (blk_lt h.x5)).trans h.x5, (hb.block _ (blk_lt h.xr)).trans h.xr, h.low.trans (hb.mono h.low.size)⟩
theorem Bw.set {w W : World} {A : Option Addr} {n c : Nat} {i : Int} (h : Bw w W A n c i) (g j : Nat) (v : Value) (hg : w.heap.size + 2 < g) : Bw w (W.setCell ⟨g, j, none⟩ v) A n c i :=
 ⟨(Below.heap_setCell _ _ _ _ (show w.heap.size ≠ g by omega)).trans h.x4, (Below.heap_setCell _ _ _ _ (show w.heap.size + 1 ≠ g by omega)).trans h.x5, (Below.heap_setCell _ _ _ _ (show w.heap.size + 2 ≠ g by omega)).trans h.xr, h.low.setCell (p := ⟨g, j, none⟩) (show w.heap.size ≤ g by omega) _⟩
theorem Bw.fail {w W : World} {A : Option Addr} {n c : Nat} {i gen : Int} {res : Option BookT} {tmps : Array Value} (h : Bw w W A n c i) (hr : none = res) (t4 : tmps[4]?.getD undef = .pointer (some ⟨w.heap.size, 0, none⟩)) (t5 : tmps[5]?.getD undef = .pointer (some ⟨w.heap.size + 1, 0, none⟩)) :
  bodyPostD Tryz.prog Tryz.f19 (BookPost res gen w) (Exit.panic chainP) { tmps := tmps, defers := [{ target := .fn (.func 51) #[.pointer (some ⟨w.heap.size, 0, none⟩), .pointer (some ⟨w.heap.size + 1, 0, none⟩)], args := #[] }] } W :=
 book_fail h.x4 h.x5 (by omega) t4 t5 fun W' hb => ⟨h.low.trans (hb _ (Nat.le_refl _) (by omega) h.low.size), (fun _ => rfl), fun _ _ _ _ _ e => by rw [← hr] at e; cases e⟩
theorem Bw.failG {w W W' : World} {A : Option Addr} {n c : Nat} {i gen : Int} {res : Option BookT} {tmps : Array Value} (h : Bw w W A n c i) (hg : W.grownBy W' (some (w.heap.size + 2))) (hr : none = res) (t4 : tmps[4]?.getD undef = .pointer (some ⟨w.heap.size, 0, none⟩)) (t5 : tmps[5]?.getD undef = .pointer (some ⟨w.heap.size + 1, 0, none⟩)) :
  bodyPostD Tryz.prog Tryz.f19 (BookPost res gen w) (Exit.panic chainP) { tmps := tmps, defers := [{ target := .fn (.func 51) #[.pointer (some ⟨w.heap.size, 0, none⟩), .pointer (some ⟨w.heap.size + 1, 0, none⟩)], args := #[] }] } W' :=
 book_fail ((hg.block _ (blk_lt h.x4) (by simp)).trans h.x4) ((hg.block _ (blk_lt h.x5) (by simp)).trans h.x5) (by omega) t4 t5 fun W2 hb =>
  ⟨(h.low.grown hg h.low.size (fun k e => by injection e with e; omega)).trans (hb _ (Nat.le_refl _) (by omega) (Nat.le_trans h.low.size hg.size)), (fun _ => rfl), fun _ _ _ _ _ e => by rw [← hr] at e; cases e⟩
theorem R_set {α : Type} {d : Kd α} {e base : Nat} {w : World} {ok : Nat → Prop} {v : Value} {xs : List α} (h : Kd.R d e w base ok v xs) {g t : Nat} {cells : Array Value} (hb : w.heap[g]? = some (.cells cells t (0, 0))) (ht : ∀ q, q ∈ e :: d.E → q ≠ t) (i : Nat) (u : Value) :
  Kd.R d e (w.setCell ⟨g, i, none⟩ u) base (fun _ => True) v xs := Kd.R_mono (Kd.R_far (p := ⟨g, i, none⟩) (Kd.R_types h hb ht) (fun k hk => hk.2) u) (fun _ _ => trivial)
theorem volsF_pos (b : List Int) (next : Int) : ∀ (m : Nat) (i last : Int) (out l : List S122) (i' : Int), volsF b next m i last out = some (l, i') → i ≤ i' ∧ l.length ≤ 20
 | 0, i, last, out, l, i', h => by
  rw [volsF] at h
  by_cases hc : out.length ≤ 20
  case neg => rw [if_neg hc] at h; cases h
  rw [if_pos hc] at h
  obtain ⟨rfl, rfl⟩ := Prod.mk.inj (Option.some.inj h)
  exact ⟨Int.le_refl _, hc⟩
 | m + 1, i, last, out, l, i', h => by
  rw [volsF] at h
  by_cases h6 : i + 6 ≤ (b.length : Int)
  case neg => rw [if_neg h6] at h; cases h
  rw [if_pos h6] at h
  by_cases hc : last < lev b i 4 ∧ lev b i 4 < next
  case neg => rw [if_neg hc] at h; cases h
  rw [if_pos hc] at h
  have := volsF_pos b next m _ _ _ l i' h
  exact ⟨by omega, this.2⟩
theorem volsR_pos {b : List Int} {next i : Int} {l : List S122} {i' : Int} (h : volsR b next i = some (l, i')) : i ≤ i' ∧ l.length ≤ 20 := by
 unfold volsR at h
 by_cases h1 : i + 1 ≤ (b.length : Int)
 case neg => rw [if_neg h1] at h; cases h
 rw [if_pos h1] at h
 have := volsF_pos b next _ _ _ _ l i' h
 exact ⟨by omega, this.2⟩
structure Bt (w W : World) (A : Option Addr) (nb c : Nat) (i : Int) (b8 g b11 : Nat) (v1 v2 : Value) (vs : List S122) (ts : List (Nat × Nat)) (next gen : Int) (n keep : Nat) (refs : List Int) : Prop where
 bw : Bw w W A nb c i
 h8 : W.heap[b8]? = some (.cells #[.slice none 0 0, .int .i64 0, v1, v2, .int .i64 next, .int .i64 gen] 34 (0, 0))
 h11 : W.heap[b11]? = some (.cells #[.slice (some ⟨g, 0, none⟩) n n, .int .i64 keep] 30 (0, 0))
 hg : W.heap[g]? = some (.cells (cellsA refs) 65 (0, 0))
 hv : Kd.R k122 122 W w.heap.size (fun _ => True) v1 vs
 ht : Kd.R kc 79 W w.heap.size (fun _ => True) v2 ts
section
variable {w W W' : World} {A : Option Addr} {nb c : Nat} {i i' : Int} {b8 g b11 : Nat} {v1 v2 : Value} {vs : List S122} {ts : List (Nat × Nat)} {next gen : Int} {n keep : Nat} {refs : List Int}
theorem Bt.below (h : Bt w W A nb c i b8 g b11 v1 v2 vs ts next gen n keep refs) (hb : Below W.heap.size W W') : Bt w W' A nb c i b8 g b11 v1 v2 vs ts next gen n keep refs :=
 ⟨h.bw.below hb, (hb.block _ (blk_lt h.h8)).trans h.h8, (hb.block _ (blk_lt h.h11)).trans h.h11, (hb.block _ (blk_lt h.hg)).trans h.hg, Kd.R_below h.hv hb, Kd.R_below h.ht hb⟩
theorem Bt.grown (h : Bt w W A nb c i b8 g b11 v1 v2 vs ts next gen n keep refs) (h1 : w.heap.size + 2 < b8) (h2 : b8 < g) (h3 : g < b11) (hg : W.grownBy W' (some (w.heap.size + 2))) (hx : RdB W' (w.heap.size + 2) A nb c i') : Bt w W' A nb c i' b8 g b11 v1 v2 vs ts next gen n keep refs :=
 ⟨h.bw.grown hg hx, (hg.block _ (blk_lt h.h8) (fun e => by injection e with e; omega)).trans h.h8, (hg.block _ (blk_lt h.h11) (fun e => by injection e with e; omega)).trans h.h11, (hg.block _ (blk_lt h.hg) (fun e => by injection e with e; omega)).trans h.hg,
  Kd.R_mono (Kd.R_grown (Kd.R_types h.hv h.bw.xr (by decide)) hg (fun k hk e => hk.2 (Option.some.inj e))) (fun _ _ => trivial),
  Kd.R_mono (Kd.R_grown (Kd.R_types h.ht h.bw.xr (by decide)) hg (fun k hk e => hk.2 (Option.some.inj e))) (fun _ _ => trivial)⟩
theorem Bt.put (h : Bt w W A nb c i b8 g b11 v1 v2 vs ts next gen n keep refs) (h1 : w.heap.size + 2 < b8) (h2 : b8 < g) (h3 : g < b11) (j : Nat) (hj : j < refs.length) (r : Int) : Bt w (W.setCell ⟨g, j * 4, none⟩ (.int .i64 r)) A nb c i b8 g b11 v1 v2 vs ts next gen n keep (refs.set j r) :=
 ⟨h.bw.set g (j * 4) _ (by omega), (Below.heap_setCell _ _ _ _ (show b8 ≠ g by omega)).trans h.h8, (Below.heap_setCell _ _ _ _ (show b11 ≠ g by omega)).trans h.h11, blk_put h.hg (j * 4) _ (cellsA_set refs j hj r), R_set h.hv h.hg (by decide) _ _, R_set h.ht h.hg (by decide) _ _⟩
theorem Bt.cell (h : Bt w W A nb c i b8 g b11 v1 v2 vs ts next gen n keep refs) (j : Nat) (hj : j < refs.length) : W.cell? ⟨g, j * 4, none⟩ = some (.int .i64 (rd refs (j : Nat))) := by
 rw [blk_cell h.hg (j * 4)]
 exact (cellsA_at refs j 0 hj (by decide)).trans rfl
end
theorem take_step {rs : List Int} {j n : Nat} {r : Int} (h : rs[j]? = some r) (hj : j < n) (hn : rs.length = n) : (rs.take j ++ List.replicate (n - j) 0).set j r = rs.take (j + 1) ++ List.replicate (n - (j + 1)) 0 := by
 have hl : (rs.take j).length = j := by rw [List.length_take]; omega
 rw [List.set_append_right _ _ (by omega), hl, Nat.sub_self, show n - j = (n - (j + 1)) + 1 by omega, List.replicate_succ, List.set_cons_zero, List.take_add_one, h]
 simp
theorem roots_walk (A0 A A3 : Option Addr) (n0 c0 c n3 c3 : Nat) (a1 a4 a5 : Int) (l : List S122) (w : World) (hr : Kd.C k122 w A l.length l) (hl : l.length < 1000000) :
  Calls Tryz.prog 39 #[.agg #[.slice A0 n0 c0, .int .i64 a1, .slice A l.length c, .slice A3 n3 c3, .int .i64 a4, .int .i64 a5]] w fun e w' => ∃ v0_ : Value, e = .returned v0_ ∧ Kd.R (Kd.int .i64) 3 w' w.heap.size (fun _ => True) v0_ (rootsL l) ∧ Below w.heap.size w w' := by
 have hu34 := Tryz.underlying34
 have HM := Zk (fun W hr => mapped_walk A c l W hr hl)
 have HR := Zk hr
 clear hr
 go_enter Tryz.func39, Tryz.ntmps39
 go_wp2_with fail
 have hba : Below w.heap.size w (w.alloc (.cells #[.slice A0 n0 c0, .int .i64 a1, .slice A l.length c, .slice A3 n3 c3, .int .i64 a4, .int .i64 a5] 34)) := (Below.refl _ w).alloc (Nat.le_refl _) _
 refine (HM.out _ (Kd.C_below HR.out hba)).mono ?_
 rintro e w2 ⟨v, rfl, hv, hb⟩
 go_wp2
 go_ret
 exact ⟨_, rfl, Kd.R_lower hv hba.size, below_step hba hb⟩
theorem all_step {rs : List Int} {vs : List S122} {k : Nat} (h : (vs.take k).all (rootOk rs) = true) (hk : k < vs.length) (h1 : rootOk rs (vs[k]) = true) : (vs.take (k + 1)).all (rootOk rs) = true := by
 rw [List.take_add_one, List.getElem?_eq_getElem hk, List.all_append, h]
 simp [h1]
theorem all_fail {rs : List Int} {vs : List S122} {k : Nat} (hk : k < vs.length) (h1 : rootOk rs (vs[k]) = false) : ¬ (vs.all (rootOk rs) = true) := fun h => by
 have := List.all_eq_true.1 h _ (List.getElem_mem hk)
 rw [h1] at this; cases this
theorem rootsL_at {vs : List S122} {k : Nat} (hk : k < vs.length) : rd (rootsL vs) (k : Nat) = (vs[k]).f1 := by
 unfold rootsL rd
 rw [Int.toNat_natCast, List.getD_eq_getElem?_getD, List.getElem?_map, List.getElem?_eq_getElem hk]
 rfl
abbrev six (W : World) (b : Nat) (v0 v1 v2 v3 v4 v5 : Value) : World :=
 (((((W.setCell ⟨b, 0, none⟩ v0).setCell ⟨b, 1, none⟩ v1).setCell ⟨b, 2, none⟩ v2).setCell ⟨b, 3, none⟩ v3).setCell ⟨b, 4, none⟩ v4).setCell ⟨b, 5, none⟩ v5
theorem six_at {W : World} {b : Nat} (v0 v1 v2 v3 v4 v5 : Value) (h : W.heap[b]? = some (.cells zeroS 34 (0, 0))) : (six W b v0 v1 v2 v3 v4 v5).heap[b]? = some (.cells #[v0, v1, v2, v3, v4, v5] 34 (0, 0)) :=
 blk_put (blk_put (blk_put (blk_put (blk_put (blk_put h 0 v0 rfl) 1 v1 rfl) 2 v2 rfl) 3 v3 rfl) 4 v4 rfl) 5 v5 rfl
theorem six_far {W : World} {b : Nat} (v0 v1 v2 v3 v4 v5 : Value) {k : Nat} (h : k ≠ b) : (six W b v0 v1 v2 v3 v4 v5).heap[k]? = W.heap[k]? := by
 unfold six
 rw [Below.heap_setCell _ _ _ _ h, Below.heap_setCell _ _ _ _ h, Below.heap_setCell _ _ _ _ h, Below.heap_setCell _ _ _ _ h, Below.heap_setCell _ _ _ _ h, Below.heap_setCell _ _ _ _ h]
theorem six_R {α : Type} {d : Kd α} {e base : Nat} {W : World} {v : Value} {xs : List α} {b : Nat} (v0 v1 v2 v3 v4 v5 : Value) (h : Kd.R d e W base (fun _ => True) v xs) (hb : W.heap[b]? = some (.cells zeroS 34 (0, 0))) (ht : ∀ q, q ∈ e :: d.E → q ≠ 34) :
  Kd.R d e (six W b v0 v1 v2 v3 v4 v5) base (fun _ => True) v xs := by
 unfold six
 exact R_set (R_set (R_set (R_set (R_set (R_set h hb ht 0 v0) (blk_put hb 0 v0 rfl) ht 1 v1) (blk_put (blk_put hb 0 v0 rfl) 1 v1 rfl) ht 2 v2) (blk_put (blk_put (blk_put hb 0 v0 rfl) 1 v1 rfl) 2 v2 rfl) ht 3 v3) (blk_put (blk_put (blk_put (blk_put hb 0 v0 rfl) 1 v1 rfl) 2 v2 rfl) 3 v3 rfl) ht 4 v4) (blk_put (blk_put (blk_put (blk_put (blk_put hb 0 v0 rfl) 1 v1 rfl) 2 v2 rfl) 3 v3 rfl) 4 v4 rfl) ht 5 v5
theorem six_B {w W : World} {b n : Nat} (v0 v1 v2 v3 v4 v5 : Value) (h : Below n w W) (hn : n ≤ b) : Below n w (six W b v0 v1 v2 v3 v4 v5) :=
 (((((h.setCell (p := ⟨b, 0, none⟩) hn v0).setCell (p := ⟨b, 1, none⟩) hn v1).setCell (p := ⟨b, 2, none⟩) hn v2).setCell (p := ⟨b, 3, none⟩) hn v3).setCell (p := ⟨b, 4, none⟩) hn v4).setCell (p := ⟨b, 5, none⟩) hn v5
theorem put_ne {a : Act} {t : Tmp} {v : Value} {k : Nat} (h : t ≠ k) : (a.put (some t) v).tmps[k]?.getD undef = a.tmps[k]?.getD undef := by
 show (a.tmps.setIfInBounds t v)[k]?.getD undef = _
 rw [Array.getElem?_setIfInBounds_ne h]
theorem book_done {w wS : World} {A : Option Addr} {nb c g j : Nat} {i gen next keep : Int} {rs : List Int} {vs : List S122} {ts : List (Nat × Nat)} {v1 v2 : Value} {res : Option BookT} {tmps : Array Value} (HSW : Bw w wS A nb c i) (HSV : Kd.R k122 122 wS w.heap.size (fun _ => True) v1 vs) (HST : Kd.R kc 79 wS w.heap.size (fun _ => True) v2 ts)
  (HSG : wS.heap[g]? = some (.cells (cellsA rs) 65 (0, 0))) (hg : w.heap.size + 2 < g) (hj : rs.length = j) (HE : some (rs, keep, vs, ts, next) = res) (t4 : tmps[4]?.getD undef = .pointer (some ⟨w.heap.size, 0, none⟩)) (t5 : tmps[5]?.getD undef = .pointer (some ⟨w.heap.size + 1, 0, none⟩)) :
  bodyPostD Tryz.prog Tryz.f19 (BookPost res gen w) Exit.ret { tmps := tmps, defers := [{ target := .fn (.func 51) #[.pointer (some ⟨w.heap.size, 0, none⟩), .pointer (some ⟨w.heap.size + 1, 0, none⟩)], args := #[] }] } ((six wS w.heap.size (.slice (some ⟨g, 0, none⟩) j j) (.int .i64 keep) v1 v2 (.int .i64 next) (.int .i64 gen)).setCell ⟨w.heap.size + 1, 0, none⟩ (.int .i64 0)) := by
 have s4 := six_at (.slice (some ⟨g, 0, none⟩) j j) (.int .i64 keep) v1 v2 (.int .i64 next) (.int .i64 gen) HSW.x4
 have s5 := (six_far (.slice (some ⟨g, 0, none⟩) j j) (.int .i64 keep) v1 v2 (.int .i64 next) (.int .i64 gen) (show w.heap.size + 1 ≠ w.heap.size by omega)).trans HSW.x5
 have sg := (six_far (.slice (some ⟨g, 0, none⟩) j j) (.int .i64 keep) v1 v2 (.int .i64 next) (.int .i64 gen) (show g ≠ w.heap.size by omega)).trans HSG
 have sv := six_R (.slice (some ⟨g, 0, none⟩) j j) (.int .i64 keep) v1 v2 (.int .i64 next) (.int .i64 gen) HSV HSW.x4 (by decide)
 have st := six_R (.slice (some ⟨g, 0, none⟩) j j) (.int .i64 keep) v1 v2 (.int .i64 next) (.int .i64 gen) HST HSW.x4 (by decide)
 have sb := six_B (.slice (some ⟨g, 0, none⟩) j j) (.int .i64 keep) v1 v2 (.int .i64 next) (.int .i64 gen) HSW.low (Nat.le_refl _)
 generalize six wS w.heap.size (.slice (some ⟨g, 0, none⟩) j j) (.int .i64 keep) v1 v2 (.int .i64 next) (.int .i64 gen) = wT at s4 s5 sg sv st sb ⊢
 refine book_end ((Below.heap_setCell _ _ _ _ (show w.heap.size ≠ w.heap.size + 1 by omega)).trans s4) (blk_put (cs' := #[.int .i64 0]) s5 0 _ rfl) t4 t5 (fun W' hb => ?_)
 have hRV := Kd.R_below (R_set sv s5 (by decide) 0 (.int .i64 0)) hb
 have hRT := Kd.R_below (R_set st s5 (by decide) 0 (.int .i64 0)) hb
 have sg2 : (wT.setCell ⟨w.heap.size + 1, 0, none⟩ (.int .i64 0)).heap[g]? = _ := (Below.heap_setCell _ _ _ _ (show g ≠ w.heap.size + 1 by omega)).trans sg
 have sb2 := sb.setCell (p := ⟨w.heap.size + 1, 0, none⟩) (Nat.le_succ _) (.int .i64 0)
 refine ⟨below_step sb2 hb, (fun e => by rw [← HE] at e; cases e), fun refs' keep' vs' ts' next' e => ?_⟩
 rw [← HE] at e
 simp only [Option.some.injEq, Prod.mk.injEq] at e
 obtain ⟨rfl, rfl, rfl, rfl, rfl⟩ := e
 rw [hj]
 exact ⟨g, _, _, rfl, by omega, (hb.block _ (blk_lt sg2)).trans sg2, hRV, hRT⟩
theorem book_walk (A : Option Addr) (c : Nat) (b : List Int) (gen : Int) (w : World) (hb : bytesB b) (hr : Kd.C (Kd.int .u8) w A b.length b) (hc : b.length ≤ c)
  (hT : ∀ i : Int, 0 ≤ i → ∃ ts i' er, todo_Parse.f 100000 b i 65536 = some (ts, i', er) ∧ (er = 0 → 0 ≤ i' ∧ okTs ts = true ∧ ts.length ≤ 500)) :
  Calls Tryz.prog 19 #[.slice A b.length c, .int .i64 gen] w (BookPost (bookF b) gen w) := by
 have hmf : ∀ (fn : Fn) (first cap : Array Value) (w : World), (Instr.makeFunc fn first cap).run Tryz.prog w = .ok (.func fn first cap) w := fun _ _ _ _ => rfl
 obtain ⟨res, hres⟩ : ∃ res, bookF b = res := ⟨_, rfl⟩
 rw [hres]
 have HRES := Zk hres
 have HT := Zk hT
 have HBB := Zk hb
 have HR := Zk hr
 have HC := Zk hc
 clear hb hr hT hres
 obtain ⟨w1, hw1⟩ : ∃ w1, ((w.alloc (.cells zeroS 34)).alloc (.cells #[.int .i64 0] 35)).alloc (.cells #[.slice A b.length c, .int .i64 0] 105) = w1 := ⟨_, rfl⟩
 have HW1 : Aside0 (Bw w w1 A b.length c 0) := by
  rw [← hw1]
  refine ⟨⟨blk_alloc (blk_alloc (alloc_new w _) _) _, ?_, ?_, (((Below.refl _ w).alloc (Nat.le_refl _) _).alloc (by simp) _).alloc (by simp; omega) _⟩⟩
  ·have := alloc_new (w.alloc (.cells zeroS 34)) (.cells #[.int .i64 0] 35)
   rw [World.size_alloc] at this
   exact blk_alloc this _
  ·have := alloc_new ((w.alloc (.cells zeroS 34)).alloc (.cells #[.int .i64 0] 35)) (.cells #[.slice A b.length c, .int .i64 0] 105)
   rwa [World.size_alloc, World.size_alloc] at this
 by_cases h4 : 4 ≤ b.length
 case neg =>
  have HN := Zk (number_no (w.heap.size + 2) A c b 0 4 w1 HBB.out (Kd.C_below HR.out HW1.out.low) HC.out HW1.out.xr (by omega) (by omega) (by omega) (by omega))
  have HE : Aside0 (none = res) := ⟨by rw [← HRES.out]; unfold bookF; rw [if_neg h4]⟩
  go_enter_defers Tryz.func19, Tryz.ntmps19
  go_wp2_with fail
  refine HN.out.mono ?_
  rintro e w2 ⟨rfl, hg2⟩
  exact HW1.out.failG hg2 HE.out rfl rfl
 have HN := Zk (number_yes (w.heap.size + 2) A c b 0 4 w1 HBB.out (Kd.C_below HR.out HW1.out.low) HC.out HW1.out.xr (by omega) (by omega) (by omega) (by omega))
 go_enter_defers Tryz.func19, Tryz.ntmps19
 have hnb := levB HBB.out 0 4
 have hres : (if 1 ≤ lev b 0 4 ∧ lev b 0 4 ≤ 2147483647 then (volsR b (lev b 0 4) 4).bind fun r => bookT b (lev b 0 4) r.1 r.2 else none) = res := by rw [← HRES.out]; unfold bookF; rw [if_pos h4]
 obtain ⟨next, hnext⟩ : ∃ next, lev b 0 4 = next := ⟨_, rfl⟩
 rw [hnext] at HN hnb hres
 clear hnext HRES
 go_wp2_with fail
 refine HN.out.mono ?_
 rintro e w2 ⟨rfl, hx2, hg2⟩
 have HW2 := Zk (HW1.out.grown hg2 hx2)
 rw [show (0 : Int) + 4 = 4 from rfl] at HW2
 clear hx2 hg2 HN HW1 hw1
 have HMY := must_yes (w.heap.size + 2)
 have HMN := must_no (w.heap.size + 2)
 by_cases hnx : 1 ≤ next ∧ next ≤ 2147483647
 case neg =>
  rw [if_neg hnx] at hres
  have HE := Zk hres
  clear hres
  by_cases hn1 : 1 ≤ next
  case neg =>
   clear hnx
   go_wp2_with fail
   refine (HMN _).mono ?_
   rintro e w2' ⟨rfl, hw2'⟩
   obtain rfl := hw2'.symm
   exact HW2.out.fail HE.out rfl rfl
  have hn2 : ¬ next ≤ 2147483647 := fun h => hnx ⟨hn1, h⟩
  have hd2 : decide (next ≤ 2147483647) = false := decide_eq_false hn2
  clear hnx
  go_wp2_with fail
  refine (HMN _).mono ?_
  rintro e w2' ⟨rfl, hw2'⟩
  obtain rfl := hw2'.symm
  exact HW2.out.fail HE.out rfl rfl
 rw [if_pos hnx] at hres
 obtain ⟨hn1, hn2⟩ := hnx
 have HRES := Zk hres
 clear hres
 go_wp2_with fail
 refine (HMY _).mono ?_
 rintro e w2' ⟨rfl, hw2'⟩
 obtain rfl := hw2'.symm
 clear hw2'
 obtain ⟨w3, hw3⟩ : ∃ w3, w2.alloc (.cells #[.slice none 0 0, .int .i64 0, .slice none 0 0, .slice none 0 0, .int .i64 next, .int .i64 gen] 34) = w3 := ⟨_, rfl⟩
 have HW3 : Aside0 (Bw w w3 A b.length c 4) := ⟨by rw [← hw3]; exact HW2.out.below ((Below.refl _ w2).alloc (Nat.le_refl _) _)⟩
 obtain ⟨b8, hb8⟩ : ∃ b8, w2.heap.size = b8 := ⟨_, rfl⟩
 have H8 : Aside0 (w3.heap[b8]? = some (.cells #[.slice none 0 0, .int .i64 0, .slice none 0 0, .slice none 0 0, .int .i64 next, .int .i64 gen] 34 (0, 0))) := ⟨by rw [← hw3, ← hb8]; exact alloc_new _ _⟩
 have G8 : Aside0 (w.heap.size + 2 < b8) := ⟨by rw [← hb8]; exact blk_lt HW2.out.xr⟩
 have hA : ∀ ad, A = some ad → ad.block ≠ w.heap.size + 2 := fun ad e => by
  obtain ⟨ad', e', hx⟩ := Kd.at_int HR.out 0 (by omega) (by omega)
  have := World.block_lt_of_cell? w _ hx
  rw [add_block] at this
  have e2 : ad = ad' := Option.some.inj (e.symm.trans e')
  rw [e2]; omega
 have HV := Zk (vols_walk (w.heap.size + 2) A c b next 4 w3 HBB.out (Kd.C_below HR.out HW3.out.low) hA HC.out HW3.out.xr (by omega))
 clear HW2 hA
 go_wp2_with fail
 refine HV.out.mono ?_
 rintro e w4 ⟨hg4, hs4, hf4⟩
 obtain ⟨vr, hvr⟩ : ∃ vr, volsR b next 4 = vr := ⟨_, rfl⟩
 have hres := HRES.out
 rw [hvr] at hs4 hf4 hres
 rcases vr with _ | ⟨vs, i1⟩
 ·obtain rfl := hf4 rfl
  exact HW3.out.failG hg4 hres rfl rfl
 obtain ⟨v1, rfl, hv1, hx4⟩ := hs4 vs i1 rfl
 replace hres : bookT b next vs i1 = res := hres
 have HRS := Zk hres
 obtain ⟨hi1, hvl⟩ := volsR_pos hvr
 have HW4 := Zk (HW3.out.grown hg4 hx4)
 have H84 := Zk ((hg4.block b8 (blk_lt H8.out) (fun e => by injection e with e; have := G8.out; omega)).trans H8.out)
 have HV1 := Zk (Kd.R_lower hv1 HW3.out.low.size)
 clear hres HRES hf4 hs4 hvr hg4 hx4 hv1 HW3 H8 HV hw3
 obtain ⟨Av, cv, rfl, -, -⟩ := Kd.R_reads HV1.out
 obtain ⟨w5, hw5⟩ : ∃ w5, w4.setCell ⟨b8, 2, none⟩ (.slice Av vs.length cv) = w5 := ⟨_, rfl⟩
 have f82 := blk_frozen H84.out 2
 have c82 : w4.cell? ⟨b8, 2, none⟩ = some (.slice none 0 0) := (blk_cell H84.out 2).trans rfl
 have HW5 : Aside0 (Bw w w5 A b.length c i1) := ⟨by rw [← hw5]; exact HW4.out.set b8 2 _ G8.out⟩
 have H85 : Aside0 (w5.heap[b8]? = some (.cells #[.slice none 0 0, .int .i64 0, .slice Av vs.length cv, .slice none 0 0, .int .i64 next, .int .i64 gen] 34 (0, 0))) := ⟨by rw [← hw5]; exact blk_put H84.out 2 _ rfl⟩
 have HV5 : Aside0 (Kd.R k122 122 w5 w.heap.size (fun k => True) (.slice Av vs.length cv) vs) := ⟨by
  rw [← hw5]
  exact R_set HV1.out H84.out (by decide) 2 _⟩
 obtain ⟨ts, i2, er, hto, htok⟩ := HT.out i1 (by omega)
 have hbt : (if er = 0 then bookC b next vs ts i2 else none) = res := by
  have := HRS.out
  unfold bookT at this
  rw [hto] at this
  exact this
 clear HRS HT HW4 H84 HV1
 by_cases her : er = 0
 case neg =>
  rw [if_neg her] at hbt
  have HE := Zk hbt
  have HTK := Zk (tasks_no (w.heap.size + 2) A c b i1 w5 100000 ts i2 er (Kd.C_below HR.out HW5.out.low) HC.out HW5.out.xr hto her)
  clear hto hbt her htok
  go_wp2_with fail
  refine HTK.out.mono ?_
  rintro e w6 ⟨rfl, hg6⟩
  exact HW5.out.failG hg6 HE.out rfl rfl
 subst her
 rw [if_pos rfl] at hbt
 obtain ⟨hi2, hok, htl⟩ := htok rfl
 have HTK := Zk (tasks_yes (w.heap.size + 2) A c b i1 w5 100000 ts i2 (Kd.C_below HR.out HW5.out.low) HC.out HW5.out.xr hto)
 have HBC := Zk hbt
 have HOK := Zk hok
 have HTL := Zk htl
 clear hto hbt hok htl htok
 go_wp2_with fail
 refine HTK.out.mono ?_
 rintro e w6 ⟨v2, rfl, hv2, hx6, hg6⟩
 have HW6 := Zk (HW5.out.grown hg6 hx6)
 have H86 := Zk ((hg6.block b8 (blk_lt H85.out) (fun e => by injection e with e; have := G8.out; omega)).trans H85.out)
 have HV6 := Zk (Kd.R_grown (Kd.R_types HV5.out HW5.out.xr (by decide)) hg6 (fun k hk e => hk.2 (Option.some.inj e)))
 have HT6 := Zk (Kd.R_lower hv2 HW5.out.low.size)
 clear hv2 hx6 hg6 HTK HW5 H85 HV5 hw5 f82 c82
 obtain ⟨At, ct, rfl, -, -⟩ := Kd.R_reads HT6.out
 obtain ⟨w7, hw7⟩ : ∃ w7, w6.setCell ⟨b8, 3, none⟩ (.slice At ts.length ct) = w7 := ⟨_, rfl⟩
 have f83 := blk_frozen H86.out 3
 have c83 : w6.cell? ⟨b8, 3, none⟩ = some (.slice none 0 0) := (blk_cell H86.out 3).trans rfl
 have HW7 : Aside0 (Bw w w7 A b.length c i2) := ⟨by rw [← hw7]; exact HW6.out.set b8 3 _ G8.out⟩
 have H87 : Aside0 (w7.heap[b8]? = some (.cells #[.slice none 0 0, .int .i64 0, .slice Av vs.length cv, .slice At ts.length ct, .int .i64 next, .int .i64 gen] 34 (0, 0))) := ⟨by rw [← hw7]; exact blk_put H86.out 3 _ rfl⟩
 have HV7 : Aside0 (Kd.R k122 122 w7 w.heap.size (fun k => True) (.slice Av vs.length cv) vs) := ⟨by rw [← hw7]; exact R_set HV6.out H86.out (by decide) 3 _⟩
 have HT7 : Aside0 (Kd.R kc 79 w7 w.heap.size (fun k => True) (.slice At ts.length ct) ts) := ⟨by rw [← hw7]; exact R_set HT6.out H86.out (by decide) 3 _⟩
 clear HW6 H86 HV6 HT6
 have hbc := HBC.out
 unfold bookC at hbc
 by_cases hk4 : i2 + 4 ≤ (b.length : Int)
 case neg =>
  rw [if_neg hk4] at hbc
  have HE := Zk hbc
  clear hbc HBC
  by_cases hk2 : i2 + 2 ≤ (b.length : Int)
  case neg =>
   have HN1 := Zk (number_no (w.heap.size + 2) A c b i2 2 w7 HBB.out (Kd.C_below HR.out HW7.out.low) HC.out HW7.out.xr (by omega) (by omega) hi2 (by omega))
   go_wp2_with fail
   refine HN1.out.mono ?_
   rintro e w8 ⟨rfl, hg8⟩
   exact HW7.out.failG hg8 HE.out rfl rfl
  have HN1 := Zk (number_yes (w.heap.size + 2) A c b i2 2 w7 HBB.out (Kd.C_below HR.out HW7.out.low) HC.out HW7.out.xr (by omega) (by omega) hi2 hk2)
  have HN2 := Zk (fun W (hW : Bw w W A b.length c (i2 + 2)) => number_no (w.heap.size + 2) A c b (i2 + 2) 2 W HBB.out (Kd.C_below HR.out hW.low) HC.out hW.xr (by omega) (by omega) (by omega) (by omega))
  go_wp2_with fail
  refine HN1.out.mono ?_
  rintro e w8 ⟨rfl, hx8, hg8⟩
  have HW8 := Zk (HW7.out.grown hg8 hx8)
  clear hx8 hg8 HN1 HW7 H87 HV7 HT7 hw7 f83 c83
  go_wp2_with fail
  refine (HN2.out _ HW8.out).mono ?_
  rintro e w9 ⟨rfl, hg9⟩
  exact HW8.out.failG hg9 HE.out rfl rfl
 rw [if_pos hk4] at hbc
 have HN1 := Zk (number_yes (w.heap.size + 2) A c b i2 2 w7 HBB.out (Kd.C_below HR.out HW7.out.low) HC.out HW7.out.xr (by omega) (by omega) hi2 (by omega))
 have HN2 := Zk (fun W (hW : Bw w W A b.length c (i2 + 2)) => number_yes (w.heap.size + 2) A c b (i2 + 2) 2 W HBB.out (Kd.C_below HR.out hW.low) HC.out hW.xr (by omega) (by omega) (by omega) (by omega))
 have l1 := levB HBB.out i2 2
 have l2 := levB HBB.out (i2 + 2) 2
 obtain ⟨keep, hkeep⟩ : ∃ k, lev b i2 2 = k := ⟨_, rfl⟩
 obtain ⟨n, hn⟩ : ∃ k, lev b (i2 + 2) 2 = k := ⟨_, rfl⟩
 rw [hkeep] at l1 HN1 hbc
 rw [hn] at l2 HN2 hbc
 have HBC2 := Zk hbc
 clear hbc HBC hkeep hn
 go_wp2_with fail
 refine HN1.out.mono ?_
 rintro e w8 ⟨rfl, hx8, hg8⟩
 have HW8 := Zk (HW7.out.grown hg8 hx8)
 have H88 := Zk ((hg8.block b8 (blk_lt H87.out) (fun e => by injection e with e; have := G8.out; omega)).trans H87.out)
 have HV8 := Zk (Kd.R_mono (Kd.R_grown (Kd.R_types HV7.out HW7.out.xr (by decide)) hg8 (fun k hk e => hk.2 (Option.some.inj e))) (ok' := fun _ => True) (fun _ _ => trivial))
 have HT8 := Zk (Kd.R_mono (Kd.R_grown (Kd.R_types HT7.out HW7.out.xr (by decide)) hg8 (fun k hk e => hk.2 (Option.some.inj e))) (ok' := fun _ => True) (fun _ _ => trivial))
 clear hx8 hg8 HN1 HW7 H87 HV7 HT7 hw7 f83 c83
 go_wp2_with fail
 refine (HN2.out _ HW8.out).mono ?_
 rintro e w9 ⟨rfl, hx9, hg9⟩
 have HW9 := Zk (HW8.out.grown hg9 hx9)
 rw [show i2 + 2 + 2 = i2 + 4 by omega] at HW9
 have H89 := Zk ((hg9.block b8 (blk_lt H88.out) (fun e => by injection e with e; have := G8.out; omega)).trans H88.out)
 have HV9 := Zk (Kd.R_mono (Kd.R_grown (Kd.R_types HV8.out HW8.out.xr (by decide)) hg9 (fun k hk e => hk.2 (Option.some.inj e))) (ok' := fun _ => True) (fun _ _ => trivial))
 have HT9 := Zk (Kd.R_mono (Kd.R_grown (Kd.R_types HT8.out HW8.out.xr (by decide)) hg9 (fun k hk e => hk.2 (Option.some.inj e))) (ok' := fun _ => True) (fun _ _ => trivial))
 clear hx9 hg9 HN2 HW8 H88 HV8 HT8
 obtain ⟨n, rfl⟩ : ∃ k : Nat, n = k := ⟨n.toNat, by omega⟩
 obtain ⟨keep, rfl⟩ : ∃ k : Nat, keep = k := ⟨keep.toNat, by omega⟩
 by_cases hgood : 1 ≤ (n : Int) ∧ (n : Int) ≤ 2000 ∧ (keep : Int) ≤ n
 case neg =>
  have hbc := HBC2.out
  rw [if_neg hgood] at hbc
  have HE := Zk hbc
  have HNB := Zk (fun W => newbad_walk n keep (by omega) W)
  clear hbc HBC2 hgood
  go_wp2_with fail
  refine (HNB.out _).mono ?_
  rintro e w10 ⟨rfl, hb10⟩
  have HW10 := Zk (HW9.out.below (hb10.alloc hb10.size (.cells #[.slice none 0 0, .int .i64 0] 30)))
  clear hb10 HW9 H89 HV9 HT9 HNB
  go_wp2_with fail
  refine (HMN _).mono ?_
  rintro e w12' ⟨rfl, hw12⟩
  obtain rfl := hw12.symm
  exact HW10.out.fail HE.out rfl rfl
 obtain ⟨hn1, hn2k, hkn⟩ := hgood
 have HNG := Zk (fun W => newgood_walk n keep (by omega) (by omega) (by omega) W)
 have hbc := HBC2.out
 rw [if_pos ⟨hn1, hn2k, hkn⟩] at hbc
 have HBC3 := Zk hbc
 clear hbc HBC2
 have HTR := Zk (fun W (hr : Kd.C kc W At ts.length ts) (hct : ts.length ≤ ct) => todo_Right.calls At ct ts n (rightC ts n) W hr hct (by unfold todo_Right.f; rw [if_pos ⟨HOK.out, hn1, by omega, by have := HTL.out; omega⟩]))
 go_wp2_with fail
 refine (HNG.out _).mono ?_
 rintro e w10 ⟨rfl, hg10, hb10⟩
 obtain ⟨w11, hw11⟩ : ∃ w11, w10.alloc (.cells #[.slice (some ⟨w9.heap.size + 1, 0, none⟩) n n, .int .i64 keep] 30) = w11 := ⟨_, rfl⟩
 obtain ⟨g, hgg⟩ : ∃ g, w9.heap.size + 1 = g := ⟨_, rfl⟩
 obtain ⟨b11, hb11⟩ : ∃ g, w10.heap.size = g := ⟨_, rfl⟩
 rw [hgg] at hw11 hg10
 have G1 : Aside0 (b8 < g) := ⟨by have := blk_lt H89.out; omega⟩
 have G2 : Aside0 (g < b11) := ⟨by rw [← hb11]; exact blk_lt hg10⟩
 have hb9 : Below w9.heap.size w9 w11 := by rw [← hw11]; exact hb10.alloc hb10.size _
 have HBT : Aside0 (Bt w w11 A b.length c (i2 + 4) b8 g b11 (.slice Av vs.length cv) (.slice At ts.length ct) vs ts next gen n keep (List.replicate n 0)) := ⟨⟨HW9.out.below hb9, (hb9.block _ (blk_lt H89.out)).trans H89.out, by rw [← hw11, ← hb11]; exact alloc_new _ _, by rw [← hw11]; exact blk_alloc hg10 _, Kd.R_below HV9.out hb9, Kd.R_below HT9.out hb9⟩⟩
 clear hb9 HW9 H89 HV9 HT9 hg10 hb10 HNG
 have c83 : w11.cell? ⟨b8, 3, none⟩ = some (.slice At ts.length ct) := (blk_cell HBT.out.h8 3).trans rfl
 go_wp2_with fail
 have hct11 : Kd.C kc w11 At ts.length ts ∧ ts.length ≤ ct := by
  obtain ⟨A', c', e, hct, hC⟩ := Kd.R_reads HBT.out.ht
  cases e
  exact ⟨hC, hct⟩
 refine (HTR.out _ hct11.1 hct11.2).mono ?_
 rintro e w12 ⟨rfl, hb12⟩
 have HBT2 := Zk (HBT.out.below hb12)
 clear HBT hct11 hb12 c83 hw11 HTR hgg hb11
 have hbc := HBC3.out
 by_cases hrc : rightC ts n = true
 case neg =>
  have hrf : rightC ts n = false := by simpa using hrc
  rw [if_neg hrc] at hbc
  rw [hrf]
  have HE := Zk hbc
  go_wp2_with fail
  refine (HMN _).mono ?_
  rintro e w12' ⟨rfl, hw12⟩
  obtain rfl := hw12.symm
  exact HBT2.out.bw.fail HE.out rfl rfl
 rw [if_pos hrc] at hbc
 rw [hrc]
 have HBC4 := Zk hbc
 clear hbc HBC3 hrc
 go_wp2_with fail
 refine (HMY _).mono ?_
 rintro e w12' ⟨rfl, hw12⟩
 obtain rfl := hw12.symm
 clear hw12
 have c11 : w12.cell? ⟨b11, 0, none⟩ = some (.slice (some ⟨g, 0, none⟩) n n) := (blk_cell HBT2.out.h11 0).trans rfl
 obtain ⟨rs, hrs⟩ : ∃ rs, refsF b (i2 + 4) n = rs := ⟨_, rfl⟩
 have HRS : Aside0 (refsF b (i2 + 4) n = rs) := ⟨hrs⟩
 have hbc := HBC4.out
 rw [Int.toNat_natCast, hrs] at hbc
 have HBC5 := Zk hbc
 clear hbc HBC4 hrs
 go_wp2
 clear c11
 go_loopg [63] n (fun kx s63 wr => ∃ j : Nat, s63 = .int .i64 j ∧ j ≤ n ∧ n - j ≤ kx ∧ Aside0 (Bt w wr A b.length c (i2 + 4 + 2 * (j : Nat)) b8 g b11 (.slice Av vs.length cv) (.slice At ts.length ct) vs ts next gen n keep (rs.take j ++ List.replicate (n - j) 0)) ∧ Aside0 (i2 + 4 + 2 * (j : Int) ≤ (b.length : Int)))
 case atStart => exact ⟨0, rfl, Nat.zero_le _, Nat.le_refl _, ⟨by simpa using HBT2.out⟩, ⟨by omega⟩⟩
 case round =>
  obtain ⟨j, rfl, hj, hjk, HB, HFT⟩ := hrel
  by_cases hjn : j < n
  case pos =>
   by_cases hfit : i2 + 4 + 2 * (j : Int) + 2 ≤ (b.length : Int)
   case pos =>
    have HN := Zk (fun W (hW : Bw w W A b.length c (i2 + 4 + 2 * (j : Nat))) => number_yes (w.heap.size + 2) A c b (i2 + 4 + 2 * (j : Nat)) 2 W HBB.out (Kd.C_below HR.out hW.low) HC.out hW.xr (by omega) (by omega) (by omega) hfit)
    have l3 := levB HBB.out (i2 + 4 + 2 * (j : Nat)) 2
    have hlj : rs[j]? = some (lev b (i2 + 4 + 2 * (j : Nat)) 2) := by rw [← HRS.out]; unfold refsF; rw [List.getElem?_map, List.getElem?_range hjn]; rfl
    obtain ⟨r, hr⟩ : ∃ r, lev b (i2 + 4 + 2 * (j : Nat)) 2 = r := ⟨_, rfl⟩
    rw [hr] at HN l3 hlj
    have HLJ := Zk hlj
    clear hlj hr
    have c11 : wr.cell? ⟨b11, 0, none⟩ = some (.slice (some ⟨g, 0, none⟩) n n) := (blk_cell HB.out.h11 0).trans rfl
    have hjz : (0 : Int) ≤ j := by omega
    have hjn2 : (j : Int) < n := by omega
    have hlt11 := blk_lt HB.out.h11
    go_wp2_with fail
    have HBd := Zk (HB.out.below (below_drew (Below.refl _ wr)))
    have hg1 := G8.out
    have hg2 := G1.out
    have hg3 := G2.out
    have hll : (rs.take j ++ List.replicate (n - j) 0).length = n := by
     have : rs.length = n := by rw [← HRS.out]; unfold refsF; rw [List.length_map, List.length_range]
     rw [List.length_append, List.length_take, List.length_replicate]; omega
    have HLL := Zk hll
    clear hll
    go_region_held3 (fun w' => w'.cell? ⟨b11, 0, none⟩ = some (.slice (some ⟨g, 0, none⟩) n n)) (first | go_keep | exact (cell_far (p := ⟨g, j * 4, none⟩) q3 _).trans q0)
     (first | (go_at_call 52; refine (HN.out _ HBd.out.bw).mono ?_; rintro e w2 ⟨rfl, hx2, hgw⟩; have HB2 := Zk (HBd.out.grown hg1 hg2 hg3 hgw hx2); have q0 : w2.cell? ⟨b11, 0, none⟩ = some (.slice (some ⟨g, 0, none⟩) n n) := (blk_cell HB2.out.h11 0).trans rfl; have q1 := HB2.out.cell j (Nat.lt_of_lt_of_eq hjn HLL.out.symm); have q2 := blk_frozen HB2.out.hg (j * 4); have q3 : b11 ≠ g := (by omega)))
    have HB3 : Aside0 (Bt w (w2.setCell ⟨g, j * 4, none⟩ (.int .i64 r)) A b.length c (i2 + 4 + 2 * ((j + 1 : Nat) : Int)) b8 g b11 (.slice Av vs.length cv) (.slice At ts.length ct) vs ts next gen n keep (rs.take (j + 1) ++ List.replicate (n - (j + 1)) 0)) := ⟨by
     rw [← take_step HLJ.out hjn (by rw [← HRS.out]; unfold refsF; rw [List.length_map, List.length_range]), show i2 + 4 + 2 * ((j + 1 : Nat) : Int) = i2 + 4 + 2 * (j : Nat) + 2 by omega]
     exact HB2.out.put hg1 hg2 hg3 j (Nat.lt_of_lt_of_eq hjn HLL.out.symm) r⟩
    generalize w2.setCell ⟨g, j * 4, none⟩ (.int .i64 r) = w3 at HB3 ⊢
    clear hx2 hgw HB2 q0 q1 q2 q3 HB HBd c11
    go_wp2
    go_roundg (n - (j + 1))
    case measure => exact (show n - (j + 1) < gk by omega)
    case rel => exact ⟨j + 1, rfl, by omega, Nat.le_refl _, HB3, ⟨by omega⟩⟩
   have HE : Aside0 (none = res) := ⟨by rw [← HBC5.out, if_neg (by omega)]⟩
   have HBd := Zk (HB.out.below (below_drew (Below.refl _ wr)))
   have HN := Zk (number_no (w.heap.size + 2) A c b (i2 + 4 + 2 * (j : Nat)) 2 wr.drew HBB.out (Kd.C_below HR.out HBd.out.bw.low) HC.out HBd.out.bw.xr (by omega) (by omega) (by omega) (by omega))
   have c11 : wr.cell? ⟨b11, 0, none⟩ = some (.slice (some ⟨g, 0, none⟩) n n) := (blk_cell HB.out.h11 0).trans rfl
   have c11d : wr.drew.cell? ⟨b11, 0, none⟩ = some (.slice (some ⟨g, 0, none⟩) n n) := (blk_cell HBd.out.h11 0).trans rfl
   have hjn2 : (j : Int) < n := by omega
   go_wp2_with fail
   let Qp : Exit → Act → World → Prop := fun e a w' => e = .panic chainP ∧ a.defers = [{ target := .fn (.func 51) #[.pointer (some ⟨w.heap.size, 0, none⟩), .pointer (some ⟨w.heap.size + 1, 0, none⟩)], args := #[] }] ∧ a.tmps[4]?.getD undef = .pointer (some ⟨w.heap.size, 0, none⟩) ∧ a.tmps[5]?.getD undef = .pointer (some ⟨w.heap.size + 1, 0, none⟩) ∧ wr.grownBy w' (some (w.heap.size + 2))
   refine Code.wp_mono (Q := Qp) ?_ ?_
   ·rintro e ⟨tm, df⟩ w' ⟨rfl, rfl, t4, t5, hg⟩
    exact HB.out.bw.failG hg HE.out t4 t5
   have hQ0 : ∀ (c : List PanicEntry) (a : Act) (v : Value) (w : World), Qp (.panic c) (a.put (some 66) v) w → Qp (.panic c) a w := fun c a v w h => ⟨h.1, h.2.1, (put_ne (by decide)).symm.trans h.2.2.1, (put_ne (by decide)).symm.trans h.2.2.2.1, h.2.2.2.2⟩
   have hQ1 : ∀ (c : List PanicEntry) (a : Act) (v : Value) (w : World), Qp (.panic c) (a.put (some 67) v) w → Qp (.panic c) a w := fun c a v w h => ⟨h.1, h.2.1, (put_ne (by decide)).symm.trans h.2.2.1, (put_ne (by decide)).symm.trans h.2.2.2.1, h.2.2.2.2⟩
   have hQ2 : ∀ (c : List PanicEntry) (a : Act) (v : Value) (w : World), Qp (.panic c) (a.put (some 68) v) w → Qp (.panic c) a w := fun c a v w h => ⟨h.1, h.2.1, (put_ne (by decide)).symm.trans h.2.2.1, (put_ne (by decide)).symm.trans h.2.2.2.1, h.2.2.2.2⟩
   have hQ3 : ∀ (c : List PanicEntry) (a : Act) (v : Value) (w : World), Qp (.panic c) (a.put (some 69) v) w → Qp (.panic c) a w := fun c a v w h => ⟨h.1, h.2.1, (put_ne (by decide)).symm.trans h.2.2.1, (put_ne (by decide)).symm.trans h.2.2.2.1, h.2.2.2.2⟩
   refine start_ (n := 8) (S := fun w' => w'.cell? ⟨b11, 0, none⟩ = some (.slice (some ⟨g, 0, none⟩) n n)) (ds := []) #[false, false, false, false, false, false, false, false] (by kernel_rfl) rfl rfl c11d (fun hHeld => ?_)
   refine pure_ (i := 0) (N := some 66) (v := ?_) (a' := ?_) #[true, false, false, false, false, false, false, false] rfl rfl (by kernel_rfl) (fun c a w => hQ0 c a _ w) (Or.inl ⟨by rfl, ?_⟩) ?_ ?_
   rotate_left
   ·intro w'
    go_simp
    with_reducible rfl
   rotate_left
   ·simp only [Act.put, List.setIfInBounds_toArray, List.set_cons_zero, List.set_cons_succ, i64_w, i32_w]
    rfl
   refine take_ (i := 1) (N := some 67) (v := ?_) (a' := ?_) #[true, true, false, false, false, false, false, false] rfl rfl (by kernel_rfl) (fun c a w => hQ1 c a _ w) (Or.inl ⟨by rfl, ?_⟩) hHeld ?_ ?_
   rotate_left
   ·intro w' hs
    go_simp
    with_reducible rfl
   rotate_left
   ·simp only [Act.put, List.setIfInBounds_toArray, List.set_cons_zero, List.set_cons_succ, i64_w, i32_w]
    rfl
   refine pure_ (i := 2) (N := some 68) (v := ?_) (a' := ?_) #[true, true, true, false, false, false, false, false] rfl rfl (by kernel_rfl) (fun c a w => hQ2 c a _ w) (Or.inl ⟨by rfl, ?_⟩) ?_ ?_
   rotate_left
   ·intro w'
    go_simp
    with_reducible rfl
   rotate_left
   ·simp only [Act.put, List.setIfInBounds_toArray, List.set_cons_zero, List.set_cons_succ, i64_w, i32_w]
    rfl
   refine pure_ (i := 3) (N := some 69) (v := ?_) (a' := ?_) #[true, true, true, true, false, false, false, false] rfl rfl (by kernel_rfl) (fun c a w => hQ3 c a _ w) (Or.inl ⟨by rfl, ?_⟩) ?_ ?_
   rotate_left
   ·intro w'
    go_simp
    with_reducible rfl
   rotate_left
   ·simp only [Act.put, List.setIfInBounds_toArray, List.set_cons_zero, List.set_cons_succ, i64_w, i32_w]
    rfl
   refine one_ (i := 4) (N := some 70) #[true, true, true, true, true, false, false, false] rfl rfl (by kernel_rfl) (by decide) (fun K hK => ?_)
   go_simp
   refine HN.out.mono ?_
   rintro e w' ⟨rfl, hg⟩
   exact ⟨rfl, rfl, rfl, rfl, World.grownBy.trans (grown_of_below' (below_drew (Below.refl _ wr)) _) hg⟩
  obtain rfl : j = n := by omega
  have hll : rs.length = j := by rw [← HRS.out]; unfold refsF; rw [List.length_map, List.length_range]
  have HBF : Aside0 (Bt w wr A b.length c (i2 + 4 + 2 * (j : Nat)) b8 g b11 (.slice Av vs.length cv) (.slice At ts.length ct) vs ts next gen j keep rs) := ⟨by
   have := HB.out
   rwa [List.take_of_length_le (by omega), Nat.sub_self, List.replicate_zero, List.append_nil] at this⟩
  have hbc := HBC5.out
  rw [if_pos HFT.out] at hbc
  have HBC6 := Zk hbc
  have HLN := Zk hll
  clear hbc HBC5 HB HRS hll HFT HBT2
  have c80 : wr.cell? ⟨b8, 0, none⟩ = some (.slice none 0 0) := (blk_cell HBF.out.h8 0).trans rfl
  have c81 : wr.cell? ⟨b8, 1, none⟩ = some (.int .i64 0) := (blk_cell HBF.out.h8 1).trans rfl
  have c82 : wr.cell? ⟨b8, 2, none⟩ = some (.slice Av vs.length cv) := (blk_cell HBF.out.h8 2).trans rfl
  have c83 : wr.cell? ⟨b8, 3, none⟩ = some (.slice At ts.length ct) := (blk_cell HBF.out.h8 3).trans rfl
  have c84 : wr.cell? ⟨b8, 4, none⟩ = some (.int .i64 next) := (blk_cell HBF.out.h8 4).trans rfl
  have c85 : wr.cell? ⟨b8, 5, none⟩ = some (.int .i64 gen) := (blk_cell HBF.out.h8 5).trans rfl
  have hu34 := Tryz.underlying34
  have hu30 := Tryz.underlying30
  have hvC : Kd.C k122 wr Av vs.length vs := by
   obtain ⟨A', c', e, hct, hC⟩ := Kd.R_reads HBF.out.hv
   cases e
   exact hC
  have HRO := Zk (roots_walk none Av At 0 0 cv ts.length ct 0 next gen vs wr hvC (by omega))
  clear hvC
  go_wp2_with fail
  refine HRO.out.mono ?_
  rintro e w13 ⟨v3, rfl, hv3, hb13⟩
  have HB13 := Zk (HBF.out.below hb13)
  have HR3 := Zk hv3
  have HW3 := Zk hb13.size
  clear hv3 hb13 HBF HRO c80 c81 c82 c83 c84 c85
  obtain ⟨Ao, co, rfl, -, -⟩ := Kd.R_reads HR3.out
  have hrl : (rootsL vs).length = vs.length := List.length_map _
  go_wp2
  go_loopg [77] vs.length (fun kx s77 wx => ∃ k : Nat, s77 = .int .i64 k ∧ k ≤ vs.length ∧ vs.length - k ≤ kx ∧ wx = w13 ∧ Aside0 ((vs.take k).all (rootOk rs) = true))
  case atStart => exact ⟨0, rfl, Nat.zero_le _, Nat.le_refl _, rfl, ⟨rfl⟩⟩
  case round =>
   obtain ⟨k, rfl, hk, hkk, rfl, HAL⟩ := hrel
   by_cases hkv : k < vs.length
   case pos =>
    obtain ⟨Ao', co', e, hcr, hCr⟩ := Kd.R_reads HR3.out
    cases e
    obtain ⟨ad, rfl, x0⟩ := Kd.at_int hCr (k : Int) (by omega) (by omega)
    rw [Int.toNat_natCast, rootsL_at hkv] at x0
    have hk2 : (k : Int) < ((rootsL vs).length : Int) := by omega
    have hkz : (0 : Int) ≤ k := by omega
    have HROK : Aside0 (rootOk rs vs[k] = (decide ((vs[k]).f1 < (j : Int)) && (decide ((vs[k]).f1 < 0) || decide (0 < rd rs (vs[k]).f1)))) := ⟨by unfold rootOk; rw [HLN.out]⟩
    have HST := Zk (fun h => all_step HAL.out hkv h)
    have HFL : Aside0 (rootOk rs vs[k] = false → none = res) := ⟨fun h => by rw [← HBC6.out, if_neg (all_fail hkv h)]⟩
    obtain ⟨p, hp⟩ : ∃ p, (vs[k]).f1 = p := ⟨_, rfl⟩
    rw [hp] at x0 HROK
    obtain ⟨ok, hok⟩ : ∃ ok, rootOk rs vs[k] = ok := ⟨_, rfl⟩
    rw [hok] at HROK HST HFL
    clear hcr hCr hp hok
    by_cases hp1 : p < (j : Int)
    case neg =>
     rw [decide_eq_false hp1, Bool.false_and] at HROK
     have hp4 : decide (p < (j : Int)) = false := decide_eq_false hp1
     go_wp2_with fail
     refine (HMN _).mono ?_
     rintro e w14 ⟨rfl, hw14⟩
     obtain rfl := hw14.symm
     exact HB13.out.bw.fail (HFL.out HROK.out) rfl rfl
    rw [decide_eq_true hp1, Bool.true_and] at HROK
    by_cases hp2 : p < 0
    case pos =>
     rw [decide_eq_true hp2, Bool.true_or] at HROK
     go_wp2_with fail
     refine (HMY _).mono ?_
     rintro e w14 ⟨rfl, hw14⟩
     obtain rfl := hw14.symm
     clear hw14
     go_wp2
     go_roundg (vs.length - (k + 1))
     case measure => exact (show vs.length - (k + 1) < gk by omega)
     case rel => exact ⟨k + 1, rfl, by omega, Nat.le_refl _, rfl, ⟨HST.out HROK.out⟩⟩
    rw [decide_eq_false hp2, Bool.false_or] at HROK
    obtain ⟨q, rfl⟩ : ∃ q : Nat, p = q := ⟨p.toNat, by omega⟩
    have c11 : wr.cell? ⟨b11, 0, none⟩ = some (.slice (some ⟨g, 0, none⟩) j j) := (blk_cell HB13.out.h11 0).trans rfl
    have cq := HB13.out.cell q (by have := HLN.out; omega)
    obtain ⟨r, hr⟩ : ∃ r, rd rs (q : Nat) = r := ⟨_, rfl⟩
    rw [hr] at cq HROK
    have hqz : (0 : Int) ≤ q := by omega
    by_cases hp3 : 0 < r
    case neg =>
     rw [decide_eq_false hp3] at HROK
     have hp4 : decide (r > 0) = false := decide_eq_false hp3
     go_wp2_with fail
     refine (HMN _).mono ?_
     rintro e w14 ⟨rfl, hw14⟩
     obtain rfl := hw14.symm
     exact HB13.out.bw.fail (HFL.out HROK.out) rfl rfl
    rw [decide_eq_true hp3] at HROK
    go_wp2_with fail
    refine (HMY _).mono ?_
    rintro e w14 ⟨rfl, hw14⟩
    obtain rfl := hw14.symm
    clear hw14
    go_wp2
    go_roundg (vs.length - (k + 1))
    case measure => exact (show vs.length - (k + 1) < gk by omega)
    case rel => exact ⟨k + 1, rfl, by omega, Nat.le_refl _, rfl, ⟨HST.out HROK.out⟩⟩
   obtain rfl : k = vs.length := by omega
   have hk2 : decide ((vs.length : Int) < ((rootsL vs).length : Int)) = false := decide_eq_false (by omega)
   have hk3 : ¬ ((vs.length : Int) < ((rootsL vs).length : Int)) := by omega
   have hbc := HBC6.out
   have hal := HAL.out
   rw [List.take_length] at hal
   rw [if_pos hal] at hbc
   have k0 : wr.cell? ⟨w.heap.size + 2, 0, none⟩ = some (.slice A b.length c) := (blk_cell HB13.out.bw.xr 0).trans rfl
   have k1 : wr.cell? ⟨w.heap.size + 2, 1, none⟩ = some (.int .i64 (i2 + 4 + 2 * (j : Nat))) := (blk_cell HB13.out.bw.xr 1).trans rfl
   by_cases hend : i2 + 4 + 2 * (j : Int) = (b.length : Int)
   case neg =>
    rw [if_neg hend] at hbc
    have hbe : (i2 + 4 + 2 * (j : Int) == (b.length : Int)) = false := by simpa using hend
    have HE := Zk hbc
    clear hbc hal
    go_wp2_with fail
    refine (HMN _).mono ?_
    rintro e w14 ⟨rfl, hw14⟩
    obtain rfl := hw14.symm
    exact HB13.out.bw.fail HE.out rfl rfl
   rw [if_pos hend] at hbc
   have hbe : (i2 + 4 + 2 * (j : Int) == (b.length : Int)) = true := by rw [hend]; simp
   have HE := Zk hbc
   clear hbc hal hend
   go_wp2_with fail
   refine (HMY _).mono ?_
   rintro e w14 ⟨rfl, hw14⟩
   obtain rfl := hw14.symm
   clear hw14
   have hne8 : b8 ≠ w.heap.size := by have := G8.out; omega
   obtain ⟨wS, hwS⟩ : ∃ wS, (wr.setCell ⟨b8, 0, none⟩ (.slice (some ⟨g, 0, none⟩) j j)).setCell ⟨b8, 1, none⟩ (.int .i64 keep) = wS := ⟨_, rfl⟩
   have HS8 : Aside0 (wS.heap[b8]? = some (.cells #[.slice (some ⟨g, 0, none⟩) j j, .int .i64 keep, .slice Av vs.length cv, .slice At ts.length ct, .int .i64 next, .int .i64 gen] 34 (0, 0))) := ⟨by rw [← hwS]; exact blk_put (blk_put HB13.out.h8 0 (.slice (some ⟨g, 0, none⟩) j j) rfl) 1 _ rfl⟩
   have HSW : Aside0 (Bw w wS A b.length c (i2 + 4 + 2 * (j : Nat))) := ⟨by rw [← hwS]; exact (HB13.out.bw.set b8 0 _ G8.out).set b8 1 _ G8.out⟩
   have HSV : Aside0 (Kd.R k122 122 wS w.heap.size (fun _ => True) (.slice Av vs.length cv) vs) := ⟨by rw [← hwS]; exact R_set (R_set HB13.out.hv HB13.out.h8 (by decide) 0 _) (blk_put HB13.out.h8 0 (.slice (some ⟨g, 0, none⟩) j j) rfl) (by decide) 1 _⟩
   have HST2 : Aside0 (Kd.R kc 79 wS w.heap.size (fun _ => True) (.slice At ts.length ct) ts) := ⟨by rw [← hwS]; exact R_set (R_set HB13.out.ht HB13.out.h8 (by decide) 0 _) (blk_put HB13.out.h8 0 (.slice (some ⟨g, 0, none⟩) j j) rfl) (by decide) 1 _⟩
   have HSG : Aside0 (wS.heap[g]? = some (.cells (cellsA rs) 65 (0, 0))) := ⟨by rw [← hwS]; exact (Below.heap_setCell _ _ _ _ (show g ≠ b8 by have := G1.out; omega)).trans ((Below.heap_setCell _ _ _ _ (show g ≠ b8 by have := G1.out; omega)).trans HB13.out.hg)⟩
   have c110 : wr.cell? ⟨b11, 0, none⟩ = some (.slice (some ⟨g, 0, none⟩) j j) := (blk_cell HB13.out.h11 0).trans rfl
   have c111 : wr.cell? ⟨b11, 1, none⟩ = some (.int .i64 keep) := (blk_cell HB13.out.h11 1).trans rfl
   have c80 : wr.cell? ⟨b8, 0, none⟩ = some (.slice none 0 0) := (blk_cell HB13.out.h8 0).trans rfl
   have c81 : wr.cell? ⟨b8, 1, none⟩ = some (.int .i64 0) := (blk_cell HB13.out.h8 1).trans rfl
   have f80 := blk_frozen HB13.out.h8 0
   have f81 := blk_frozen HB13.out.h8 1
   have d80 : wS.cell? ⟨b8, 0, none⟩ = some (.slice (some ⟨g, 0, none⟩) j j) := (blk_cell HS8.out 0).trans rfl
   have e40 : wS.cell? ⟨w.heap.size, 0, none⟩ = some (.slice none 0 0) := (blk_cell HSW.out.x4 0).trans rfl
   have fe40 := blk_frozen HSW.out.x4 0
   have d81 : wS.cell? ⟨b8, 1, none⟩ = some (.int .i64 keep) := (blk_cell HS8.out 1).trans rfl
   have e41 : wS.cell? ⟨w.heap.size, 1, none⟩ = some (.int .i64 0) := (blk_cell HSW.out.x4 1).trans rfl
   have fe41 := blk_frozen HSW.out.x4 1
   have d82 : wS.cell? ⟨b8, 2, none⟩ = some (.slice Av vs.length cv) := (blk_cell HS8.out 2).trans rfl
   have e42 : wS.cell? ⟨w.heap.size, 2, none⟩ = some (.slice none 0 0) := (blk_cell HSW.out.x4 2).trans rfl
   have fe42 := blk_frozen HSW.out.x4 2
   have d83 : wS.cell? ⟨b8, 3, none⟩ = some (.slice At ts.length ct) := (blk_cell HS8.out 3).trans rfl
   have e43 : wS.cell? ⟨w.heap.size, 3, none⟩ = some (.slice none 0 0) := (blk_cell HSW.out.x4 3).trans rfl
   have fe43 := blk_frozen HSW.out.x4 3
   have d84 : wS.cell? ⟨b8, 4, none⟩ = some (.int .i64 next) := (blk_cell HS8.out 4).trans rfl
   have e44 : wS.cell? ⟨w.heap.size, 4, none⟩ = some (.int .i64 0) := (blk_cell HSW.out.x4 4).trans rfl
   have fe44 := blk_frozen HSW.out.x4 4
   have d85 : wS.cell? ⟨b8, 5, none⟩ = some (.int .i64 gen) := (blk_cell HS8.out 5).trans rfl
   have e45 : wS.cell? ⟨w.heap.size, 5, none⟩ = some (.int .i64 0) := (blk_cell HSW.out.x4 5).trans rfl
   have fe45 := blk_frozen HSW.out.x4 5
   have e50 : wS.cell? ⟨w.heap.size + 1, 0, none⟩ = some (.int .i64 0) := (blk_cell HSW.out.x5 0).trans rfl
   have fe50 := blk_frozen HSW.out.x5 0
   go_wp2_with fail
   exact book_done HSW.out HSV.out HST2.out HSG.out (by have := G8.out; have := G1.out; omega) HLN.out HE.out rfl rfl
end
section
def anyO {α : Type} (p : α → Option Bool) (l : List α) : Option Bool := if l.all (fun x => (p x).isSome) = true then some (l.any fun x => (p x).getD false) else none
theorem anyO_mem {α : Type} {p : α → Option Bool} {l : List α} {r : Bool} (h : anyO p l = some r) : r = l.any (fun x => (p x).getD false) ∧ ∀ x ∈ l, p x = some ((p x).getD false) := by
 unfold anyO at h
 by_cases hc : l.all (fun x => (p x).isSome) = true
 case neg => rw [if_neg hc] at h; cases h
 rw [if_pos hc] at h
 refine ⟨(Option.some.inj h).symm, fun x hx => ?_⟩
 have := List.all_eq_true.1 hc x hx
 obtain ⟨v, hv⟩ := Option.isSome_iff_exists.1 this
 rw [hv]; rfl
def badP (h : List S65) (keep : Int) (x : Int) : Option Bool := (tree_Right.f 100000 h keep x).map fun b => !b
def badI (h : List S65) (keep : Int) (x : S84) : Option Bool := badP h keep x.f1
def badT (h : List S65) (keep : Int) (ts : List (Nat × Nat)) (t : Nat × Nat) : Option Bool :=
  if okT t.1 = true ∧ okT t.2 = true then
    (if bk t.1 < (h.length : Int) then
      (if bk t.2 = 0 then badP h keep (bk t.1)
       else if (rd_T65 h (bk t.1)).f2.f0 = true then some true
       else if (rd_T65 h (bk t.1)).f0 = 1 then
         (if (rd_T65 h (bk t.1)).f2.f1.length < 1000000 then
           (audit_Given.f 100000 ts (bk t.1)).bind fun gv => if 0 ≤ gv then anyO (badI h keep) ((rd_T65 h (bk t.1)).f2.f1.drop (min gv ((rd_T65 h (bk t.1)).f2.f1.length : Int)).toNat) else none
          else none)
       else some true)
     else none)
  else none
structure Bm (W : World) (b1 b3 : Nat) (A0 A2 A3 : Option Addr) (c0 c2 c3 : Nat) (l0 : List S65) (l2 : List S122) (l3 : List (Nat × Nat)) (keep next gen : Int) : Prop where
 x1 : W.heap[b1]? = some (.cells #[.slice A0 l0.length c0, .int .i64 keep, .slice A2 l2.length c2, .slice A3 l3.length c3, .int .i64 next, .int .i64 gen] 34 (0, 0))
 x3 : W.heap[b3]? = some (.cells #[.func (.func 31) #[] #[.pointer (some ⟨b1, 0, none⟩)]] 78 (0, 0))
 h0 : Kd.C k65 W A0 l0.length l0
 h2 : Kd.C k122 W A2 l2.length l2
 h3 : Kd.C kc W A3 l3.length l3
section
variable {W W' : World} {b1 b3 : Nat} {A0 A2 A3 : Option Addr} {c0 c2 c3 : Nat} {l0 : List S65} {l2 : List S122} {l3 : List (Nat × Nat)} {keep next gen : Int}
theorem Bm.below (h : Bm W b1 b3 A0 A2 A3 c0 c2 c3 l0 l2 l3 keep next gen) (hb : Below W.heap.size W W') : Bm W' b1 b3 A0 A2 A3 c0 c2 c3 l0 l2 l3 keep next gen :=
 ⟨(hb.block _ (blk_lt h.x1)).trans h.x1, (hb.block _ (blk_lt h.x3)).trans h.x3, Kd.C_below h.h0 hb, Kd.C_below h.h2 hb, Kd.C_below h.h3 hb⟩
end
theorem c31_walk (W : World) (b1 b3 : Nat) (A0 A2 A3 : Option Addr) (c0 c2 c3 : Nat) (l0 : List S65) (l2 : List S122) (l3 : List (Nat × Nat)) (keep next gen : Int) (hB : Bm W b1 b3 A0 A2 A3 c0 c2 c3 l0 l2 l3 keep next gen) (hc0 : l0.length ≤ c0) (x : Int) (r : Bool) (h : badP l0 keep x = some r) :
  Calls Tryz.prog 31 #[.int .i64 x, .pointer (some ⟨b1, 0, none⟩)] W fun e w' => e = .returned (.bool r) ∧ Below W.heap.size W w' := by
 unfold badP at h
 obtain ⟨q, hq, rfl⟩ := Option.map_eq_some_iff.1 h
 have HT := Zk (tree_Right.calls 100000 A0 c0 l0 keep x q W hB.h0 hc0 hq)
 have k0 : W.cell? ⟨b1, 0, none⟩ = some (.slice A0 l0.length c0) := (blk_cell hB.x1 0).trans rfl
 have k1 : W.cell? ⟨b1, 1, none⟩ = some (.int .i64 keep) := (blk_cell hB.x1 1).trans rfl
 have hu30 := Tryz.underlying30
 have hu34 := Tryz.underlying34
 clear hq h hB
 go_enter Tryz.func31, Tryz.ntmps31
 go_wp2_with fail
 refine HT.out.mono ?_
 rintro e w2 ⟨rfl, hb⟩
 go_wp2
 go_ret
 exact ⟨rfl, hb⟩
theorem c38_walk (W : World) (b1 b3 : Nat) (A0 A2 A3 : Option Addr) (c0 c2 c3 : Nat) (l0 : List S65) (l2 : List S122) (l3 : List (Nat × Nat)) (keep next gen : Int) (hB : Bm W b1 b3 A0 A2 A3 c0 c2 c3 l0 l2 l3 keep next gen) (hc0 : l0.length ≤ c0) (x : S84) (r : Bool) (h : badI l0 keep x = some r) :
  Calls Tryz.prog 38 #[itemV x, .pointer (some ⟨b3, 0, none⟩)] W fun e w' => e = .returned (.bool r) ∧ Below W.heap.size W w' := by
 have hb0 := (Below.refl W.heap.size W).alloc (Nat.le_refl _) (.cells #[.int .i64 x.f0, .int .i64 x.f1] 84)
 have HT := Zk (c31_walk (W.alloc (.cells #[.int .i64 x.f0, .int .i64 x.f1] 84)) b1 b3 A0 A2 A3 c0 c2 c3 l0 l2 l3 keep next gen (hB.below hb0) hc0 x.f1 r h)
 have HB0 := Zk hb0
 have k0 : (W.alloc (.cells #[.int .i64 x.f0, .int .i64 x.f1] 84)).cell? ⟨b3, 0, none⟩ = some (.func (.func 31) #[] #[.pointer (some ⟨b1, 0, none⟩)]) := (blk_cell (hB.below hb0).x3 0).trans rfl
 have n0 : b3 ≠ W.heap.size := Nat.ne_of_lt (blk_lt hB.x3)
 have hu84 := Tryz.underlying84
 clear h hB hb0
 go_enter Tryz.func38, Tryz.ntmps38
 go_wp2_with fail
 refine HT.out.mono ?_
 rintro e w2 ⟨rfl, hb⟩
 go_wp2
 go_ret
 exact ⟨rfl, below_step HB0.out hb⟩
theorem c33_walk (W : World) (b1 b3 : Nat) (A0 A2 A3 : Option Addr) (c0 c2 c3 : Nat) (l0 : List S65) (l2 : List S122) (l3 : List (Nat × Nat)) (keep next gen : Int) (hB : Bm W b1 b3 A0 A2 A3 c0 c2 c3 l0 l2 l3 keep next gen) (hc0 : l0.length ≤ c0) (hc3 : l3.length ≤ c3) (x : Nat × Nat) (r : Bool) (h : badT l0 keep l3 x = some r) :
  Calls Tryz.prog 33 #[.complex .f64 x.1 x.2, .pointer (some ⟨b1, 0, none⟩), .pointer (some ⟨b3, 0, none⟩)] W fun e w' => e = .returned (.bool r) ∧ Below W.heap.size W w' := by
 unfold badT at h
 by_cases hok : okT x.1 = true ∧ okT x.2 = true
 case neg => rw [if_neg hok] at h; cases h
 rw [if_pos hok] at h
 by_cases hp : bk x.1 < (l0.length : Int)
 case neg => rw [if_neg hp] at h; cases h
 rw [if_pos hp] at h
 have HPL := Zk (fun W => todo_Place.calls x (bk x.1) W (by unfold todo_Place.f; rw [if_pos hok.1]))
 have HDN := Zk (fun W => todo_Done.calls x (bk x.2) W (by unfold todo_Done.f; rw [if_pos hok.2]))
 have hp0 : 0 ≤ bk x.1 := by have := hok.1; unfold okT at this; simp only [Bool.and_eq_true, decide_eq_true_eq] at this; exact this.1.1
 obtain ⟨p, hpe⟩ : ∃ p : Nat, bk x.1 = p := ⟨(bk x.1).toNat, by omega⟩
 obtain ⟨dn, hdn⟩ : ∃ d, bk x.2 = d := ⟨_, rfl⟩
 rw [hpe] at h hp HPL
 rw [hdn] at h HDN
 have HB := Zk hB
 have HH := Zk h
 have hu65 := Tryz.underlying65
 have hu63 := Tryz.underlying63
 have hu30 := Tryz.underlying30
 have hu34 := Tryz.underlying34
 have hmf : ∀ (fn : Fn) (first cap : Array Value) (w : World), (Instr.makeFunc fn first cap).run Tryz.prog w = .ok (.func fn first cap) w := fun _ _ _ _ => rfl
 clear hB h hok hpe hdn
 go_enter Tryz.func33, Tryz.ntmps33
 go_wp2_with fail
 refine (HPL.out _).mono ?_
 rintro e W2 ⟨rfl, hd2⟩
 have HB2 := Zk (HB.out.below hd2.below)
 have HBW := Zk hd2.below
 clear hd2 HPL
 obtain ⟨ad, A3', c3', rfl, x0, x1, x2, x3, x4, x5⟩ := at_T65 HB2.out.h0 (p : Int) (by omega) hp
 rw [Int.toNat_natCast] at x0 x1 x2 x3
 obtain ⟨el, hel⟩ : ∃ el, rd_T65 l0 (p : Nat) = el := ⟨_, rfl⟩
 rw [hel] at x0 x1 x2 x3 x4 x5 HH
 have k0 : W2.cell? ⟨b1, 0, none⟩ = some (.slice (some ad) l0.length c0) := (blk_cell HB2.out.x1 0).trans rfl
 have hpz : (0 : Int) ≤ p := by omega
 have X4 := Zk x4
 have X5 := Zk x5
 clear x4 x5 hel
 go_wp2_with fail
 obtain ⟨b6, hb6⟩ : ∃ b, W2.heap.size = b := ⟨_, rfl⟩
 obtain ⟨W3, hW3⟩ : ∃ W3, W2.alloc (.cells #[.int .i64 el.f0, .bool el.f1, .bool el.f2.f0, .slice A3' el.f2.f1.length c3'] 65) = W3 := ⟨_, rfl⟩
 rw [hW3, hb6]
 have hb23 : Below W2.heap.size W2 W3 := by rw [← hW3]; exact (Below.refl _ W2).alloc (Nat.le_refl _) _
 have h63 : W3.heap[b6]? = some (.cells #[.int .i64 el.f0, .bool el.f1, .bool el.f2.f0, .slice A3' el.f2.f1.length c3'] 65 (0, 0)) := by rw [← hW3, ← hb6]; exact alloc_new _ _
 refine (HDN.out _).mono ?_
 rintro e W4 ⟨rfl, hd4⟩
 have hb24 : Below W2.heap.size W2 W4 := hb23.trans (hd4.below.mono hb23.size)
 have HB4 := Zk (HB2.out.below hb24)
 have HBW4 := Zk (below_step HBW.out hb24)
 have H6 := Zk ((hd4.below.block _ (blk_lt h63)).trans h63)
 have X54 := Zk (Kd.C_below X5.out hb24)
 clear hb23 hb24 hd4 h63 hW3 HDN X5 HB2 HBW x0 x1 x2 x3 k0 hb6
 obtain ⟨lf, hlf⟩ : ∃ lf, el.f2.f0 = lf := ⟨_, rfl⟩
 obtain ⟨rf, hrf⟩ : ∃ rf, el.f0 = rf := ⟨_, rfl⟩
 obtain ⟨its, hit⟩ : ∃ its, el.f2.f1 = its := ⟨_, rfl⟩
 rw [hlf, hrf, hit] at H6 HH
 rw [hit] at X54 X4
 have k3 : W4.cell? ⟨b3, 0, none⟩ = some (.func (.func 31) #[] #[.pointer (some ⟨b1, 0, none⟩)]) := (blk_cell HB4.out.x3 0).trans rfl
 have y0 : W4.cell? ⟨b6, 0, none⟩ = some (.int .i64 rf) := (blk_cell H6.out 0).trans rfl
 have y2 : W4.cell? ⟨b6, 2, none⟩ = some (.bool lf) := (blk_cell H6.out 2).trans rfl
 have y3 : W4.cell? ⟨b6, 3, none⟩ = some (.slice A3' its.length c3') := (blk_cell H6.out 3).trans rfl
 have HC31 := Zk (fun (r : Bool) (h : badP l0 keep (p : Nat) = some r) => c31_walk W4 b1 b3 (some ad) A2 A3 c0 c2 c3 l0 l2 l3 keep next gen HB4.out hc0 (p : Nat) r h)
 have hfin : ∀ (W' : World), Below W4.heap.size W4 W' → Below W.heap.size W W' := fun W' hb => below_step HBW4.out hb
 by_cases hd0 : dn = 0
 case pos =>
  subst hd0
  have hh := HH.out
  rw [if_pos rfl] at hh
  have HCC := Zk (HC31.out r hh)
  clear hh HH HC31
  go_wp2_with fail
  refine HCC.out.mono ?_
  rintro e w5 ⟨rfl, hb5⟩
  go_wp2
  go_ret
  exact ⟨rfl, hfin _ hb5⟩
 have hdb : (dn == 0) = false := by simpa using hd0
 have hh := HH.out
 rw [if_neg hd0] at hh
 by_cases hlf2 : lf = true
 case pos =>
  subst hlf2
  rw [if_pos rfl] at hh
  obtain rfl := Option.some.inj hh
  clear hh HH
  go_wp2
  go_ret
  exact ⟨rfl, hfin _ (Below.refl _ _)⟩
 obtain rfl : lf = false := by simpa using hlf2
 rw [if_neg hlf2] at hh
 by_cases hrf2 : rf = 1
 case neg =>
  have hrb : (rf == 1) = false := by simpa using hrf2
  rw [if_neg hrf2] at hh
  obtain rfl := Option.some.inj hh
  clear hh HH
  go_wp2
  go_ret
  exact ⟨rfl, hfin _ (Below.refl _ _)⟩
 subst hrf2
 rw [if_pos rfl] at hh
 by_cases hil : its.length < 1000000
 case neg => rw [if_neg hil] at hh; cases hh
 rw [if_pos hil] at hh
 obtain ⟨gv, hgv, hg2⟩ := Option.bind_eq_some_iff.1 hh
 by_cases hg0 : 0 ≤ gv
 case neg => rw [if_neg hg0] at hg2; cases hg2
 rw [if_pos hg0] at hg2
 obtain ⟨m, hm⟩ : ∃ m : Nat, min gv (its.length : Int) = m := ⟨(min gv (its.length : Int)).toNat, by omega⟩
 have hml : m ≤ its.length := by omega
 rw [hm, Int.toNat_natCast] at hg2
 obtain ⟨hany, hmem⟩ := anyO_mem hg2
 have HGV := Zk (fun W' (hb : Below W4.heap.size W4 W') => audit_Given.calls 100000 A3 c3 l3 (p : Nat) gv W' (Kd.C_below HB4.out.h3 hb) hc3 hgv)
 have b13 : W4.cell? ⟨b1, 3, none⟩ = some (.slice A3 l3.length c3) := (blk_cell HB4.out.x1 3).trans rfl
 have l6 := blk_lt H6.out
 have l1 := blk_lt HB4.out.x1
 clear hh HH hg2 hgv
 obtain ⟨i0, hi0, hi1⟩ := Option.map_eq_some_iff.1 info84
 have hsz : i0.size = 2 := by simp only [Prod.mk.injEq] at hi1; exact hi1.2.1
 have hcut := cut_from (P := Tryz.prog) 61 84 .i64 Tryz.underlying61 hi0 2 hsz A3' its.length c3' (m : Nat) (by omega) (by omega)
 rw [Int.toNat_natCast] at hcut
 have hCd := Kd.C_drop X54.out hml X4.out
 obtain ⟨A5, hA5⟩ : ∃ A5, (if c3' = m then A3' else A3'.map (·.add (m * 2))) = A5 := ⟨_, rfl⟩
 rw [hA5] at hcut
 have hCd2 : Kd.C k84 W4 A5 (its.drop m).length (its.drop m) := by rw [← hA5]; exact hCd
 have HCD := Zk hCd2
 have hdl : (its.drop m).length = its.length - m := List.length_drop
 have hmin : ∀ (ats : Array TypeId) (ty : TypeId), Builtin.min_ ats ty #[.int .i64 gv, .int .i64 (its.length : Int)] = pure (.int .i64 m) := fun ats ty => by
  rw [min_two, min2_int, ← hm, show (if (its.length : Int) < gv then (its.length : Int) else gv) = min gv (its.length : Int) by split <;> omega]
  rfl
 clear hCd hCd2 hi1 hsz hi0
 go_wp2
 go_region_held3 (fun w' => w'.cell? ⟨b6, 3, none⟩ = some (.slice A3' its.length c3') ∧ w'.cell? ⟨b1, 3, none⟩ = some (.slice A3 l3.length c3)) (go_keep)
  (first | (go_at_call 36; refine (HGV.out _ (below_drew (Below.refl _ W4))).mono ?_; rintro e w2 ⟨rfl, hb2⟩; have q0 : w2.cell? ⟨b6, 3, none⟩ = some (.slice A3' its.length c3') := (hb2.cell (p := ⟨b6, 3, none⟩) l6).trans y3; have q1 : w2.cell? ⟨b1, 3, none⟩ = some (.slice A3 l3.length c3) := (hb2.cell (p := ⟨b1, 3, none⟩) l1).trans b13))
 have hb42 : Below W4.heap.size W4 w2 := (below_drew (Below.refl _ W4)).trans (hb2.mono (Nat.le_refl _))
 have HB5 := Zk (HB4.out.below hb42)
 have HB42 := Zk hb42
 have HCT := Zk (containsS84_38 #[.pointer (some ⟨b3, 0, none⟩)] (fun x => (badI l0 keep x).getD false) (its.drop m) A5 (c3' - m) w2 (by omega) (Kd.C_below HCD.out hb42)
  (fun W' y hb hy => c38_walk W' b1 b3 (some ad) A2 A3 c0 c2 c3 l0 l2 l3 keep next gen (HB5.out.below hb) hc0 y _ (hmem y hy)))
 rw [hdl] at HCT
 clear hb42 hb2 q0 q1 hmin hcut HC31 k3 y0 y2 y3 b13 hmem
 go_wp2_with fail
 refine HCT.out.mono ?_
 rintro e w5 ⟨rfl, hb5⟩
 go_wp2
 go_ret
 exact ⟨by rw [hany]; rfl, hfin _ (HB42.out.trans (hb5.mono HB42.out.size))⟩
def mount_Right.f (l0_0 : List S65) (a0_1 : Int) (l0_2 : List S122) (l0_3 : List (Nat × Nat)) (a0_4 a0_5 : Int) : Option Bool :=
  (mount_isVols.f 100000 l0_0 a0_1 l0_2 l0_3 a0_4 a0_5).bind fun v => if v = true then
    ((heap_Right.f l0_0 a0_1).bind fun h => if h = true then
      ((todo_Right.f l0_3 (l0_0.length : Int)).bind fun t => if t = true then
        (if l0_2.length < 1000000 ∧ l0_3.length < 1000000 then
          ((anyO (badP l0_0 a0_1) (rootsL l0_2)).bind fun rb => if rb = true then some false else
            ((anyO (badT l0_0 a0_1 l0_3) l0_3).bind fun tb => if tb = true then some false else audit_Sound.f 100000 l0_0 a0_1 (rootsL l0_2) l0_3))
         else none)
       else some false)
     else some false)
   else some false
theorem mount_Right.calls (A0_0 : Option Addr) (c0_0 : Nat) (l0_0 : List S65) (a0_1 : Int) (A0_2 : Option Addr) (c0_2 : Nat) (l0_2 : List S122) (A0_3 : Option Addr) (c0_3 : Nat) (l0_3 : List (Nat × Nat)) (a0_4 a0_5 : Int) (r : Bool) (w : World) (hr0_0 : Kd.C k65 w A0_0 l0_0.length l0_0) (hc0_0 : l0_0.length ≤ c0_0) (hr0_2 : Kd.C k122 w A0_2 l0_2.length l0_2) (hc0_2 : l0_2.length ≤ c0_2) (hr0_3 : Kd.C kc w A0_3 l0_3.length l0_3) (hc0_3 : l0_3.length ≤ c0_3) (h : mount_Right.f l0_0 a0_1 l0_2 l0_3 a0_4 a0_5 = some r) :
  Calls Tryz.prog 12 #[.agg #[.slice A0_0 l0_0.length c0_0, .int .i64 a0_1, .slice A0_2 l0_2.length c0_2, .slice A0_3 l0_3.length c0_3, .int .i64 a0_4, .int .i64 a0_5]] w fun e w' => e = .returned (.bool r) ∧ Below w.heap.size w w' := by
 have hu30 := Tryz.underlying30
 have hu34 := Tryz.underlying34
 have hmf : ∀ (fn : Fn) (first cap : Array Value) (w : World), (Instr.makeFunc fn first cap).run Tryz.prog w = .ok (.func fn first cap) w := fun _ _ _ _ => rfl
 unfold mount_Right.f at h
 obtain ⟨v, hv, h⟩ := Option.bind_eq_some_iff.1 h
 obtain ⟨WA, hWA⟩ : ∃ WA, w.alloc (.cells #[.slice A0_0 l0_0.length c0_0, .int .i64 a0_1, .slice A0_2 l0_2.length c0_2, .slice A0_3 l0_3.length c0_3, .int .i64 a0_4, .int .i64 a0_5] 34) = WA := ⟨_, rfl⟩
 have hbA : Below w.heap.size w WA := by rw [← hWA]; exact (Below.refl _ w).alloc (Nat.le_refl _) _
 obtain ⟨b1, hb1⟩ : ∃ b, w.heap.size = b := ⟨_, rfl⟩
 have X1 : Aside0 (WA.heap[b1]? = some (.cells #[.slice A0_0 l0_0.length c0_0, .int .i64 a0_1, .slice A0_2 l0_2.length c0_2, .slice A0_3 l0_3.length c0_3, .int .i64 a0_4, .int .i64 a0_5] 34 (0, 0))) := ⟨by rw [← hWA, ← hb1]; exact alloc_new _ _⟩
 have H01 := Zk (Kd.C_below hr0_0 hbA)
 have H21 := Zk (Kd.C_below hr0_2 hbA)
 have H31 := Zk (Kd.C_below hr0_3 hbA)
 have HBA := Zk hbA
 have HV := Zk (mount_isVols.calls 100000 A0_0 c0_0 l0_0 a0_1 A0_2 c0_2 l0_2 A0_3 c0_3 l0_3 a0_4 a0_5 v WA H01.out hc0_0 H21.out hc0_2 H31.out hc0_3 hv)
 have HH := Zk h
 obtain ⟨c0, c1, c2, c3, c4, c5, -, -, -, -, -, -⟩ := cf6_ X1
 clear h hv hr0_0 hr0_2 hr0_3 hbA
 go_enter Tryz.func12, Tryz.ntmps12
 go_wp2_with fail
 refine HV.out.mono ?_
 rintro e w2 ⟨rfl, hb2⟩
 have hfin : ∀ (W' : World), Below WA.heap.size WA W' → Below w.heap.size w W' := fun W' hb => below_step HBA.out hb
 have HB2 := Zk hb2
 have X2 := Zk ((hb2.block _ (blk_lt X1.out)).trans X1.out)
 have H02 := Zk (Kd.C_below H01.out hb2)
 have H22 := Zk (Kd.C_below H21.out hb2)
 have H32 := Zk (Kd.C_below H31.out hb2)
 clear hb2 c0 c1 c2 c3 c4 c5 HV
 have hh := HH.out
 have hend : ∀ (W' : World), Below w.heap.size w W' → ∀ r', r' = r → (Ending.returned (.bool r') = .returned (.bool r) ∧ Below w.heap.size w W') := fun W' hb r' e => ⟨by rw [e], hb⟩
 by_cases hv1 : v = true
 case neg =>
  obtain rfl : v = false := by simpa using hv1
  rw [if_neg hv1] at hh
  have HE := Zk (Option.some.inj hh)
  clear hh HH hv1
  go_wp2
  go_ret
  exact hend _ (hfin _ HB2.out) _ HE.out
 subst hv1
 rw [if_pos rfl] at hh
 obtain ⟨h, hh1, hh2⟩ := Option.bind_eq_some_iff.1 hh
 have HHR := Zk (heap_Right.calls A0_0 c0_0 l0_0 a0_1 h w2 H02.out hc0_0 hh1)
 obtain ⟨c0, c1, c2, c3, c4, c5, -, -, -, -, -, -⟩ := cf6_ X2
 have HH2 := Zk hh2
 clear hh HH hh1 hh2
 go_wp2_with fail
 refine HHR.out.mono ?_
 rintro e w3 ⟨rfl, hb3⟩
 have HB3 := Zk (HB2.out.trans (hb3.mono HB2.out.size))
 have X3 := Zk ((hb3.block _ (blk_lt X2.out)).trans X2.out)
 have H03 := Zk (Kd.C_below H02.out hb3)
 have H23 := Zk (Kd.C_below H22.out hb3)
 have H33 := Zk (Kd.C_below H32.out hb3)
 clear hb3 c0 c1 c2 c3 c4 c5 HHR HB2
 have hh := HH2.out
 by_cases hh1 : h = true
 case neg =>
  obtain rfl : h = false := by simpa using hh1
  rw [if_neg hh1] at hh
  have HE := Zk (Option.some.inj hh)
  clear hh HH2 hh1
  go_wp2
  go_ret
  exact hend _ (hfin _ HB3.out) _ HE.out
 subst hh1
 rw [if_pos rfl] at hh
 obtain ⟨t, ht1, ht2⟩ := Option.bind_eq_some_iff.1 hh
 have HTR := Zk (todo_Right.calls A0_3 c0_3 l0_3 (l0_0.length : Int) t w3 H33.out hc0_3 ht1)
 obtain ⟨c0, c1, c2, c3, c4, c5, -, -, -, -, -, -⟩ := cf6_ X3
 have HT2 := Zk ht2
 clear hh HH2 ht1 ht2
 go_wp2_with fail
 refine HTR.out.mono ?_
 rintro e w4 ⟨rfl, hb4⟩
 have HB4 := Zk (HB3.out.trans (hb4.mono HB3.out.size))
 have X4 := Zk ((hb4.block _ (blk_lt X3.out)).trans X3.out)
 have H04 := Zk (Kd.C_below H03.out hb4)
 have H24 := Zk (Kd.C_below H23.out hb4)
 have H34 := Zk (Kd.C_below H33.out hb4)
 clear hb4 c0 c1 c2 c3 c4 c5 HTR HB3
 have hh := HT2.out
 by_cases ht1 : t = true
 case neg =>
  obtain rfl : t = false := by simpa using ht1
  rw [if_neg ht1] at hh
  have HE := Zk (Option.some.inj hh)
  clear hh HT2 ht1
  go_wp2
  go_ret
  exact hend _ (hfin _ HB4.out) _ HE.out
 subst ht1
 rw [if_pos rfl] at hh
 by_cases hln : l0_2.length < 1000000 ∧ l0_3.length < 1000000
 case neg => rw [if_neg hln] at hh; cases hh
 rw [if_pos hln] at hh
 obtain ⟨rb, hr1, hr2⟩ := Option.bind_eq_some_iff.1 hh
 obtain ⟨hln2, hln3⟩ := hln
 have HR1 := Zk hr1
 have HR2 := Zk hr2
 obtain ⟨b3, hb3⟩ : ∃ b, w4.heap.size = b := ⟨_, rfl⟩
 obtain ⟨wz, hwz⟩ : ∃ W, w4.alloc (.cells #[.nilFunc] 78) = W := ⟨_, rfl⟩
 have hbz : Below w4.heap.size w4 wz := by rw [← hwz]; exact (Below.refl _ w4).alloc (Nat.le_refl _) _
 have HZ := Zk (show wz.heap[b3]? = some (.cells #[.nilFunc] 78 (0, 0)) by rw [← hwz, ← hb3]; exact alloc_new _ _)
 have z0 : wz.cell? ⟨b3, 0, none⟩ = some .nilFunc := (blk_cell HZ.out 0).trans rfl
 have zf := blk_frozen HZ.out 0
 obtain ⟨w5, hw5⟩ : ∃ W, wz.setCell ⟨b3, 0, none⟩ (.func (.func 31) #[] #[.pointer (some ⟨b1, 0, none⟩)]) = W := ⟨_, rfl⟩
 have hb45 : Below w4.heap.size w4 w5 := by rw [← hw5]; exact hbz.setCell (p := ⟨b3, 0, none⟩) (show w4.heap.size ≤ b3 from Nat.le_of_eq hb3) _
 have HBM := Zk (show Bm w5 b1 b3 A0_0 A0_2 A0_3 c0_0 c0_2 c0_3 l0_0 l0_2 l0_3 a0_1 a0_4 a0_5 from ⟨(hb45.block _ (blk_lt X4.out)).trans X4.out, by rw [← hw5]; exact blk_put HZ.out 0 _ rfl, Kd.C_below H04.out hb45, Kd.C_below H24.out hb45, Kd.C_below H34.out hb45⟩)
 have HB5 := Zk (HB4.out.trans (hb45.mono HB4.out.size))
 have c0 : w5.cell? ⟨b1, 0, none⟩ = some (.slice A0_0 l0_0.length c0_0) := (blk_cell HBM.out.x1 0).trans rfl
 have c1 : w5.cell? ⟨b1, 1, none⟩ = some (.int .i64 a0_1) := (blk_cell HBM.out.x1 1).trans rfl
 have c2 : w5.cell? ⟨b1, 2, none⟩ = some (.slice A0_2 l0_2.length c0_2) := (blk_cell HBM.out.x1 2).trans rfl
 have c3 : w5.cell? ⟨b1, 3, none⟩ = some (.slice A0_3 l0_3.length c0_3) := (blk_cell HBM.out.x1 3).trans rfl
 have c4 : w5.cell? ⟨b1, 4, none⟩ = some (.int .i64 a0_4) := (blk_cell HBM.out.x1 4).trans rfl
 have c5 : w5.cell? ⟨b1, 5, none⟩ = some (.int .i64 a0_5) := (blk_cell HBM.out.x1 5).trans rfl
 have HRO := Zk (roots_walk A0_0 A0_2 A0_3 l0_0.length c0_0 c0_2 l0_3.length c0_3 a0_1 a0_4 a0_5 l0_2 w5 HBM.out.h2 hln2)
 clear hh HT2 hr1 hr2 hb45 hbz
 go_wp2_with fail
 refine HRO.out.mono ?_
 rintro e w6 ⟨v3, rfl, hv3, hb6⟩
 obtain ⟨Ar, cr, rfl, hcr, hCr⟩ := Kd.R_reads hv3
 have HRL := Zk (show (rootsL l0_2).length = l0_2.length from List.length_map _)
 have HBM6 := Zk (HBM.out.below hb6)
 have HB6 := Zk (HB5.out.trans (hb6.mono HB5.out.size))
 obtain ⟨hany, hmem⟩ := anyO_mem HR1.out
 have HC1 := Zk (containsI_31 #[.pointer (some ⟨b1, 0, none⟩)] (fun x => (badP l0_0 a0_1 x).getD false) (rootsL l0_2) Ar cr w6 (by have := HRL.out; omega) hCr (fun W' x hb hx => c31_walk W' b1 b3 A0_0 A0_2 A0_3 c0_0 c0_2 c0_3 l0_0 l0_2 l0_3 a0_1 a0_4 a0_5 (HBM6.out.below hb) hc0_0 x _ (hmem x hx)))
 rw [← hany] at HC1
 have HCR := Zk hCr
 have k3 : w6.cell? ⟨b3, 0, none⟩ = some (.func (.func 31) #[] #[.pointer (some ⟨b1, 0, none⟩)]) := (blk_cell HBM6.out.x3 0).trans rfl
 have hh := HR2.out
 clear hv3 hb6 hCr hany hmem HRO c0 c1 c2 c3 c4 c5 z0 zf hwz hw5 HR1
 go_wp2_with fail
 refine HC1.out.mono ?_
 rintro e w7 ⟨rfl, hb7⟩
 have HBM7 := Zk (HBM6.out.below hb7)
 have HB7 := Zk (HB6.out.trans (hb7.mono HB6.out.size))
 have HCR7 := Zk (Kd.C_below HCR.out hb7)
 clear hb7 HC1 k3 HCR
 by_cases hrb : rb = true
 case pos =>
  subst hrb
  rw [if_pos rfl] at hh
  have HE := Zk (Option.some.inj hh)
  clear hh HR2
  go_wp2
  go_ret
  exact hend _ (hfin _ HB7.out) _ HE.out
 obtain rfl : rb = false := by simpa using hrb
 rw [if_neg hrb] at hh
 obtain ⟨tb, htb, hh2⟩ := Option.bind_eq_some_iff.1 hh
 obtain ⟨hany, hmem⟩ := anyO_mem htb
 have HC2 := Zk (containsC_33 #[.pointer (some ⟨b1, 0, none⟩), .pointer (some ⟨b3, 0, none⟩)] (fun x => (badT l0_0 a0_1 l0_3 x).getD false) l0_3 A0_3 c0_3 w7 hln3 HBM7.out.h3 (fun W' x hb hx => c33_walk W' b1 b3 A0_0 A0_2 A0_3 c0_0 c0_2 c0_3 l0_0 l0_2 l0_3 a0_1 a0_4 a0_5 (HBM7.out.below hb) hc0_0 hc0_3 x _ (hmem x hx)))
 rw [← hany] at HC2
 have c0 : w7.cell? ⟨b1, 0, none⟩ = some (.slice A0_0 l0_0.length c0_0) := (blk_cell HBM7.out.x1 0).trans rfl
 have c1 : w7.cell? ⟨b1, 1, none⟩ = some (.int .i64 a0_1) := (blk_cell HBM7.out.x1 1).trans rfl
 have c2 : w7.cell? ⟨b1, 2, none⟩ = some (.slice A0_2 l0_2.length c0_2) := (blk_cell HBM7.out.x1 2).trans rfl
 have c3 : w7.cell? ⟨b1, 3, none⟩ = some (.slice A0_3 l0_3.length c0_3) := (blk_cell HBM7.out.x1 3).trans rfl
 have c4 : w7.cell? ⟨b1, 4, none⟩ = some (.int .i64 a0_4) := (blk_cell HBM7.out.x1 4).trans rfl
 have c5 : w7.cell? ⟨b1, 5, none⟩ = some (.int .i64 a0_5) := (blk_cell HBM7.out.x1 5).trans rfl
 have HH2 := Zk hh2
 clear hany hmem htb hh hh2 HR2 hrb
 go_wp2_with fail
 refine HC2.out.mono ?_
 rintro e w8 ⟨rfl, hb8⟩
 have HBM8 := Zk (HBM7.out.below hb8)
 have HB8 := Zk (HB7.out.trans (hb8.mono HB7.out.size))
 have HCR8 := Zk (Kd.C_below HCR7.out hb8)
 clear hb8 HC2 HCR7 c0 c1 c2 c3 c4 c5
 have hh := HH2.out
 by_cases htb : tb = true
 case pos =>
  subst htb
  rw [if_pos rfl] at hh
  have HE := Zk (Option.some.inj hh)
  clear hh HH2
  go_wp2
  go_ret
  exact hend _ (hfin _ HB8.out) _ HE.out
 obtain rfl : tb = false := by simpa using htb
 rw [if_neg htb] at hh
 have HSO := Zk (audit_Sound.calls 100000 A0_0 c0_0 l0_0 a0_1 Ar cr (rootsL l0_2) A0_3 c0_3 l0_3 r w8 HBM8.out.h0 hc0_0 HCR8.out hcr HBM8.out.h3 hc0_3 hh)
 have c0 : w8.cell? ⟨b1, 0, none⟩ = some (.slice A0_0 l0_0.length c0_0) := (blk_cell HBM8.out.x1 0).trans rfl
 have c1 : w8.cell? ⟨b1, 1, none⟩ = some (.int .i64 a0_1) := (blk_cell HBM8.out.x1 1).trans rfl
 have c2 : w8.cell? ⟨b1, 2, none⟩ = some (.slice A0_2 l0_2.length c0_2) := (blk_cell HBM8.out.x1 2).trans rfl
 have c3 : w8.cell? ⟨b1, 3, none⟩ = some (.slice A0_3 l0_3.length c0_3) := (blk_cell HBM8.out.x1 3).trans rfl
 have c4 : w8.cell? ⟨b1, 4, none⟩ = some (.int .i64 a0_4) := (blk_cell HBM8.out.x1 4).trans rfl
 have c5 : w8.cell? ⟨b1, 5, none⟩ = some (.int .i64 a0_5) := (blk_cell HBM8.out.x1 5).trans rfl
 clear hh HH2 htb
 go_wp2_with fail
 refine HSO.out.mono ?_
 rintro e w9 ⟨rfl, hb9⟩
 go_wp2
 go_ret
 exact hend _ (hfin _ (HB8.out.trans (hb9.mono HB8.out.size))) _ rfl
end
theorem cellR_of_odd {n : Nat} {x : S65} (h : oddB n x = false) : cellR n x := by
 unfold oddB at h
 by_cases h0 : x.f0 = 0
 case pos =>
  rw [if_pos h0] at h
  simp only [Bool.or_eq_false_iff, decide_eq_false_iff_not] at h
  exact .inl ⟨h0, h.1, by omega⟩
 rw [if_neg h0] at h
 simp only [Bool.or_eq_false_iff, decide_eq_false_iff_not, Bool.not_eq_false', decide_eq_true_eq] at h
 obtain ⟨⟨⟨⟨h1, h2⟩, h3⟩, h4⟩, h5⟩ := h
 refine .inr ⟨by omega, by omega, h3, h4, ?_⟩
 unfold placesB at h5
 rw [Bool.or_eq_true] at h5
 rcases h5 with h5 | h5
 ·exact .inl h5
 ·right
  intro i hi
  have h6 : x.f2.f1.any (oddPlace n) = false := by simpa using h5
  have h7 := List.any_eq_false.1 h6 (rd_T84 x.f2.f1 (i : Nat)) (by rw [rd_eq _ i hi]; exact List.getElem_mem hi)
  unfold oddPlace at h7
  simp only [Bool.or_eq_true, decide_eq_true_eq, not_or] at h7
  exact ⟨by show 0 ≤ (rd_T84 x.f2.f1 (i : Nat)).f1; omega, by show (rd_T84 x.f2.f1 (i : Nat)).f1 < (n : Int); omega⟩
theorem rd65_mem {l : List S65} {p : Int} (h0 : 0 ≤ p) (h1 : p < (l.length : Int)) : rd_T65 l p ∈ l := by
 obtain ⟨n, rfl⟩ : ∃ n : Nat, p = n := ⟨p.toNat, by omega⟩
 have hn : n < l.length := by omega
 have : rd_T65 l (n : Nat) = l[n] := by simp [rd_T65, hn]
 rw [this]; exact List.getElem_mem hn
theorem HR_of_right {l : List S65} {kp : Int} (h : rightB l kp = true) : HR l := by
 unfold rightB at h
 simp only [Bool.and_eq_true, decide_eq_true_eq, Bool.not_eq_true'] at h
 obtain ⟨⟨⟨⟨h1, h2⟩, h3⟩, h4⟩, h5⟩ := h
 refine ⟨h2, fun p hp0 hp1 => cellR_of_odd ?_⟩
 have := List.any_eq_false.1 h5 _ (rd65_mem hp0 hp1)
 simpa using this
theorem anyO_tot {α : Type} {p : α → Option Bool} {l : List α} (h : ∀ x ∈ l, ∃ r, p x = some r) : ∃ r, anyO p l = some r := by
 unfold anyO
 rw [if_pos (List.all_eq_true.2 fun x hx => by obtain ⟨r, hr⟩ := h x hx; rw [hr]; rfl)]
 exact ⟨_, rfl⟩
theorem badP_tot {l : List S65} (H : HR l) (kp p : Int) : ∃ r, badP l kp p = some r := by
 obtain ⟨r, hr⟩ := tree_tot H kp p
 exact ⟨!r, by unfold badP; rw [hr]; rfl⟩
theorem given_loop (ts : List (Nat × Nat)) (ht : okTs ts = true) (hl : ts.length < 50000) (p : Int) : ∀ (d k : Nat) (n : Nat) (m : Int), ts.length = n + d → d < k → 0 ≤ m → ∃ r, audit_Given.l0 k p m ts (ts.length : Int) (n : Int) = some r ∧ 0 ≤ r := by
 intro d
 induction d with
 | zero =>
  intro k n m hn hk hm
  obtain ⟨k, rfl⟩ : ∃ k', k = k' + 1 := ⟨k - 1, by omega⟩
  rw [audit_Given.l0, if_neg (by omega)]
  exact ⟨m, rfl, hm⟩
 | succ d ih =>
  intro k n m hn hk hm
  obtain ⟨k, rfl⟩ : ∃ k', k = k' + 1 := ⟨k - 1, by omega⟩
  have hlt : n < ts.length := by omega
  have hw : wrap64 ((n : Int) + 1) = ((n + 1 : Nat) : Int) := by rw [w64 (by omega) (by omega)]; omega
  have hrd : rdOf ((0, 0) : Nat × Nat) ts (n : Int) = ts[n] := by simp [rdOf, hlt]
  have hok : okT ts[n].1 = true ∧ okT ts[n].2 = true := by
   have ht' := ht
   unfold okTs at ht'
   have := List.all_eq_true.1 ht' ts[n] (List.getElem_mem hlt)
   simpa using this
  rw [audit_Given.l0, if_pos (by omega), if_pos (by omega), if_pos (by omega), hrd]
  unfold todo_Place.f todo_Done.f
  rw [if_pos hok.1, if_pos hok.2]
  simp only [Option.bind_some]
  rw [hw]
  by_cases h : bk ts[n].1 = p
  case neg =>
   rw [if_neg h]
   exact ih k (n + 1) _ (by omega) (by omega) hm
  rw [if_pos h]
  refine ih k (n + 1) _ (by omega) (by omega) ?_
  unfold mx
  by_cases h2 : m < wrap64 (bk ts[n].2 - 1)
  case pos => rw [if_pos h2]; omega
  rw [if_neg h2]; exact hm
theorem given_tot (ts : List (Nat × Nat)) (ht : okTs ts = true) (hl : ts.length < 50000) (p : Int) : ∃ r, audit_Given.f 100000 ts p = some r ∧ 0 ≤ r := by
 unfold audit_Given.f
 exact given_loop ts ht hl p ts.length 100000 0 0 (by omega) (by omega) (by omega)
theorem badT_tot {l : List S65} (H : HR l) (kp : Int) (ts : List (Nat × Nat)) (ht : okTs ts = true) (hl : ts.length < 50000) (hr : rightC ts (l.length : Int) = true) (t : Nat × Nat) (hm : t ∈ ts) : ∃ r, badT l kp ts t = some r := by
 have hok : okT t.1 = true ∧ okT t.2 = true := by
  unfold okTs at ht
  have := List.all_eq_true.1 ht t hm
  simpa using this
 have hp0 : 0 ≤ bk t.1 := by have := hok.1; unfold okT at this; simp only [Bool.and_eq_true, decide_eq_true_eq] at this; exact this.1.1
 have hlt : bk t.1 < (l.length : Int) := by
  unfold rightC at hr
  simp only [Bool.and_eq_true, decide_eq_true_eq, Bool.not_eq_true'] at hr
  have := List.any_eq_false.1 hr.2 t hm
  unfold oddC at this
  simp only [Bool.or_eq_true, Bool.not_eq_true', decide_eq_false_iff_not, not_or, Classical.not_not] at this
  exact this.1
 unfold badT
 rw [if_pos hok, if_pos hlt]
 by_cases h1 : bk t.2 = 0
 case pos => rw [if_pos h1]; exact badP_tot H kp _
 rw [if_neg h1]
 by_cases h2 : (rd_T65 l (bk t.1)).f2.f0 = true
 case pos => rw [if_pos h2]; exact ⟨_, rfl⟩
 rw [if_neg h2]
 by_cases h3 : (rd_T65 l (bk t.1)).f0 = 1
 case neg => rw [if_neg h3]; exact ⟨_, rfl⟩
 have hrn := H.rn hp0 hlt (by show 0 < (rd_T65 l (bk t.1)).f0; omega)
 have hil : (rd_T65 l (bk t.1)).f2.f1.length ≤ 4 := hrn.2.1
 rw [if_pos h3, if_pos (by omega)]
 obtain ⟨g, hg, hg0⟩ := given_tot ts ht hl (bk t.1)
 rw [hg]
 simp only [Option.bind_some]
 rw [if_pos hg0]
 exact anyO_tot fun x _ => badP_tot H kp _
def inB (n : Nat) (x : Int) : Prop := 0 ≤ x ∧ x < (n : Int)
theorem told_loop (it : List S84) (h4 : it.length ≤ 4) (n : Nat) (hp : ∀ i, i < it.length → inB n (rd_T84 it (i : Nat)).f1) : ∀ (d k j : Nat) (acc : List Int), it.length = j + d → d < k → acc.length + d ≤ 8 → (∀ x ∈ acc, inB n x) →
  ∃ r, audit_told.l0 k acc it (it.length : Int) (j : Int) = some r ∧ r.length = acc.length + d ∧ ∀ x ∈ r, inB n x := by
 intro d
 induction d with
 | zero =>
  intro k j acc hj hk ha hb
  obtain ⟨k, rfl⟩ : ∃ k', k = k' + 1 := ⟨k - 1, by omega⟩
  rw [audit_told.l0, if_neg (by omega)]
  exact ⟨acc, rfl, rfl, hb⟩
 | succ d ih =>
  intro k j acc hj hk ha hb
  obtain ⟨k, rfl⟩ : ∃ k', k = k' + 1 := ⟨k - 1, by omega⟩
  rw [audit_told.l0, if_pos (by omega), if_pos (by omega), if_pos (by omega), if_pos (by omega), show wrap64 ((j : Int) + 1) = ((j + 1 : Nat) : Int) from by rw [w64 (by omega) (by omega)]; push_cast; rfl]
  obtain ⟨r, h1, h2, h3⟩ := ih k (j + 1) (acc ++ [(rd_T84 it (j : Nat)).f1]) (by omega) (by omega) (by simp; omega) (by
   intro x hx
   rcases List.mem_append.1 hx with hx | hx
   ·exact hb x hx
   ·rw [List.mem_singleton.1 hx]; exact hp j (by omega))
  exact ⟨r, h1, by rw [h2]; simp; omega, h3⟩
theorem told_tot {l : List S65} (H : HR l) (kp : Int) (ts : List (Nat × Nat)) (ht : okTs ts = true) (hl : ts.length ≤ 500) (k : Nat) (hk : 600 ≤ k) (p : Int) (h0 : 0 ≤ p) (h1 : p < (l.length : Int)) :
  ∃ r, audit_told.f k l kp ts p = some r ∧ r.length ≤ 4 ∧ ∀ x ∈ r, inB l.length x := by
 obtain ⟨k, rfl⟩ : ∃ k', k = k' + 1 := ⟨k - 1, by omega⟩
 have nil : ∀ a b c d, ∃ r, audit_told.j0 (k + 1) ts p true a b c d = some r ∧ r.length ≤ 4 ∧ ∀ x ∈ r, inB l.length x := fun a b c d => by
  rw [audit_told.j0, if_pos rfl]
  exact ⟨[], rfl, by simp, by simp⟩
 unfold audit_told.f
 rw [if_pos h0, if_pos h1]
 by_cases hz : (rd_T65 l p).f0 = 0
 case pos => rw [if_pos hz]; exact nil _ _ _ _
 rw [if_neg hz]
 cases hlf : (rd_T65 l p).f2.f0 with
 | true => exact nil _ _ _ _
 | false =>
  rw [audit_told.j0, if_neg (by simp)]
  have hrf := H.rf h0 h1
  have hr : 0 < Rf l p := by have : Rf l p = (rd_T65 l p).f0 := rfl; omega
  have hn := H.rn h0 h1 hr
  have h4 : (rd_T65 l p).f2.f1.length ≤ 4 := hn.2.1
  obtain ⟨g, hg, hg0⟩ := given_loop ts ht (by omega) p ts.length k 0 0 (by omega) (by omega) (by omega)
  rw [show audit_Given.f k ts p = some g from hg]
  simp only [Option.bind_some]
  have hm0 : 0 ≤ mn g ((rd_T65 l p).f2.f1.length : Int) := by unfold mn; split <;> omega
  have hm1 : mn g ((rd_T65 l p).f2.f1.length : Int) ≤ ((rd_T65 l p).f2.f1.length : Int) := by unfold mn; split <;> omega
  rw [if_pos hm0, if_pos hm1]
  obtain ⟨m, hm⟩ : ∃ m : Nat, (mn g ((rd_T65 l p).f2.f1.length : Int)).toNat = m := ⟨_, rfl⟩
  rw [hm]
  have hd : ((rd_T65 l p).f2.f1.drop m).length ≤ 4 := by rw [List.length_drop]; omega
  obtain ⟨r, e1, e2, e3⟩ := told_loop ((rd_T65 l p).f2.f1.drop m) hd l.length (fun i hi => by
   rw [List.length_drop] at hi
   have hlf' : Lf l p = false := hlf
   have := H.ch h0 h1 hr hlf' (i := m + i) (by show m + i < (rd_T65 l p).f2.f1.length; omega)
   have e : rd_T84 ((rd_T65 l p).f2.f1.drop m) (i : Nat) = rd_T84 (rd_T65 l p).f2.f1 ((m + i : Nat) : Int) := by
    simp only [rd_T84, Int.toNat_natCast, List.getD_eq_getElem?_getD, List.getElem?_drop]
   rw [e]; exact this) ((rd_T65 l p).f2.f1.drop m).length k 0 [] (by omega) (by omega) (by simp; omega) (by simp)
  exact ⟨r, e1, by rw [e2]; simp; omega, e3⟩
theorem rd_in {n : Nat} {l : List Int} (h : ∀ x ∈ l, inB n x) {j : Nat} (hj : j < l.length) : inB n (rd l (j : Nat)) := h _ (List.mem_of_getElem? (rd_get hj))
theorem refs_l2 {l : List S65} (kp : Int) (ts : List (Nat × Nat)) (n : Nat) (told : List Int) (ht : ∀ x ∈ told, inB n x) (p m : Int) (K : Nat) (Q : List Int → Prop)
  (hc : ∀ out, out.length = n → ∀ k, K ≤ k → ∃ r, audit_Refs.l1 k ts out m (wrap64 (p + 1)) l kp = some r ∧ Q r) (hl : told.length ≤ 4) :
  ∀ (d k j : Nat) (out : List Int), told.length = j + d → K + d + 1 ≤ k → out.length = n → ∃ r, audit_Refs.l2 k ts out m p told (told.length : Int) (j : Int) l kp = some r ∧ Q r := by
 intro d
 induction d with
 | zero =>
  intro k j out hj hk ho
  obtain ⟨k, rfl⟩ : ∃ k', k = k' + 1 := ⟨k - 1, by omega⟩
  rw [audit_Refs.l2, if_neg (by omega)]
  exact hc out ho k (by omega)
 | succ d ih =>
  intro k j out hj hk ho
  obtain ⟨k, rfl⟩ : ∃ k', k = k' + 1 := ⟨k - 1, by omega⟩
  have hb := rd_in ht (j := j) (by omega)
  rw [audit_Refs.l2, if_pos (by omega), if_pos (by omega), if_pos (by omega), if_pos hb.1, if_pos (by rw [ho]; exact hb.2), show wrap64 ((j : Int) + 1) = ((j + 1 : Nat) : Int) from by rw [w64 (by omega) (by omega)]; push_cast; rfl]
  exact ih k (j + 1) _ (by omega) (by omega) (by rw [List.length_set]; exact ho)
theorem refs_l1 {l : List S65} (H : HR l) (kp : Int) (ts : List (Nat × Nat)) (ht : okTs ts = true) (hl : ts.length ≤ 500) : ∀ (d k j : Nat) (out : List Int), l.length = j + d → 700 + 10 * d ≤ k → out.length = l.length →
  ∃ r, audit_Refs.l1 k ts out (l.length : Int) (j : Int) l kp = some r ∧ r.length = l.length := by
 have hn := H.1
 intro d
 induction d with
 | zero =>
  intro k j out hj hk ho
  obtain ⟨k, rfl⟩ : ∃ k', k = k' + 1 := ⟨k - 1, by omega⟩
  rw [audit_Refs.l1, if_neg (by omega)]
  exact ⟨out, rfl, ho⟩
 | succ d ih =>
  intro k j out hj hk ho
  obtain ⟨k, rfl⟩ : ∃ k', k = k' + 1 := ⟨k - 1, by omega⟩
  rw [audit_Refs.l1, if_pos (by omega)]
  obtain ⟨t, e1, e2, e3⟩ := told_tot H kp ts ht hl k (by omega) (j : Int) (by omega) (by omega)
  rw [e1]
  simp only [Option.bind_some]
  refine refs_l2 kp ts l.length t e3 (j : Int) (l.length : Int) (700 + 10 * d) (fun r => r.length = l.length) (fun out' ho' k' hk' => ?_) e2 t.length k 0 out (by omega) (by omega) ho
  rw [show wrap64 ((j : Int) + 1) = ((j + 1 : Nat) : Int) from by rw [w64 (by omega) (by omega)]; push_cast; rfl]
  exact ih k' (j + 1) out' (by omega) hk' ho'
theorem refs_l0 {l : List S65} (H : HR l) (kp : Int) (ts : List (Nat × Nat)) (ht : okTs ts = true) (hl : ts.length ≤ 500) (ab : List Int) (hab : ∀ x ∈ ab, inB l.length x) (hal : ab.length ≤ 2000) : ∀ (d k j : Nat) (out : List Int), ab.length = j + d → 50000 + d ≤ k → out.length = l.length →
  ∃ r, audit_Refs.l0 k ts out ab (ab.length : Int) (j : Int) l kp = some r ∧ r.length = l.length := by
 have hn := H.1
 intro d
 induction d with
 | zero =>
  intro k j out hj hk ho
  obtain ⟨k, rfl⟩ : ∃ k', k = k' + 1 := ⟨k - 1, by omega⟩
  rw [audit_Refs.l0, if_neg (by omega)]
  exact refs_l1 H kp ts ht hl l.length k 0 out (by omega) (by omega) ho
 | succ d ih =>
  intro k j out hj hk ho
  obtain ⟨k, rfl⟩ : ∃ k', k = k' + 1 := ⟨k - 1, by omega⟩
  have hb := rd_in hab (j := j) (by omega)
  rw [audit_Refs.l0, if_pos (by omega), if_pos (by omega), if_pos (by omega), if_pos hb.1, if_pos (by rw [ho]; exact hb.2), show wrap64 ((j : Int) + 1) = ((j + 1 : Nat) : Int) from by rw [w64 (by omega) (by omega)]; push_cast; rfl]
  exact ih k (j + 1) _ (by omega) (by omega) (by rw [List.length_set]; exact ho)
theorem heldF_tot {l : List S65} (H : HR l) (kp : Int) (ts : List (Nat × Nat)) (ht : okTs ts = true) (hl : ts.length ≤ 500) : ∀ (k : Nat) (out : List Bool) (q : List Int), q.length + 5 * out.count false < k → q.length + 5 * out.count false < 100000 → out.length = l.length → (∀ x ∈ q, inB l.length x) →
  ∃ r, heldF 1000 l kp ts k out q = some r ∧ r.length = l.length := by
 intro k
 induction k with
 | zero => intro out q hk; omega
 | succ k ih =>
  intro out q hk hb ho hq
  cases q with
  | nil => exact ⟨out, rfl, ho⟩
  | cons p q =>
   have hp := hq p (by simp)
   simp only [List.length_cons] at hk hb
   rw [heldF, if_pos ⟨hp.1, by rw [ho]; exact hp.2, by omega⟩]
   by_cases hd : rdOf false out p = true
   case pos =>
    rw [if_pos hd]
    exact ih out q (by omega) (by omega) ho fun x hx => hq x (List.mem_cons_of_mem _ hx)
   rw [if_neg hd]
   obtain ⟨t, e1, e2, e3⟩ := told_tot H kp ts ht hl 1000 (by omega) p hp.1 hp.2
   rw [e1]
   simp only [Option.bind_some]
   rw [if_pos (by omega)]
   have hlt : p.toNat < out.length := by have := hp.1; have := hp.2; omega
   have hf : out[p.toNat] = false := by
    have : rdOf false out p = out[p.toNat] := by simp [rdOf, hlt]
    rw [this] at hd; simpa using hd
   have hc : (out.set p.toNat true).count false + 1 = out.count false := by
    have h1 : 0 < out.count false := List.count_pos_iff.2 (by rw [← hf]; exact List.getElem_mem hlt)
    rw [List.count_set hlt, hf]
    simp
    omega
   refine ih _ _ (by rw [List.length_append]; omega) (by rw [List.length_append]; omega) (by rw [List.length_set]; exact ho) ?_
   intro x hx
   rcases List.mem_append.1 hx with hx | hx
   ·exact hq x (List.mem_cons_of_mem _ hx)
   ·exact e3 x hx
theorem sound_l0 {l : List S65} (hn : l.length ≤ 2000) (refs : List Int) (held : List Bool) (hr : refs.length = l.length) (hh : held.length = l.length) : ∀ (d k j : Nat), l.length = j + d → d < k → ∃ r, audit_Sound.l0 k refs held l (l.length : Int) (j : Int) = some r := by
 intro d
 induction d with
 | zero =>
  intro k j hj hk
  obtain ⟨k, rfl⟩ : ∃ k', k = k' + 1 := ⟨k - 1, by omega⟩
  rw [audit_Sound.l0, if_neg (by omega)]
  exact ⟨_, rfl⟩
 | succ d ih =>
  intro k j hj hk
  obtain ⟨k, rfl⟩ : ∃ k', k = k' + 1 := ⟨k - 1, by omega⟩
  rw [audit_Sound.l0, if_pos (by omega), if_pos (by omega), if_pos (by omega), if_pos (by omega)]
  split
  ·rw [if_pos (by omega)]
   split
   ·exact ⟨_, rfl⟩
   ·rw [show wrap64 ((j : Int) + 1) = ((j + 1 : Nat) : Int) from by rw [w64 (by omega) (by omega)]; push_cast; rfl]
    exact ih k (j + 1) (by omega) (by omega)
  ·exact ⟨_, rfl⟩
theorem sound_tot {l : List S65} (H : HR l) (h1 : 1 ≤ l.length) (kp : Int) (rs : List Int) (hrs : rs.length ≤ 20) (hrb : ∀ x ∈ rs, x < 0 ∨ inB l.length x) (ts : List (Nat × Nat)) (ht : okTs ts = true) (hl : ts.length ≤ 500) (htb : ∀ t ∈ ts, inB l.length (bk t.1)) : ∃ r, audit_Sound.f 100000 l kp rs ts = some r := by
  have hn := H.1
  have hab : audit_above.f rs ts = some (keepL rs ++ placesL ts) := by
    unfold audit_above.f
    rw [if_pos ⟨by omega, by omega, ht⟩]
  have hkl : (keepL rs).length ≤ 20 := Nat.le_trans (List.length_filter_le _ _) hrs
  have hpl : (placesL ts).length = ts.length := by unfold placesL; simp
  have hin : ∀ x ∈ keepL rs ++ placesL ts, inB l.length x := by
    intro x hx
    rcases List.mem_append.1 hx with hx | hx
    · unfold keepL at hx
      obtain ⟨hm, hk⟩ := List.mem_filter.1 hx
      rcases hrb x hm with h | h
      · exfalso
        unfold keepB at hk
        simp at hk
        omega
      · exact h
    · unfold placesL at hx
      obtain ⟨t, hm, rfl⟩ := List.mem_map.1 hx
      exact htb t hm
  have hlen : (keepL rs ++ placesL ts).length ≤ 520 := by rw [List.length_append]; omega
  have hR : ∀ k, 60000 ≤ k → ∃ refs, audit_Refs.f k l kp rs ts = some refs ∧ refs.length = l.length := by
    intro k hk
    unfold audit_Refs.f
    rw [if_pos (by omega), if_pos (by omega), hab]
    simp only [Option.bind_some]
    exact refs_l0 H kp ts ht hl _ hin (by omega) (keepL rs ++ placesL ts).length k 0 _ (by omega) (by omega) (by simp)
  have key : ∀ K M, 60000 ≤ K → 60000 ≤ M → ∃ r, (audit_Refs.f K l kp rs ts).bind (fun t168 => (if 1 ≤ l.length ∧ l.length < 1000000 then (audit_above.f rs ts).bind fun q => heldF 1000 l kp ts M (List.replicate l.length false) q else none).bind fun t171 => audit_Sound.l0 K t168 t171 l (l.length : Int) 0) = some r := by
   intro K M hK hM
   obtain ⟨refs, e1, e2⟩ := hR K hK
   rw [e1]
   simp only [Option.bind_some]
   rw [if_pos ⟨h1, by omega⟩, hab]
   simp only [Option.bind_some]
   have hcf : (List.replicate l.length false).count false = l.length := by simp
   obtain ⟨held, e3, e4⟩ := heldF_tot H kp ts ht hl M (List.replicate l.length false) _ (by rw [hcf]; omega) (by rw [hcf]; omega) (by simp) hin
   rw [e3]
   simp only [Option.bind_some]
   exact sound_l0 hn refs held e2 e4 l.length K 0 (by omega) (by omega)
  exact key 100000 1000000 (by decide) (by decide)
section
open Go.RowKit Go.Shelf Go.Proofs.YtfmjepmgcdoelaaGreatW.PrintWords Go.Proofs.YtfmjepmgcdoelaaGreatW.PrintLast Go.Proofs.YtfmjepmgcdoelaaGreatW.PrintMore
attribute [local go_sem] Oper.semAt_some
def upto {α : Type} (f : Nat → α) (k : Nat) : List α := (List.range k).map f
theorem upto_succ {α : Type} (f : Nat → α) (k : Nat) : upto f (k + 1) = upto f k ++ [f k] := by simp [upto, List.range_succ]
theorem upto_length {α : Type} (f : Nat → α) (k : Nat) : (upto f k).length = k := by simp [upto]
def bkw (l : List S98) (k : Nat) : Nat × S98 := (l.length - 1 - k, rd_T98 l ((l.length - 1 - k : Nat) : Int))
theorem bkw1_in (w0 : World) (A : Option Addr) (c : Nat) (ls : List S98) (hl : ls.length < 1000000) (hC : Kd.C k98 w0 A ls.length ls) (l g : Nat) (J Jx : List (Nat × S98) → World → Prop) (n : Nat)
  (hY : ∀ pre x W, J pre W → pre.length < ls.length → YieldAt Fence.wide (n - 1) Tryz.prog l #[.int .i64 ((x.1 : Nat) : Int), .agg #[.int .i64 (S98.f0 x.2), .string (S98.f1 x.2)]] W fun e W' =>
   (e = .returned (.bool true) ∧ J (pre ++ [x]) W' ∧ Below w0.heap.size W W') ∨ (e = .returned (.bool false) ∧ Jx (pre ++ [x]) W'))
  (W : World) (hB : Below w0.heap.size w0 W) (hg0 : w0.cell? ⟨g, 0, none⟩ = some (.slice A ls.length c)) (hgb : g < w0.heap.size) (h0 : J [] W) :
  CallsIn Fence.wide n Tryz.prog 85 #[.func (.yield l) #[] #[], .pointer (some ⟨g, 0, none⟩)] W fun e W' => (∃ v, e = .returned v) ∧
   ((∃ ys, ys = upto (bkw ls) ls.length ∧ J ys W') ∨ (∃ pre, (∃ k, k ≤ ls.length ∧ pre = upto (bkw ls) k) ∧ Jx pre W')) := by
 have HL := Zk hl
 have HC := Zk hC
 have HY := Zk hY
 have H0 := Zk h0
 have HB := Zk hB
 clear hC hY h0 hB hl
 have hu98 := Tryz.underlying98
 refine callsIn_of_wp Tryz.func85 rfl trivial ?_ rfl
 simp only [Tryz.ntmps85, List.size_toArray, List.length_cons, List.length_nil, Nat.reduceAdd, Nat.reduceSub, Array.replicate_succ, Array.replicate_zero, List.push_toArray, List.append_toArray, List.nil_append, List.cons_append]
 have hl' := HL.out
 have hg : W.cell? ⟨g, 0, none⟩ = some (.slice A ls.length c) := (HB.out.cell (p := ⟨g, 0, none⟩) hgb).trans hg0
 gi_wp2
 gi_loopw [3] (fun i wr => ∃ k : Nat, k ≤ ls.length ∧ i = .int .i64 ((ls.length : Int) - 1 - k) ∧ J (upto (bkw ls) k) wr ∧ Below w0.heap.size w0 wr)
  (fun i _ => (intOf i + 1).toNat)
 case atStart => exact ⟨0, Nat.zero_le _, by simp, H0.out, HB.out⟩
 case round =>
  obtain ⟨k, hk, rfl, hJs, hnx⟩ := hrel
  have hgr : wr.cell? ⟨g, 0, none⟩ = some (.slice A ls.length c) := (hnx.cell (p := ⟨g, 0, none⟩) hgb).trans hg0
  have HNX := Zk hnx
  have HJS := Zk hJs
  clear hnx hJs
  by_cases hlt : k < ls.length
  case neg =>
   obtain rfl : k = ls.length := by omega
   gi_wp2
   go_end0
   exact ⟨⟨_, rfl⟩, .inl ⟨_, rfl, HJS.out⟩⟩
  obtain ⟨m, hm⟩ : ∃ m : Nat, ls.length = k + 1 + m := ⟨ls.length - 1 - k, by omega⟩
  have hmi : (ls.length : Int) - 1 - k = (m : Int) := by omega
  obtain ⟨ad, rfl, x0, x1⟩ := at_T98 HC.out (m : Int) (by omega) (by omega)
  rw [Int.toNat_natCast] at x0 x1
  have hb := World.block_lt_of_cell? w0 _ x0
  have hx : bkw ls k = (m, rd_T98 ls (m : Nat)) := by unfold bkw; rw [show ls.length - 1 - k = m by omega]
  have y0 := (HNX.out.cell hb).trans x0
  have y1 := (HNX.out.cell (p := ⟨(ad.add (m * 2)).block, (ad.add (m * 2)).off + 1, none⟩) hb).trans x1
  obtain ⟨fn, tmps, assign, body, hy, hR⟩ := HY.out _ (bkw ls k) wr HJS.out (by rw [upto_length]; exact hlt)
  rw [hx] at hy hR
  dsimp only at hy
  rw [hmi]
  have HX := Zk hx
  have HM := Zk hm
  have HMI := Zk hmi
  have hmb : m < ls.length := by omega
  have hml : (decide ((m : Int) < (ls.length : Int))) = true := by simp; omega
  clear hx hm hmi x0 x1
  gi_wp2
  refine ⟨(fun h => by cases h), ?_⟩
  refine hR.mono ?_
  rintro e W3 (⟨rfl, hJ3, hk3⟩ | ⟨rfl, hJx3⟩)
  ·have HJ3 := Zk hJ3
   have HK3 := Zk hk3
   clear hJ3 hk3
   gi_wp2
   go_roundw
   case rel => exact ⟨k + 1, by have := HM.out; omega, by have := HM.out; refine congrArg (Value.int .i64) ?_; push_cast; omega, by rw [upto_succ, HX.out]; exact HJ3.out, HNX.out.trans HK3.out⟩
   case measure => first | (simp [intOf]; done) | (simp [intOf]; omega)
  ·have HJX := Zk hJx3
   clear hJx3
   gi_wp2
   refine bodyPost_ret (results_none rfl _ _ _) rfl ?_
   exact ⟨⟨_, rfl⟩, .inr ⟨_, ⟨k + 1, by have := HM.out; omega, rfl⟩, by rw [upto_succ, HX.out]; exact HJX.out⟩⟩
theorem bkw_walk (A : Option Addr) (m c : Nat) (w : World) :
  Calls Tryz.prog 59 #[.slice A m c] w fun e w' => e = .returned (.func (.func 85) #[] #[.pointer (some ⟨w.heap.size, 0, none⟩)]) ∧ w' = w.alloc (.cells #[.slice A m c] 23) := by
 go_enter Tryz.func59, Tryz.ntmps59
 go_wp2
 go_ret
 exact ⟨rfl, rfl⟩
theorem bkw_stops (w0 : World) (A : Option Addr) (c : Nat) (ls : List S98) (hl : ls.length < 1000000) (hC : Kd.C k98 w0 A ls.length ls) (g n : Nat) (hg0 : w0.cell? ⟨g, 0, none⟩ = some (.slice A ls.length c)) (hgb : g < w0.heap.size) :
  SeqStopsK Fence.wide n Tryz.prog 85 #[.pointer (some ⟨g, 0, none⟩)] (fun x : Nat × S98 => #[Value.int .i64 ((x.1 : Nat) : Int), .agg #[.int .i64 (S98.f0 x.2), .string (S98.f1 x.2)]]) (Below w0.heap.size) (fun ys => ys = upto (bkw ls) ls.length) (fun pre => ∃ k, k ≤ ls.length ∧ pre = upto (bkw ls) k) ls.length w0 := by
 intro l J Jx W hW hJ hJx hY h0
 exact bkw1_in w0 A c ls hl hC l g J Jx n hY W hW hg0 hgb h0
def lastW (ls : List S98) (at_ : Int) : Option ByteArray := (ls.reverse.find? fun x => decide (x.f0 = at_)).map (·.f1)
def readB (b : List ByteArray) (ls : List S98) (at_ : Int) : ByteArray × Int :=
 if at_ < 0 ∨ (b.length : Int) ≤ at_ then (⟨#[]⟩, 1) else ((lastW ls at_).getD (rdOf ByteArray.empty b at_), 0)
def disk_Read.f (l0_0 : List ByteArray) (l0_1 : List S98) (a1 : Int) : Option (ByteArray × Int) := if l0_1.length < 1000000 then some (readB l0_0 l0_1 a1) else none
theorem upto_rev (ls : List S98) (k : Nat) (hk : k ≤ ls.length) : (upto (bkw ls) k).map (·.2) = ls.reverse.take k := by
 induction k with
 | zero => simp [upto]
 | succ k ih =>
  rw [upto_succ, List.map_append, ih (by omega), List.take_add_one]
  congr 1
  rw [List.getElem?_reverse (by omega), List.getElem?_eq_getElem (by omega)]
  simp only [bkw, List.map_cons, List.map_nil, Option.toList, rd_T98, Int.toNat_natCast, List.getD_eq_getElem?_getD]
  rw [List.getElem?_eq_getElem (by omega), Option.getD_some]
theorem last_none {ls : List S98} {a : Int} (h : ∀ y ∈ upto (bkw ls) ls.length, y.2.f0 ≠ a) : lastW ls a = none := by
 have e := upto_rev ls ls.length (Nat.le_refl _)
 rw [show ls.reverse.take ls.length = ls.reverse by rw [← List.length_reverse, List.take_length]] at e
 unfold lastW
 rw [← e, Option.map_eq_none_iff, List.find?_eq_none]
 intro x hx
 obtain ⟨y, hy, rfl⟩ := List.mem_map.1 hx
 simpa using h y hy
theorem last_some {ls : List S98} {a : Int} {k : Nat} (hk : k < ls.length) (h : ∀ y ∈ upto (bkw ls) k, y.2.f0 ≠ a) (hx : (bkw ls k).2.f0 = a) : lastW ls a = some (bkw ls k).2.f1 := by
 have e := upto_rev ls (k + 1) hk
 unfold lastW
 rw [← List.take_append_drop (k + 1) ls.reverse, ← e, upto_succ, List.map_append, List.append_assoc, List.find?_append,
  List.find?_eq_none.2 (fun x hx => by obtain ⟨y, hy, rfl⟩ := List.mem_map.1 hx; simpa using h y hy)]
 simp [hx]
theorem two_set {W : World} {b c : Nat} {s t : TypeId} {u v : Value} (hb : Boxed W b s u) (hc : Boxed W c t v) (hne : b ≠ c) (u' v' : Value) :
  Boxed ((W.setCell ⟨b, 0, none⟩ u').setCell ⟨c, 0, none⟩ v') b s u' ∧ Boxed ((W.setCell ⟨b, 0, none⟩ u').setCell ⟨c, 0, none⟩ v') c t v' ∧
   KeepsOthers W ((W.setCell ⟨b, 0, none⟩ u').setCell ⟨c, 0, none⟩ v') ∧ ∀ n, n ≤ b → n ≤ c → Below n W ((W.setCell ⟨b, 0, none⟩ u').setCell ⟨c, 0, none⟩ v') :=
 ⟨(Below.heap_setCell _ _ _ _ hne).trans (Boxed.set u' hb), Boxed.set v' ((Below.heap_setCell _ _ _ _ (Ne.symm hne)).trans hc), (KeepsOthers.setCell _ _ _).trans (KeepsOthers.setCell _ _ _),
  fun n hn hm => ((Below.refl n W).setCell (p := ⟨b, 0, none⟩) hn _).setCell (p := ⟨c, 0, none⟩) hm _⟩
theorem read_end {W : World} {b c D : Nat} {u v : Value} (hb : Boxed W b 9 u) (hc : Boxed W c 35 v) (hK : W.heap[D]? = some (.deferred (some []))) (tmps : Array Value) (h4 : tmps[4]?.getD undef = .pointer (some ⟨b, 0, none⟩)) (h5 : tmps[5]?.getD undef = .pointer (some ⟨c, 0, none⟩)) :
  (results Tryz.f23 tmps).run Tryz.prog (W.putObj D (.deferred none)) = .ok (.tuple #[u, v]) (W.putObj D (.deferred none)) := by
 have e4 := cell_kept hb.cell (grownBy_putObj' _ D (.deferred none)) (fun r e => by cases e; exact ⟨_, hK, rfl⟩)
 have e5 := cell_kept hc.cell (grownBy_putObj' _ D (.deferred none)) (fun r e => by cases e; exact ⟨_, hK, rfl⟩)
 simp [results, Tryz.f23, go_sem, h4, h5, e4, e5]
theorem read_end0 {W : World} {b c : Nat} {u v : Value} (hb : Boxed W b 9 u) (hc : Boxed W c 35 v) (tmps : Array Value) (h4 : tmps[4]?.getD undef = .pointer (some ⟨b, 0, none⟩)) (h5 : tmps[5]?.getD undef = .pointer (some ⟨c, 0, none⟩)) :
  (results Tryz.f23 tmps).run Tryz.prog W = .ok (.tuple #[u, v]) W := by
 simp [results, Tryz.f23, go_sem, h4, h5, hb.cell, hc.cell]
theorem disk_Read.calls (A0_0 : Option Addr) (c0_0 : Nat) (l0_0 : List ByteArray) (A0_1 : Option Addr) (c0_1 : Nat) (l0_1 : List (S98)) (a1 : Int) (r1 : ByteArray) (r2 : Int) (w : World) (hr0_0 : Kd.C Kd.string w A0_0 l0_0.length l0_0) (hc0_0 : l0_0.length ≤ c0_0) (hr0_1 : Kd.C k98 w A0_1 l0_1.length l0_1) (hc0_1 : l0_1.length ≤ c0_1) (h : disk_Read.f l0_0 l0_1 a1 = some (r1, r2)) :
  Calls Tryz.prog 23 #[.agg #[.slice A0_0 l0_0.length c0_0, .slice A0_1 l0_1.length c0_1], .int .i64 a1] w fun e w' => e = .returned (.tuple #[.string r1, .int .i64 r2]) ∧ Below w.heap.size w w' := by
 refine (callsIn_wide (n := 3)).1 ?_
 have hl1 : l0_1.length < 1000000 := by
  unfold disk_Read.f at h
  by_cases hc : l0_1.length < 1000000
  case pos => exact hc
  rw [if_neg hc] at h; cases h
 unfold disk_Read.f at h
 rw [if_pos hl1] at h
 have HH := Zk (Option.some.inj h)
 have HL := Zk hl1
 have HS := Zk hr0_0
 have HR := Zk hr0_1
 clear h hr0_0 hr0_1 hc0_0 hc0_1 hl1
 have hu25 := Tryz.underlying25
 have hu98 := Tryz.underlying98
 have hdd : ∀ k : Nat, (Fence.wide.depth.isSome = true → 1 ≤ k) := fun k h => by cases h
 refine callsIn_of_wp_marks Tryz.func23 rfl trivial ?_ rfl
 simp only [Tryz.ntmps23, List.size_toArray, List.length_cons, List.length_nil, Nat.reduceAdd, Nat.reduceSub, Array.replicate_succ, Array.replicate_zero, List.push_toArray, List.append_toArray, List.nil_append, List.cons_append]
 have bh : ∀ (X : World) (o : Obj) (k : Nat) (hk : k = X.heap.size), (X.alloc o).heap[k]? = some o := fun X o k hk => by rw [hk]; exact World.alloc_heap_new X o
 by_cases h0 : a1 < 0
 case pos =>
  gi_wp2
  have e : readB l0_0 l0_1 a1 = (⟨#[]⟩, 1) := by unfold readB; rw [if_pos (.inl h0)]
  obtain ⟨rfl, rfl⟩ := Prod.mk.inj (e.symm.trans HH.out)
  obtain ⟨W4, hW4⟩ : ∃ W4, ((((w.alloc (.cells #[.slice A0_0 l0_0.length c0_0, .slice A0_1 l0_1.length c0_1] 25)).alloc (.cells #[.int .i64 a1] 3)).alloc (.cells #[.string ⟨#[]⟩] 9)).alloc (.cells #[.int .i64 1] 35)) = W4 := ⟨_, rfl⟩
  rw [hW4]
  have z2 : Boxed W4 (w.heap.size + 1 + 1) 9 (.string ⟨#[]⟩) := by rw [← hW4]; exact blk_alloc (bh _ _ _ (by simp)) _
  have z3 : Boxed W4 (w.heap.size + 1 + 1 + 1) 35 (.int .i64 1) := by rw [← hW4]; exact bh _ _ _ (by simp)
  refine ⟨_, read_end0 z2 z3 _ rfl rfl, rfl, ?_⟩
  rw [← hW4]
  refine Below.alloc (Below.alloc (Below.alloc ((Below.refl _ w).alloc (Nat.le_refl _) _) ?_ _) ?_ _) ?_ _
  all_goals (simp only [World.size_alloc]; omega)
 by_cases h1 : (l0_0.length : Int) ≤ a1
 case pos =>
  gi_wp2
  have e : readB l0_0 l0_1 a1 = (⟨#[]⟩, 1) := by unfold readB; rw [if_pos (.inr h1)]
  obtain ⟨rfl, rfl⟩ := Prod.mk.inj (e.symm.trans HH.out)
  obtain ⟨W4, hW4⟩ : ∃ W4, ((((w.alloc (.cells #[.slice A0_0 l0_0.length c0_0, .slice A0_1 l0_1.length c0_1] 25)).alloc (.cells #[.int .i64 a1] 3)).alloc (.cells #[.string ⟨#[]⟩] 9)).alloc (.cells #[.int .i64 1] 35)) = W4 := ⟨_, rfl⟩
  rw [hW4]
  have z2 : Boxed W4 (w.heap.size + 1 + 1) 9 (.string ⟨#[]⟩) := by rw [← hW4]; exact blk_alloc (bh _ _ _ (by simp)) _
  have z3 : Boxed W4 (w.heap.size + 1 + 1 + 1) 35 (.int .i64 1) := by rw [← hW4]; exact bh _ _ _ (by simp)
  refine ⟨_, read_end0 z2 z3 _ rfl rfl, rfl, ?_⟩
  rw [← hW4]
  refine Below.alloc (Below.alloc (Below.alloc ((Below.refl _ w).alloc (Nat.le_refl _) _) ?_ _) ?_ _) ?_ _
  all_goals (simp only [World.size_alloc]; omega)
 obtain ⟨k, rfl⟩ : ∃ k : Nat, a1 = k := ⟨a1.toNat, by omega⟩
 gi_wp2
 refine ⟨trivial, ?_⟩
 refine ((callsIn_wide (n := 2)).2 (bkw_walk A0_1 l0_1.length c0_1 _)).mono ?_
 rintro e w' ⟨rfl, rfl⟩
 obtain ⟨W5, hW5⟩ : ∃ W5, (((((w.alloc (.cells #[.slice A0_0 l0_0.length c0_0, .slice A0_1 l0_1.length c0_1] 25)).alloc (.cells #[.int .i64 (k : Int)] 3)).alloc (.cells #[.string ⟨#[]⟩] 9)).alloc (.cells #[.int .i64 0] 35)).alloc (.cells #[.slice A0_1 l0_1.length c0_1] 23)) = W5 := ⟨_, rfl⟩
 have g0 : W5.heap[w.heap.size]? = some (.cells #[.slice A0_0 l0_0.length c0_0, .slice A0_1 l0_1.length c0_1] 25 (0, 0)) := by rw [← hW5]; exact blk_alloc (blk_alloc (blk_alloc (blk_alloc (bh _ _ _ (by simp)) _) _) _) _
 have g1 : W5.heap[w.heap.size + 1]? = some (.cells #[.int .i64 (k : Int)] 3 (0, 0)) := by rw [← hW5]; exact blk_alloc (blk_alloc (blk_alloc (bh _ _ _ (by simp)) _) _) _
 have g2 : W5.heap[w.heap.size + 2]? = some (.cells #[.string ⟨#[]⟩] 9 (0, 0)) := by rw [← hW5]; exact blk_alloc (blk_alloc (bh _ _ _ (by simp)) _) _
 have g3 : W5.heap[w.heap.size + 3]? = some (.cells #[.int .i64 0] 35 (0, 0)) := by rw [← hW5]; exact blk_alloc (bh _ _ _ (by simp)) _
 have g4 : W5.heap[w.heap.size + 4]? = some (.cells #[.slice A0_1 l0_1.length c0_1] 23 (0, 0)) := by rw [← hW5]; exact bh _ _ _ (by simp)
 have hB : Below w.heap.size w W5 := by
  rw [← hW5]
  refine Below.alloc (Below.alloc (Below.alloc (Below.alloc ((Below.refl _ w).alloc (Nat.le_refl _) _) ?_ _) ?_ _) ?_ _) ?_ _
  all_goals (simp only [World.size_alloc]; omega)
 have hs5 : W5.heap.size = w.heap.size + 5 := by rw [← hW5]; simp
 simp only [World.size_alloc, Nat.add_assoc, Nat.reduceAdd] at hW5 ⊢
 rw [hW5]
 have hb0 : w.heap.size < W5.heap.size := by omega
 have HB := Zk hB
 have HS5 := Zk hs5
 clear hB hs5
 gi_wp2
 refine wpIn_rangeFunc_ownH rfl (by omega) (gf := 85) (lb := #[.pointer (some ⟨w.heap.size + 4, 0, none⟩)]) rfl trivial (enters_of Tryz.func85 (by kernel_rfl) rfl)
  (bkw_stops W5 A0_1 c0_1 l0_1 HL.out (Kd.C_below HR.out HB.out) (w.heap.size + 4) 2 ((blk_cell g4 0).trans rfl) (by have := HS5.out; omega)) belowK_t (belowK_b (Nat.le_refl _)) (Below.refl _ _) (fun _ => rfl)
  (fun pre W => (∀ y ∈ pre, y.2.f0 ≠ (k : Int)) ∧ Below W5.heap.size W5 W)
  (fun c pre W => (c = .ret ∧ ∃ pre' x, pre = pre' ++ [x] ∧ (∀ y ∈ pre', y.2.f0 ≠ (k : Int)) ∧ x.2.f0 = (k : Int) ∧ Boxed W (w.heap.size + 2) 9 (.string (S98.f1 x.2)) ∧ Boxed W (w.heap.size + 3) 35 (.int .i64 0)) ∧ Below w.heap.size w W)
  ?hI ?hIx ⟨(fun y hy => by cases hy), Below.refl _ _⟩
  (fun x a' W => ∃ B : Nat, W.heap[B]? = some (Obj.cells #[.int .i64 (S98.f0 x.2), .string (S98.f1 x.2)] 98 (0, 0)) ∧ a' = { tmps := #[Value.agg #[Value.slice A0_0 l0_0.length c0_0, Value.slice A0_1 l0_1.length c0_1], Value.int IntKind.i64 (k : Int), Value.pointer (some ⟨w.heap.size, 0, none⟩), Value.pointer (some ⟨w.heap.size + 1, 0, none⟩), Value.pointer (some ⟨w.heap.size + 2, 0, none⟩), Value.pointer (some ⟨w.heap.size + 3, 0, none⟩), undef, Value.pointer (some ⟨B, 0, none⟩), Value.int IntKind.i64 (k : Int), Value.bool false, Value.bool false, Value.int IntKind.i64 (k : Int), Value.pointer (some ⟨w.heap.size, 0, none⟩), Value.slice A0_0 l0_0.length c0_0, Value.int IntKind.i64 (l0_0.length : Int), Value.bool false, Value.bool false, Value.pointer (some ⟨w.heap.size, 1, none⟩), Value.slice A0_1 l0_1.length c0_1, Value.func (Fn.func 85) #[] #[Value.pointer (some ⟨w.heap.size + 4, 0, none⟩)], Value.int IntKind.i64 ((x.1 : Nat) : Int), Value.agg #[Value.int IntKind.i64 (S98.f0 x.2), Value.string (S98.f1 x.2)], undef, undef, undef, undef, undef, undef, undef, undef, undef, undef, undef], defers := [] })
  ?hAx ?assign ?body ?done ?stop
 case hI => exact OwnFrom.and (fun s X Y row hs hg hr => hs) (ownFrom_below (Nat.le_refl _) (Nat.le_refl _))
 case hIx =>
  rintro c s X Y row ⟨⟨hc, pre', x, he, hp, hx, hb2, hb3⟩, hbl⟩ hg hr
  have hb23 := OwnFrom.and (Own.from (boxed_own (w.heap.size + 2) 9 (fun _ : Unit => Value.string (S98.f1 x.2))) W5.heap.size) (Own.from (boxed_own (w.heap.size + 3) 35 (fun _ : Unit => Value.int .i64 0)) W5.heap.size) () X Y row ⟨hb2, hb3⟩ hg hr
  exact ⟨⟨hc, pre', x, he, hp, hx, hb23.1, hb23.2⟩, ownFrom_below (n₀ := w.heap.size) (w₀ := w) (B := W5.heap.size) (Nat.le_refl _) (by have := HS5.out; omega) () X Y row hbl hg hr⟩
 case hAx =>
  rintro x a' s X Y row ⟨B, hB, ha⟩ hg hr
  refine ⟨B, (hg.block B (Array.getElem?_eq_some_iff.1 hB).1 (fun e => ?_)).trans hB, ha⟩
  obtain ⟨_, o, ho, hc⟩ := hr B e.symm
  rw [hB] at ho
  cases ho
  cases hc
 case assign =>
  rintro l pre x W K ⟨hp, hbW⟩ hK
  have hbx : Below W5.heap.size W (W.alloc (.cells #[.int .i64 (S98.f0 x.2), .string (S98.f1 x.2)] 98)) := (Below.refl _ W).alloc hbW.size _
  have hKK := hK _ _ ((KeepsOthers.alloc W (.cells #[.int .i64 (S98.f0 x.2), .string (S98.f1 x.2)] 98)).from _) hbx ⟨hp, hbW.trans hbx⟩ ⟨W.heap.size, World.alloc_heap_new W _, rfl⟩
  have HKK := Zk hKK
  clear hKK hK
  gi_wp2
  exact HKK.out
 case body =>
  rintro l pre x a' W hl hrec ⟨hp, hbW⟩ ⟨Bk, hBk, rfl⟩ hlen
  have x0 : W.cell? ⟨Bk, 0, none⟩ = some (.int .i64 (S98.f0 x.2)) := (blk_cell hBk 0).trans rfl
  have x1 : W.cell? ⟨Bk, 1, none⟩ = some (.string (S98.f1 x.2)) := (blk_cell hBk 1).trans rfl
  have G := fun j hj => hbW.block j hj
  have q1 := (G _ (blk_lt g1)).trans g1
  have q2 := (G _ (blk_lt g2)).trans g2
  have q3 := (G _ (blk_lt g3)).trans g3
  have c1 : W.cell? ⟨w.heap.size + 1, 0, none⟩ = some (.int .i64 (k : Int)) := (blk_cell q1 0).trans rfl
  have c2 : W.cell? ⟨w.heap.size + 2, 0, none⟩ = some (.string ⟨#[]⟩) := (blk_cell q2 0).trans rfl
  have c3 : W.cell? ⟨w.heap.size + 3, 0, none⟩ = some (.int .i64 0) := (blk_cell q3 0).trans rfl
  have f2 := Boxed.frozen (show Boxed W (w.heap.size + 2) 9 (.string ⟨#[]⟩) from q2)
  have f3 := Boxed.frozen (show Boxed W (w.heap.size + 3) 35 (.int .i64 0) from q3)
  have HP := Zk hp
  have HBW := Zk hbW
  have HQ2 := Zk q2
  have HQ3 := Zk q3
  clear hp hbW q1 q2 q3 G hrec hBk g0 g1 g2 g3 g4 hW5
  by_cases hx : S98.f0 x.2 = (k : Int)
  case neg =>
   have hxb : (S98.f0 x.2 == (k : Int)) = false := beq_eq_false_iff_ne.2 hx
   have HX := Zk hx
   clear hx
   gi_wp2
   exact ⟨KeepsFrom.refl _ _, Below.refl _ _, fun y hy => (List.mem_append.1 hy).elim (HP.out y) (fun e => by rw [List.mem_singleton.1 e]; exact HX.out), HBW.out⟩
  have hxb : (S98.f0 x.2 == (k : Int)) = true := beq_iff_eq.2 hx
  have HX := Zk hx
  clear hx
  gi_wp2
  obtain ⟨z2, z3, zk, zb⟩ := two_set (show Boxed W (w.heap.size + 2) 9 (.string ⟨#[]⟩) from HQ2.out) (show Boxed W (w.heap.size + 3) 35 (.int .i64 0) from HQ3.out) (by omega) (.string (S98.f1 x.2)) (.int .i64 0)
  exact ⟨zk.from _, ⟨rfl, pre, x, rfl, HP.out, HX.out, z2, z3⟩, (HB.out.trans (HBW.out.mono (Nat.le_of_lt hb0))).trans (zb _ (by omega) (by omega))⟩
 case done =>
  rintro D ys W hD rfl ⟨hp, hbW⟩ hK
  have G := fun j hj => hbW.block j hj
  have q0 := (G _ (blk_lt g0)).trans g0
  have q1 := (G _ (blk_lt g1)).trans g1
  have q2 := (G _ (blk_lt g2)).trans g2
  have q3 := (G _ (blk_lt g3)).trans g3
  have c0 : W.cell? ⟨w.heap.size, 0, none⟩ = some (.slice A0_0 l0_0.length c0_0) := (blk_cell q0 0).trans rfl
  have c1 : W.cell? ⟨w.heap.size + 1, 0, none⟩ = some (.int .i64 (k : Int)) := (blk_cell q1 0).trans rfl
  have c2 : W.cell? ⟨w.heap.size + 2, 0, none⟩ = some (.string ⟨#[]⟩) := (blk_cell q2 0).trans rfl
  have c3 : W.cell? ⟨w.heap.size + 3, 0, none⟩ = some (.int .i64 0) := (blk_cell q3 0).trans rfl
  have f2 := Boxed.frozen (show Boxed W (w.heap.size + 2) 9 (.string ⟨#[]⟩) from q2)
  have f3 := Boxed.frozen (show Boxed W (w.heap.size + 3) 35 (.int .i64 0) from q3)
  obtain ⟨ad, ea, hxs⟩ := Kd.at_string HS.out (k : Int) (by omega) (by omega)
  subst ea
  rw [Int.toNat_natCast] at hxs
  have hxs' := ((hbW.cell (by have := World.block_lt_of_cell? w _ hxs; have := HS5.out; omega)).trans (HB.out.cell (World.block_lt_of_cell? w _ hxs))).trans hxs
  have er : readB l0_0 l0_1 (k : Int) = (rdOf ByteArray.empty l0_0 k, 0) := by
   unfold readB
   rw [if_neg (by omega), last_none hp]; rfl
  obtain ⟨rfl, rfl⟩ := Prod.mk.inj (er.symm.trans HH.out)
  have HK := Zk hK
  have HBW := Zk hbW
  have HQ2 := Zk q2
  have HQ3 := Zk q3
  have hkl : k < l0_0.length := by omega
  clear hp hbW q0 q1 q2 q3 G hK g0 g1 g2 g3 g4 hW5 hxs er
  gi_wp2
  obtain ⟨z2, z3, zk, zb⟩ := two_set (show Boxed W (w.heap.size + 2) 9 (.string ⟨#[]⟩) from HQ2.out) (show Boxed W (w.heap.size + 3) 35 (.int .i64 0) from HQ3.out) (by omega) (.string (rdOf ByteArray.empty l0_0 k)) (.int .i64 0)
  have hK' := zk.same D _ HK.out rfl
  refine ⟨by simp, .inl ⟨_, _, rfl, run_takeDeferred hK', ?_⟩⟩
  refine ⟨_, read_end z2 z3 hK' _ rfl rfl, rfl, ?_⟩
  exact ((HB.out.trans (HBW.out.mono (Nat.le_of_lt hb0))).trans (zb _ (by omega) (by omega))).trans (belowK_b (w := w) (Nat.le_refl _) _ D _ _ (by omega) hK' rfl rfl)
 case stop =>
  rintro D c pre W hD ⟨j, hj, hpre⟩ ⟨⟨rfl, ys, x, rfl, hp, hx, hb2, hb3⟩, hbW⟩ hK
  have HK := Zk hK
  have HBW := Zk hbW
  have HB2 := Zk hb2
  have HB3 := Zk hb3
  have er : readB l0_0 l0_1 (k : Int) = (S98.f1 x.2, 0) := by
   obtain ⟨i, rfl⟩ : ∃ i, j = i + 1 := ⟨j - 1, by
    cases j with
    | zero => simp [upto] at hpre
    | succ j => rfl⟩
   rw [upto_succ] at hpre
   obtain ⟨rfl, hx'⟩ := List.append_inj' hpre rfl
   obtain rfl : x = bkw l0_1 i := by injection hx'
   unfold readB
   rw [if_neg (by omega), last_some (by omega) hp hx]; rfl
  obtain ⟨rfl, rfl⟩ := Prod.mk.inj (er.symm.trans HH.out)
  clear hp hbW hK hb2 hb3 g0 g1 g2 g3 g4 hW5 er
  gi_wp2
  refine ⟨by simp, .inl ⟨_, _, rfl, run_takeDeferred HK.out, ?_⟩⟩
  refine ⟨_, read_end HB2.out HB3.out HK.out _ rfl rfl, rfl, ?_⟩
  exact HBW.out.trans (belowK_b (w := w) (Nat.le_refl _) _ D _ _ (by omega) HK.out rfl rfl)
end
section
attribute [local go_sem] max2_int min2_int max_two min_two max_three min_three max_four min_four
mutual
def assartref02_Crash.l0 : Nat → List Bool → List ByteArray → Int → List ByteArray → List (S98) → Option (List ByteArray × (List (S98)))
 | 0, _, _, _, _, _ => none
 | k + 1, x1, x5, x6, aB, aA => if x6 < (aA.length : Int) then (assartref02_Crash.j1 k x1 x5 x6 (decide (x6 < (x1.length : Int))) aB aA) else (assartref02_Crash.j1 k x1 x5 x6 false aB aA)
def assartref02_Crash.j1 : Nat → List Bool → List ByteArray → Int → Bool → List ByteArray → List (S98) → Option (List ByteArray × (List (S98)))
 | 0, _, _, _, _, _, _ => none
 | k + 1, x1, x5, x6, x21, aB, aA => if x21 = true then (if 0 ≤ x6 then (if x6 < (x1.length : Int) then (if rdOf false x1 x6 = true then (if x6 < (aA.length : Int) then (if 0 ≤ ((rd_T98 aA x6).f0) then (if ((rd_T98 aA x6).f0) < (x5.length : Int) then (assartref02_Crash.l0 k x1 (x5.set (((rd_T98 aA x6).f0) : Int).toNat ((rd_T98 aA x6).f1)) (wrap64 (x6 + 1)) aB aA) else (none)) else (none)) else (none)) else (assartref02_Crash.l0 k x1 x5 (wrap64 (x6 + 1)) aB aA)) else (none)) else (none)) else (some (x5, ([] : List (S98))))
end
def assartref02_Crash.f (k : Nat) (l0_0 : List ByteArray) (l0_1 : List (S98)) (l1 : List Bool) : Option (List ByteArray × (List (S98))) := (some (([] : List ByteArray) : List ByteArray)).bind fun aA => (if aA.length + l0_0.length < 8796093022208 then (assartref02_Crash.l0 k l1 (aA ++ l0_0) 0 l0_0 l0_1) else (none))
def assartref02_Crash.T6 : Bool × List (List Nat × List Nat) := (true, [([], []), ([], []), ([1], [1]), ([], []), ([2, 3], [2, 3]), ([4], [4]), ([5], [5]), ([], []), ([7], [7]), ([], []), ([8, 9], [8, 9]), ([10], [10]), ([11], [11]), ([0, 6, 0, 1, 2, 3, 4, 5, 6, 7, 8, 9, 10, 11, 12], [0, 6]), ([13, 12, 0, 1, 2, 3, 4, 5, 6, 7, 8, 9, 10, 11, 12], [12, 13])])
def assartref02_Crash.B6 : List Nat := [0, 0, 2, 0, 14, 30, 62, 0, 128, 0, 896, 1920, 3968, 8191, 16383]
theorem assartref02_Crash.tab6 : rtab .any (opsOf Tryz.f22 6) = assartref02_Crash.T6 := by kernel_rfl
theorem assartref02_Crash.bits6 : waitsOk assartref02_Crash.T6.2 assartref02_Crash.B6 = true := by kernel_rfl
theorem assartref02_Crash.calls (k : Nat) (A0_0 : Option Addr) (c0_0 : Nat) (l0_0 : List ByteArray) (A0_1 : Option Addr) (c0_1 : Nat) (l0_1 : List (S98)) (A1 : Option Addr) (c1 : Nat) (l1 : List Bool) (r1 : List ByteArray) (r2 : List (S98)) (w : World) (hr0_0 : Kd.C Kd.string w A0_0 l0_0.length l0_0) (hc0_0 : l0_0.length ≤ c0_0) (hr0_1 : Kd.C k98 w A0_1 l0_1.length l0_1) (hc0_1 : l0_1.length ≤ c0_1) (hr1 : Kd.C Kd.bool w A1 l1.length l1) (hc1 : l1.length ≤ c1) (h : assartref02_Crash.f k l0_0 l0_1 l1 = some (r1, r2)) :
  Calls Tryz.prog 22 #[.agg #[.slice A0_0 l0_0.length c0_0, .slice A0_1 l0_1.length c0_1], .slice A1 l1.length c1] w fun e w' => ∃ v0_ v1_ : Value, e = .returned (.agg #[v0_, v1_]) ∧ Kd.R Kd.string 9 w' w.heap.size (fun _ => True) v0_ r1 ∧ Kd.R k98 98 w' w.heap.size (fun _ => True) v1_ r2 ∧ Below w.heap.size w w' := by
 have hu25 := Tryz.underlying25
 have bR := Zk hr0_0
 have cY := Zk hc0_0
 clear hr0_0 hc0_0
 have bI := Zk hr0_1
 have cZ := Zk hc0_1
 clear hr0_1 hc0_1
 have HR1 := Zk hr1
 have HC1 := Zk hc1
 clear hr1 hc1
 have HB := Zk (Below.refl w.heap.size w)
 have H : ((some (([] : List ByteArray) : List ByteArray)).bind fun bD => (if bD.length + l0_0.length < 8796093022208 then (assartref02_Crash.l0 k l1 (bD ++ l0_0) 0 l0_0 l0_1) else (none))) = some (r1, r2) := h
 clear h
 obtain ⟨bD, aZ⟩ : ∃ y_ : List ByteArray, y_ = (([] : List ByteArray)) := ⟨_, rfl⟩
 first | replace H := bnd_ aZ H | rw [← aZ] at H
 have bJ := Zk aZ
 clear aZ
 by_cases c3 : bD.length + l0_0.length < 8796093022208
 case neg => exact no_ c3 H
 rw [if_pos c3] at H
 have LMc3 := Zk c3
 clear c3
 obtain ⟨cO, bA⟩ : ∃ y_ : List ByteArray, y_ = (bD ++ l0_0) := ⟨_, rfl⟩
 first | replace H := bnd_ bA H | rw [← bA] at H
 have bS := Zk bA
 clear bA
 have H' := Zk H
 clear H
 go_enter Tryz.func22, Tryz.ntmps22
 go_wp2_with (first | (refine gd_ 2 ?_; (try (refine gate_guard (by rfl) ?_; dsimp only)); refine bx_ 2 #[.slice A0_0 l0_0.length c0_0, .slice A0_1 l0_1.length c0_1] 25 ?_; intro aW hg w4 hbox hb; have aC := Zk (hbox); have dA := gw_ HB hg; replace HB := al_ HB hb; clear hb hbox hg) | (refine gd_ 4 ?_; (try (refine gate_guard (by rfl) ?_; dsimp only)); refine bx_ 4 #[.slice none 0 0, .slice none 0 0] 25 ?_; intro aT hg w5 hbox hb; have aD := Zk (hbox); have dB := gw_ HB hg; replace HB := al_ HB hb; have aG := n1_ aC hg; have aH := n2_ aC hg; replace aC := ab_ aC hb; clear hb hbox hg) | (refine gd_ 7 ?_; (try (refine gate_guard (by rfl) ?_; dsimp only)); refine Kd.R_lit Kd.string _ 9 ?hg (N := 7) ?hd (xs := ([] : List ByteArray)) (inner := []) (ok := fun _ => True) (okp := fun _ => True) ?hr ?hp (fun _ hk => hk) trivial (Below.refl _ _) (Nat.le_refl _) (by simp) ?_; (case hd => rfl); (case hg => rfl); (case hr => first | (go_simp; done) | (go_simp; rfl)); (case hp => exact (Reps.none _ _)); intro cP w6 ho7 hb hg_ hnew_; clear hg_ hnew_; (first | rw [← bJ.out] at ho7 | (simp only [Int.reduceToNat] at ho7; rw [← bJ.out] at ho7)); have bB := Zk (Kd.R_lower ho7 (below_size (bl_ HB))); replace aC := ab_ aC hb; replace aD := ab_ aD hb; replace HB := al_ HB hb; clear hb ho7; obtain ⟨dN, dO⟩ := nn_ aG aH; obtain ⟨cQ, cR, cS, cT⟩ := cf2_ aC) | ((with_reducible refine gate_builtin (b := .append) (xs := #[.tmp 7, .tmp 9]) rfl ?_); (try (refine gate_guard (by rfl) ?_; dsimp only)); at_builtin; refine Kd.R_append_rows Kd.string (w0 := w) w.heap.size rfl (.tmp 7) (.tmp 9) 22 9 (.string ⟨#[]⟩) 16 rfl Tryz.underlying22 info9 rfl (by decide) (by omega) cP bD l0_0 _ _ _ (fun _ => True) (fun _ => False) rfl rfl ?aO ?aR (fun _ _ h => h) (fun _ h => h.elim) ?aF ?aB ?aS ?aL ?_; (case aR => repeat (first | exact (Kd.C_below bR.out HB.out) | (with_reducible refine Kd.C_alloc ?_ _) | (with_reducible refine Kd.C_drewN ?_ _) | (with_reducible refine Kd.C_drew ?_))); (case aB => exact (bl_ HB)); (case aF => exact (fun _ _ => trivial)); (case aO => exact (r_ bB)); (case aS => exact (below_size (bl_ HB))); (case aL => have := LMc3.out; omega); intro bT w10 ho hb hg hat; rw [← bS.out] at ho; replace aC := Zk (blk_grown (g := aW) (o := .cells #[.slice A0_0 l0_0.length c0_0, .slice A0_1 l0_1.length c0_1] 25 (0, 0)) (bk_ aC) hg (Kd.R_ne bB.out aC.out (by decide))); replace aD := Zk (blk_grown (g := aT) (o := .cells #[.slice none 0 0, .slice none 0 0] 25 (0, 0)) (bk_ aD) hg (Kd.R_ne bB.out aD.out (by decide))); replace HB := Zk (hb); have bU := Zk (ho); clear bB; clear ho hb hg hat))
 go_loopg [6] k (fun kq v6 w' => ∃ (aI : List ByteArray) (aA : Int), v6 = .int .i64 aA ∧ Aside0 (assartref02_Crash.l0 kq l1 aI aA l0_0 l0_1 = some (r1, r2)) ∧ Aside0 (kq ≤ k) ∧ Aside0 (Kd.R Kd.string 9 w' w.heap.size (fun _ => True) bT aI) ∧ Aside0 (w'.heap[aW]? = some (.cells #[(.slice A0_0 l0_0.length c0_0), (.slice A0_1 l0_1.length c0_1)] 25 (0, 0))) ∧ Aside0 (w'.heap[aT]? = some (.cells #[(.slice none 0 0), (.slice none 0 0)] 25 (0, 0))) ∧ Aside0 (Below w.heap.size w w'))
 case atStart => exact ⟨(cO), (0), q_, H', ⟨Nat.le_refl _⟩, ⟨r_ bU⟩, ⟨bk_ aC⟩, ⟨bk_ aD⟩, ⟨bl_ HB⟩⟩
 case round =>
  clear H'
  obtain ⟨aI, aA, rfl, HA, HK1, aJ, aC, aD, HB⟩ := hrel
  cases gk with
  | zero => exact absurd HA.out (by simp [assartref02_Crash.l0])
  | succ k1 =>
   have H := HA.out
   clear HA
   simp only [assartref02_Crash.l0] at H
   have bK := Zk H
   clear H
   go_upto_region 3 with (fail)
   go_cut [21] (fun v21 wc => ∃ (kq : Nat) (aV : Bool), v21 = .bool aV ∧ Aside0 (assartref02_Crash.j1 kq l1 aI aA aV l0_0 l0_1 = some (r1, r2)) ∧ Aside0 (kq ≤ k1) ∧ Aside0 (Kd.R Kd.string 9 wc w.heap.size (fun _ => True) bT aI) ∧ Aside0 (wc.heap[aW]? = some (.cells #[(.slice A0_0 l0_0.length c0_0), (.slice A0_1 l0_1.length c0_1)] 25 (0, 0))) ∧ Aside0 (wc.heap[aT]? = some (.cells #[(.slice none 0 0), (.slice none 0 0)] 25 (0, 0))) ∧ Aside0 (Below w.heap.size w wc))
   case first =>
    have H := bK.out
    clear bK
    by_cases c12 : aA < (l0_1.length : Int)
    case neg =>
     rw [if_neg c12] at H
     have aU := decide_eq_false c12
     clear c12
     (first | rw [aU] | (simp only [i64_w, i32_w]; rw [aU]) | skip)
     have H' := Zk H
     clear H
     obtain ⟨dC, dD⟩ := nn_ aG aH
     obtain ⟨cC, cD, cE, cF⟩ := cf2_ aC
     go_wp2
     go_meet
     case rel => exact ⟨_, (false), q_, H', ⟨by have := HK1.out; first | omega | exact Nat.le_refl _⟩, ⟨r_ aJ⟩, ⟨bk_ aC⟩, ⟨bk_ aD⟩, ⟨bl_ HB⟩⟩
    rw [if_pos c12] at H
    have aU := decide_eq_true c12
    clear c12
    (first | rw [aU] | (simp only [i64_w, i32_w]; rw [aU]) | skip)
    have H' := Zk H
    clear H
    obtain ⟨dE, dF⟩ := nn_ aG aH
    obtain ⟨cG, cH, cI, cJ⟩ := cf2_ aC
    go_wp2
    go_meet
    case rel => exact ⟨_, (decide (aA < (l1.length : Int))), q_, H', ⟨by have := HK1.out; first | omega | exact Nat.le_refl _⟩, ⟨r_ aJ⟩, ⟨bk_ aC⟩, ⟨bk_ aD⟩, ⟨bl_ HB⟩⟩
   case rest =>
    clear bK
    try clear aU
    obtain ⟨kq, aV, rfl, HA, HJ10, aJ, aC, aD, HB⟩ := hcut
    cases kq with
    | zero => exact absurd HA.out (by simp [assartref02_Crash.j1])
    | succ kj10 =>
     have H := HA.out
     clear HA
     simp only [assartref02_Crash.j1] at H
     by_cases c17 : aV = true
     case neg =>
      replace c17 := Bool.eq_false_iff.mpr c17
      subst c17
      rw [if_neg (show ¬ (false = true) by decide)] at H
      simp only [Option.some.injEq, Prod.mk.injEq] at H
      obtain ⟨rfl, rfl⟩ := H
      obtain ⟨bV, bW, cU⟩ := Kd.R_slice aJ.out
      subst cU
      obtain ⟨dG, dH⟩ := nn_ aH aG
      obtain ⟨cK, cL, cM, cN⟩ := cf2_ aD
      go_wp2
      refine bodyPost_ret (results_cell_row rfl _ _ aT 25 #[.slice bV aI.length bW, .slice none 0 0] (0, 0) _ rfl (bp_ aD) Tryz.underlying25 rfl (by kernel_rfl)) rfl ?_
      exact ⟨_, _, e_, by (with_reducible repeat (first | apply Kd.R_alloc | apply Kd.R_drewN | apply Kd.R_drew)); exact Kd.R_mono (Kd.R_far (p := ⟨aT, 1, none⟩) (Kd.R_far (p := ⟨aT, 0, none⟩) (Kd.R_types aJ.out aD.out (by decide)) (fun _ hk => hk.2) (.slice bV aI.length bW)) (fun _ hk => hk.2) (.slice none 0 0)) (fun _ hk => trivial), by first | exact Kd.R_nil _ _ _ _ _ | exact Kd.N_nil _ _ _ _ _ | exact Kd.V_nil _ _ _ _ _ | exact Kd.Q_nil _ _ _ _ _ | exact Kd.S_nil _ _ _ _ _, bl_ HB⟩
     subst c17
     rw [if_pos rfl] at H
     by_cases c18 : 0 ≤ aA
     case neg => exact no_ c18 H
     rw [if_pos c18] at H
     have dI := decide_eq_true c18
     clear c18
     by_cases c19 : aA < (l1.length : Int)
     case neg => exact no_ c19 H
     rw [if_pos c19] at H
     have dJ := decide_eq_true c19
     clear c19
     obtain ⟨bq20, hbq20⟩ : ∃ b_ : Bool, b_ = (rdOf false l1 aA) := ⟨_, rfl⟩
     replace H : (if bq20 = true then (if aA < (l0_1.length : Int) then (if 0 ≤ ((rd_T98 l0_1 aA).f0) then (if ((rd_T98 l0_1 aA).f0) < (aI.length : Int) then (assartref02_Crash.l0 kj10 l1 (aI.set (((rd_T98 l0_1 aA).f0) : Int).toNat ((rd_T98 l0_1 aA).f1)) (wrap64 (aA + 1)) l0_0 l0_1) else (none)) else (none)) else (none)) else (assartref02_Crash.l0 kj10 l1 aI (wrap64 (aA + 1)) l0_0 l0_1)) = some (r1, r2) := by rw [← hbq20] at H; exact H
     have Nbq20 := Zk hbq20
     clear hbq20
     by_cases c21 : bq20 = true
     case neg =>
      replace c21 := Bool.eq_false_iff.mpr c21
      subst c21
      rw [if_neg (show ¬ (false = true) by decide)] at H
      have H' := Zk H
      clear H
      have aX : 0 ≤ (aA : Int) := of_decide_eq_true as_
      have aY : aA < (l1.length : Int) := of_decide_eq_true as_
      obtain ⟨bX, bL, aE⟩ := Kd.at_bool HR1.out aA aX aY
      (try rw [← Nbq20.out] at aE)
      cases bL
      replace aE := hx_ HB aE
      replace aX := eq_true aX
      replace aY := eq_true aY
      go_wp2
      go_roundg kj10
      case measure => have := HK1.out; have := HJ10.out; omega
      case rel => exact ⟨(aI), (wrap64 (aA + 1)), q_, H', ⟨by have := HK1.out; have := HJ10.out; omega⟩, ⟨r_ aJ⟩, ⟨bk_ aC⟩, ⟨bk_ aD⟩, ⟨bl_ HB⟩⟩
     subst c21
     rw [if_pos rfl] at H
     by_cases c22 : aA < (l0_1.length : Int)
     case neg => exact no_ c22 H
     rw [if_pos c22] at H
     have dK := decide_eq_true c22
     clear c22
     by_cases c23 : 0 ≤ ((rd_T98 l0_1 aA).f0)
     case neg => exact no_ c23 H
     rw [if_pos c23] at H
     have dL := decide_eq_true c23
     clear c23
     by_cases c24 : ((rd_T98 l0_1 aA).f0) < (aI.length : Int)
     case neg => exact no_ c24 H
     rw [if_pos c24] at H
     have dM := decide_eq_true c24
     clear c24
     obtain ⟨cV, bC⟩ : ∃ y_ : List ByteArray, y_ = (aI.set (((rd_T98 l0_1 aA).f0) : Int).toNat ((rd_T98 l0_1 aA).f1)) := ⟨_, rfl⟩
     first | replace H := bnd_ bC H | rw [← bC] at H
     have bY := Zk bC
     clear bC
     have H' := Zk H
     clear H
     have aX : 0 ≤ (aA : Int) := of_decide_eq_true as_
     have aY : aA < (l1.length : Int) := of_decide_eq_true as_
     obtain ⟨bX, bL, aE⟩ := Kd.at_bool HR1.out aA aX aY
     (try rw [← Nbq20.out] at aE)
     cases bL
     replace aE := hx_ HB aE
     replace aX := eq_true aX
     replace aY := eq_true aY
     try go_wp2
     replace aJ := Zk (Kd.R_drew aJ.out)
     replace aC := Zk (blk_drew aC.out)
     replace aD := Zk (blk_drew aD.out)
     replace HB := Zk (below_drew1 HB.out)
     have bM : 0 ≤ (aA : Int) := of_decide_eq_true as_
     have bN : aA < (l0_1.length : Int) := of_decide_eq_true as_
     obtain ⟨aK, cW, aM, aN⟩ := at_T98 bI.out aA bM bN
     have bE := aN
     have bF := aM
     cases cW
     replace aM := hx_ HB aM
     replace aN := hx_ HB aN
     replace bM := eq_true bM
     replace bN := eq_true bN
     have bO : 0 ≤ (aA : Int) := of_decide_eq_true as_
     have bP : aA < (l0_1.length : Int) := of_decide_eq_true as_
     obtain ⟨bZ, cX, aP, aQ⟩ := at_T98 bI.out aA bO bP
     have bG := aQ
     have bH := aP
     obtain rfl : aK = bZ := (by injection cX)
     replace aP := hx_ HB aP
     replace aQ := hx_ HB aQ
     replace bO := eq_true bO
     replace bP := eq_true bP
     have p25 : 0 ≤ (((rd_T98 l0_1 aA).f0) : Int) := of_decide_eq_true as_
     have q25 : (((rd_T98 l0_1 aA).f0) : Int) < ((aI.length : Int) : Int) := of_decide_eq_true as_
     obtain ⟨go25, dP, cA, cB, gl25, cl25, HG25⟩ := Kd.R_form aJ.out (by omega)
     (first | cases cA | (injection cA with ea_ en_ ec_; (first | subst ea_ | (injection ea_ with ea_; subst ea_)); subst ec_; clear en_))
     have GB25 := Zk cB
     have GG25 := Zk HG25
     clear cB gl25 HG25
     obtain ⟨bQ, hf25_0⟩ := Kd.R_celln (⟨#[]⟩ : ByteArray) aJ.out (((rd_T98 l0_1 aA).f0) : Int) p25 q25
     replace p25 := eq_true p25
     replace q25 := eq_true q25
     have HP27 := Kd.R_putn aJ.out (((rd_T98 l0_1 aA).f0) : Int) ((rd_T98 l0_1 aA).f1)
     rw [← bY.out] at HP27
     have HQ27 := Zk HP27
     clear HP27
     refine start_ (n := 15) (S := fun w' => w'.cell? ⟨aW, 0, none⟩ = some (.slice A0_0 l0_0.length c0_0) ∧ w'.cell? ⟨aW, 1, none⟩ = some (.slice (some aK) l0_1.length c0_1) ∧ w'.cell? (aK.add ((aA).toNat * 2)) = some (.int .i64 ((rd_T98 l0_1 aA).f0)) ∧ w'.cell? ⟨(aK.add ((aA).toNat * 2)).block, (aK.add ((aA).toNat * 2)).off + 1, none⟩ = some (.string ((rd_T98 l0_1 aA).f1)) ∧ w'.cell? (aK.add ((aA).toNat * 2)) = some (.int .i64 ((rd_T98 l0_1 aA).f0)) ∧ w'.cell? ⟨(aK.add ((aA).toNat * 2)).block, (aK.add ((aA).toNat * 2)).off + 1, none⟩ = some (.string ((rd_T98 l0_1 aA).f1))) (ds := [14]) #[false, false, false, false, false, false, false, false, false, false, false, false, false, false, false] (by kernel_rfl) rfl rfl ⟨(blk_cell aC.out 0).trans rfl, (blk_cell aC.out 1).trans rfl, (hx_ HB bF), (hx_ HB bE), (hx_ HB bH), (hx_ HB bG)⟩ (fun hHeld => ?_); refine with_tabW assartref02_Crash.tab6 assartref02_Crash.bits6 (fun HT_ HW_ => ?_)
     generalize wc.drew = w26 at aJ aC aD HB GG25 HQ27 hf25_0 bQ aM aN aP aQ hHeld ⊢
     refine pu_ 0 28 ?_
     refine pu_ 1 29 ?_
     refine pu_ 3 31 ?_
     refine pu_ 7 35 ?_
     refine pu_ 9 37 ?_
     refine tk_ 2 30 ?_
     refine pu_ 4 32 ?_
     refine pu_ 5 33 ?_
     refine tk_ 6 34 ?_
     refine tk_ 8 36 ?_
     refine pu_ 10 38 ?_
     refine pu_ 11 39 ?_
     refine tk_ 12 40 ?_
     refine pu_ 13 41 ?_
     refine last_ (i := 14) (N := none) #[true, true, true, true, true, true, true, true, true, true, true, true, true, true, true] rfl rfl (one_of HT_.out (by kernel_rfl)) (by decide) (fun K hK => ?_)
     refine skip_ (w1 := ?_) (by rfl) rfl ?_ ?_
     rotate_left
     ·go_simp
      rfl
     refine hK.out _ _ ?_
     clear hK K
     refine done_ (done_of HT_.out (by kernel_rfl)) ?_
     try go_wp2
     go_roundg kj10
     case measure => have := HK1.out; have := HJ10.out; omega
     case rel => exact ⟨(cV), (wrap64 (aA + 1)), q_, H', ⟨by have := HK1.out; have := HJ10.out; omega⟩, ⟨r_ HQ27⟩, ⟨by (with_reducible repeat (first | refine blk_drewN ?_ _ | refine blk_drew ?_ | refine blk_alloc ?_ _)); refine blk_far ?_ (by have h_ := Kd.R_ne aJ.out aC.out (by decide); intro e_; exact h_ (by rw [e_]; rfl)) _; (with_reducible repeat (first | refine blk_drewN ?_ _ | refine blk_drew ?_ | refine blk_alloc ?_ _)); exact aC.out⟩, ⟨by (with_reducible repeat (first | refine blk_drewN ?_ _ | refine blk_drew ?_ | refine blk_alloc ?_ _)); refine blk_far ?_ (by have h_ := Kd.R_ne aJ.out aD.out (by decide); intro e_; exact h_ (by rw [e_]; rfl)) _; (with_reducible repeat (first | refine blk_drewN ?_ _ | refine blk_drew ?_ | refine blk_alloc ?_ _)); exact aD.out⟩, ⟨bl_ HB⟩⟩
end
section
attribute [local go_sem] max2_int min2_int max_two min_two max_three min_three max_four min_four
def assartref02_Flush.l0 : Nat → List Bool → Int → List ByteArray → List (S98) → Option (List ByteArray × (List (S98)))
 | 0, _, _, _, _ => none
 | k + 1, x3, x4, aB, aA => if x4 < (aA.length : Int) then (if x3.length < 140737488355328 then (assartref02_Flush.l0 k (x3 ++ [true]) (wrap64 (x4 + 1)) aB aA) else (none)) else ((assartref02_Crash.f k aB aA x3).bind fun bt488 => (some (bt488.1, bt488.2)))
def assartref02_Flush.f (k : Nat) (l0_0 : List ByteArray) (l0_1 : List (S98)) : Option (List ByteArray × (List (S98))) := assartref02_Flush.l0 k ([] : List Bool) 0 l0_0 l0_1
theorem assartref02_Flush.calls (k : Nat) (A0_0 : Option Addr) (c0_0 : Nat) (l0_0 : List ByteArray) (A0_1 : Option Addr) (c0_1 : Nat) (l0_1 : List (S98)) (r1 : List ByteArray) (r2 : List (S98)) (w : World) (hr0_0 : Kd.C Kd.string w A0_0 l0_0.length l0_0) (hc0_0 : l0_0.length ≤ c0_0) (hr0_1 : Kd.C k98 w A0_1 l0_1.length l0_1) (hc0_1 : l0_1.length ≤ c0_1) (h : assartref02_Flush.f k l0_0 l0_1 = some (r1, r2)) :
  Calls Tryz.prog 7 #[.agg #[.slice A0_0 l0_0.length c0_0, .slice A0_1 l0_1.length c0_1]] w fun e w' => ∃ v0_ v1_ : Value, e = .returned (.agg #[v0_, v1_]) ∧ Kd.R Kd.string 9 w' w.heap.size (fun _ => True) v0_ r1 ∧ Kd.R k98 98 w' w.heap.size (fun _ => True) v1_ r2 ∧ Below w.heap.size w w' := by
 have hu25 := Tryz.underlying25
 have aY := Zk hr0_0
 have aZ := Zk hc0_0
 clear hr0_0 hc0_0
 have bA := Zk hr0_1
 have bB := Zk hc0_1
 clear hr0_1 hc0_1
 have HB := Zk (Below.refl w.heap.size w)
 have H : (assartref02_Flush.l0 k ([] : List Bool) 0 l0_0 l0_1) = some (r1, r2) := h
 clear h
 have H' := Zk H
 clear H
 go_enter Tryz.func7, Tryz.ntmps7
 go_wp2_with (first | (refine gd_ 1 ?_; refine bx_ 1 #[.slice A0_0 l0_0.length c0_0, .slice A0_1 l0_1.length c0_1] 25 ?_; intro aQ hg w2 hbox hb; have aA := Zk (hbox); have bX := gw_ HB hg; replace HB := al_ HB hb; clear hb hbox hg) | (refine gd_ 2 ?_; refine bx_ 2 #[.slice none 0 0, .slice none 0 0] 25 ?_; intro aD hg w3 hbox hb; have aC := Zk (hbox); have bY := gw_ HB hg; replace HB := al_ HB hb; have aE := n1_ aA hg; have aG := n2_ aA hg; replace aA := ab_ aA hb; clear hb hbox hg))
 go_loopg [3, 4] k (fun kq v3 v4 w' => ∃ (aI : List Bool) (aK : Int), v4 = .int .i64 aK ∧ Aside0 (assartref02_Flush.l0 kq aI aK l0_0 l0_1 = some (r1, r2)) ∧ Aside0 (kq ≤ k) ∧ Aside0 (Kd.R Kd.bool 4 w' w.heap.size (fun _ => True) v3 aI) ∧ Aside0 (w'.heap[aQ]? = some (.cells #[(.slice A0_0 l0_0.length c0_0), (.slice A0_1 l0_1.length c0_1)] 25 (0, 0))) ∧ Aside0 (w'.heap[aD]? = some (.cells #[(.slice none 0 0), (.slice none 0 0)] 25 (0, 0))) ∧ Aside0 (Below w.heap.size w w'))
 case atStart => exact ⟨(([] : List Bool)), (0), q_, H', ⟨Nat.le_refl _⟩, ⟨by first | exact Kd.R_nil _ _ _ _ _ | exact Kd.N_nil _ _ _ _ _ | exact Kd.V_nil _ _ _ _ _ | exact Kd.Q_nil _ _ _ _ _ | exact Kd.S_nil _ _ _ _ _⟩, ⟨bk_ aA⟩, ⟨bk_ aC⟩, ⟨bl_ HB⟩⟩
 case round =>
  clear H'
  obtain ⟨aI, aK, rfl, HA, HK1, aH, aA, aC, HB⟩ := hrel
  cases gk with
  | zero => exact absurd HA.out (by simp [assartref02_Flush.l0])
  | succ k1 =>
   have H := HA.out
   clear HA
   simp only [assartref02_Flush.l0] at H
   by_cases c4 : aK < (l0_1.length : Int)
   case pos =>
    rw [if_pos c4] at H
    have bM := decide_eq_true c4
    clear c4
    by_cases c5 : aI.length < 140737488355328
    case neg => exact no_ c5 H
    rw [if_pos c5] at H
    have LMc5 := Zk c5
    clear c5
    obtain ⟨bN, aJ⟩ : ∃ y_ : List Bool, y_ = (aI ++ [true]) := ⟨_, rfl⟩
    first | replace H := bnd_ aJ H | rw [← aJ] at H
    have bC := Zk aJ
    clear aJ
    have H' := Zk H
    clear H
    obtain ⟨cB, cC⟩ := nn_ aE aG
    obtain ⟨bO, bP, bQ, bR⟩ := cf2_ aA
    go_wp2_with (first | ((with_reducible refine gate_builtin (b := .append) (xs := #[.tmp 12, .tmp 13]) rfl ?_); at_builtin; refine Kd.R_append Kd.bool (w0 := w) w.heap.size rfl (.tmp 12) (.tmp 13) 66 4 (.bool false) 1 rfl Tryz.underlying66 info4 rfl (by decide) (by omega) u3 aI true [.bool true] (fun _ => True) (fun _ => False) rfl rfl ?aP (fun _ hk => hk.elim) ?aF ?aO ?aB ?aS ?aL ?_; (case aP => exact rfl); (case aB => exact (bl_ HB)); (case aF => exact (fun _ _ => trivial)); (case aO => exact (r_ aH)); (case aS => exact (below_size (bl_ HB))); (case aL => have := LMc5.out; omega); intro cD w8 ho hb hg hat; rw [← bC.out] at ho; replace aA := Zk (blk_grown (g := aQ) (o := .cells #[.slice A0_0 l0_0.length c0_0, .slice A0_1 l0_1.length c0_1] 25 (0, 0)) (bk_ aA) hg (Kd.R_ne aH.out aA.out (by decide))); replace aC := Zk (blk_grown (g := aD) (o := .cells #[.slice none 0 0, .slice none 0 0] 25 (0, 0)) (bk_ aC) hg (Kd.R_ne aH.out aC.out (by decide))); replace HB := Zk (hb); have bD := Zk (ho); clear aH; clear ho hb hg hat))
    go_roundg k1
    case measure => have := HK1.out; omega
    case rel => exact ⟨(bN), (wrap64 (aK + 1)), q_, H', ⟨by have := HK1.out; omega⟩, ⟨r_ bD⟩, ⟨bk_ aA⟩, ⟨bk_ aC⟩, ⟨bl_ HB⟩⟩
   rw [if_neg c4] at H
   have bM := decide_eq_false c4
   clear c4
   replace H := Option.bind_eq_some_iff.mp H
   obtain ⟨⟨aM, aN⟩, A90, H⟩ := H
   (try dsimp only at H)
   have A9 := Zk A90
   clear A90
   simp only [Option.some.injEq, Prod.mk.injEq] at H
   obtain ⟨rfl, rfl⟩ := H
   obtain ⟨bZ, cA⟩ := nn_ aE aG
   obtain ⟨bE, bF, bG, bH⟩ := cf2_ aA
   obtain ⟨bS, bT, bU⟩ := Kd.R_slice aH.out
   subst bU
   go_wp2_with (first | (refine gc_ 22 ?_; refine gl_ 22 (some 17) #[.agg #[.slice A0_0 l0_0.length c0_0, .slice A0_1 l0_1.length c0_1], .slice bS aI.length bT] Tryz.func22 ?_; (with_reducible refine (assartref02_Crash.calls k1 _ _ l0_0 _ _ l0_1 _ _ aI aM aN _ (cb_ aY HB) aZ.out (cb_ bA HB) bB.out (ct_ (Kd.R_reads' aH.out).2.2) ((Kd.R_reads' aH.out).2.1) A9.out).mono ?_); rintro e w13 ⟨cE, cF, rfl, ho0, ho1, hb⟩; refine ⟨_, rfl, ?_⟩; replace aH := ar_ aH hb; have aR := Zk (Kd.R_lower ho0 (below_size (bl_ HB))); have aT := Zk (Kd.R_lower ho1 (below_size (bl_ HB))); replace aA := ab_ aA hb; replace aC := ab_ aC hb; replace HB := al_ HB hb; (try clear hb); (try clear ho0); (try clear ho1); obtain ⟨aU, aV, bV⟩ := Kd.R_slice aR.out; subst bV; obtain ⟨bI, bJ, bK, bL⟩ := cf2_ aC; obtain ⟨aW, aX, bW⟩ := Kd.R_slice aT.out; subst bW))
   refine bodyPost_ret (results_cell_row rfl _ _ aD 25 #[.slice aU aM.length aV, .slice aW aN.length aX] (0, 0) _ rfl (bp_ aC) Tryz.underlying25 rfl (by kernel_rfl)) rfl ?_
   exact ⟨_, _, e_, by (with_reducible repeat (first | apply Kd.R_alloc | apply Kd.R_drewN | apply Kd.R_drew)); exact Kd.R_mono (Kd.R_far (p := ⟨aD, 1, none⟩) (Kd.R_far (p := ⟨aD, 0, none⟩) (Kd.R_types aR.out aC.out (by decide)) (fun _ hk => hk.2) (.slice aU aM.length aV)) (fun _ hk => hk.2) (.slice aW aN.length aX)) (fun _ hk => trivial), by (with_reducible repeat (first | apply Kd.R_alloc | apply Kd.R_drewN | apply Kd.R_drew)); exact Kd.R_mono (Kd.R_far (p := ⟨aD, 1, none⟩) (Kd.R_far (p := ⟨aD, 0, none⟩) (Kd.R_types aT.out aC.out (by decide)) (fun _ hk => hk.2) (.slice aU aM.length aV)) (fun _ hk => hk.2) (.slice aW aN.length aX)) (fun _ hk => trivial), bl_ HB⟩
end
def applyW (bs : List ByteArray) (ws : List S98) : List ByteArray := ws.foldl (fun b x => b.set x.f0.toNat x.f1) bs
theorem applyW_len (ws : List S98) : ∀ bs : List ByteArray, (applyW bs ws).length = bs.length := by
 induction ws with
 | nil => intro bs; rfl
 | cons x r ih => intro bs; show (applyW (bs.set x.f0.toNat x.f1) r).length = _; rw [ih, List.length_set]
def inW (n : Nat) (ws : List S98) : Prop := ∀ x ∈ ws, 0 ≤ x.f0 ∧ x.f0 < (n : Int)
theorem rd98_cons {ws : List S98} {j : Nat} (h : j < ws.length) : ws.drop j = rd_T98 ws (j : Nat) :: ws.drop (j + 1) := by
 rw [List.drop_eq_getElem_cons h]
 congr 1
 simp [rd_T98, h]
theorem rd98_mem {ws : List S98} {j : Nat} (h : j < ws.length) : rd_T98 ws (j : Nat) ∈ ws := by
 have : rd_T98 ws (j : Nat) = ws[j] := by simp [rd_T98, h]
 rw [this]; exact List.getElem_mem h
theorem crash_val (l0 : List ByteArray) (ws : List S98) (keep : List Bool) (hk : keep = List.replicate ws.length true) (hw : ws.length < 1000000) :
  ∀ (d k j : Nat) (bs : List ByteArray), j + d = ws.length → 2 * d + 3 ≤ k → inW bs.length ws → assartref02_Crash.l0 k keep bs (j : Nat) l0 ws = some (applyW bs (ws.drop j), []) := by
 have hkl : keep.length = ws.length := by rw [hk, List.length_replicate]
 intro d
 induction d with
 | zero =>
  intro k j bs hj hk2 hin
  obtain ⟨k, rfl⟩ : ∃ k', k = k' + 2 := ⟨k - 2, by omega⟩
  rw [assartref02_Crash.l0, if_neg (by omega), assartref02_Crash.j1, if_neg (by decide), List.drop_eq_nil_of_le (by omega)]
  rfl
 | succ d ih =>
  intro k j bs hj hk2 hin
  obtain ⟨k, rfl⟩ : ∃ k', k = k' + 2 := ⟨k - 2, by omega⟩
  have hjl : j < ws.length := by omega
  have hx := hin _ (rd98_mem hjl)
  have ht : rdOf false keep (j : Nat) = true := by
   unfold rdOf
   rw [Int.toNat_natCast, hk, List.getD_eq_getElem?_getD, List.getElem?_replicate, if_pos hjl]; rfl
  rw [assartref02_Crash.l0, if_pos (by omega), decide_eq_true (by omega : (j : Int) < (keep.length : Int)), assartref02_Crash.j1, if_pos rfl, if_pos (by omega), if_pos (by omega), if_pos ht, if_pos (by omega), if_pos hx.1, if_pos hx.2, show wrap64 ((j : Int) + 1) = ((j + 1 : Nat) : Int) from by rw [w64 (by omega) (by omega)]; push_cast; rfl,
   ih k (j + 1) _ (by omega) (by omega) (by rw [List.length_set]; exact hin), rd98_cons hjl]
  rfl
theorem flush_val (l0 : List ByteArray) (ws : List S98) (hw : ws.length < 1000) (hl : l0.length < 1000000) (hin : inW l0.length ws) : assartref02_Flush.f 100000 l0 ws = some (applyW l0 ws, []) := by
 have key : ∀ (d k j : Nat), j + d = ws.length → d + 2 * ws.length + 10 ≤ k → assartref02_Flush.l0 k (List.replicate j true) (j : Nat) l0 ws = some (applyW l0 ws, []) := by
  intro d
  induction d with
  | zero =>
   intro k j hj hk
   obtain ⟨k, rfl⟩ : ∃ k', k = k' + 1 := ⟨k - 1, by omega⟩
   obtain rfl : j = ws.length := by omega
   rw [assartref02_Flush.l0, if_neg (by omega)]
   unfold assartref02_Crash.f
   have := crash_val l0 ws (List.replicate ws.length true) rfl (by omega) ws.length k 0 l0 (by omega) (by omega) hin
   simp only [Option.bind_some, List.length_nil, List.nil_append]
   rw [if_pos (by omega)]
   rw [show ((0 : Nat) : Int) = 0 from rfl] at this
   rw [this]
   rfl
  | succ d ih =>
   intro k j hj hk
   obtain ⟨k, rfl⟩ : ∃ k', k = k' + 1 := ⟨k - 1, by omega⟩
   rw [assartref02_Flush.l0, if_pos (by omega), if_pos (by rw [List.length_replicate]; omega), show wrap64 ((j : Int) + 1) = ((j + 1 : Nat) : Int) from by rw [w64 (by omega) (by omega)]; push_cast; rfl]
   rw [show List.replicate j true ++ [true] = List.replicate (j + 1) true from by rw [List.replicate_succ']]
   exact ih k (j + 1) (by omega) (by omega)
 unfold assartref02_Flush.f
 exact key ws.length 100000 0 (by omega) (by omega)
theorem applyW_read (ws : List S98) : ∀ (bs : List ByteArray) (a : Nat), a < bs.length → inW bs.length ws → rdOf ByteArray.empty (applyW bs ws) (a : Nat) = (lastW ws (a : Nat)).getD (rdOf ByteArray.empty bs (a : Nat)) := by
 induction ws with
 | nil => intro bs a ha hin; rfl
 | cons x r ih =>
  intro bs a ha hin
  show rdOf _ (applyW (bs.set x.f0.toNat x.f1) r) _ = _
  rw [ih _ a (by rw [List.length_set]; exact ha) (by rw [List.length_set]; exact fun y hy => hin y (List.mem_cons_of_mem _ hy))]
  have hx := hin x List.mem_cons_self
  have e : lastW (x :: r) (a : Nat) = (lastW r (a : Nat)).or (if x.f0 = (a : Nat) then some x.f1 else none) := by
   unfold lastW
   rw [List.reverse_cons, List.find?_append]
   cases h1 : r.reverse.find? (fun y => decide (y.f0 = (a : Int))) with
   | some v => simp
   | none =>
    by_cases h2 : x.f0 = (a : Int)
    case neg => simp [h2]
    simp [h2]
  rw [e]
  cases h1 : lastW r (a : Nat) with
  | some v => simp
  | none =>
   simp only [Option.getD_none, Option.none_or]
   unfold rdOf
   rw [Int.toNat_natCast, List.getD_eq_getElem?_getD, List.getD_eq_getElem?_getD, List.getElem?_set]
   by_cases h2 : x.f0 = (a : Int)
   case neg => rw [if_neg h2, if_neg (by omega)]; rfl
   rw [if_pos h2, if_pos (by omega), if_pos (by omega)]; rfl
theorem flush_read (bs : List ByteArray) (ws : List S98) (hin : inW bs.length ws) (a : Int) : readB (applyW bs ws) [] a = readB bs ws a := by
 unfold readB
 rw [applyW_len]
 by_cases h : a < 0 ∨ (bs.length : Int) ≤ a
 case pos => rw [if_pos h, if_pos h]
 rw [if_neg h, if_neg h]
 obtain ⟨n, rfl⟩ : ∃ n : Nat, a = n := ⟨a.toNat, by omega⟩
 rw [applyW_read ws bs n (by omega) hin]
 rfl
section
attribute [local go_sem] max2_int min2_int max_two min_two max_three min_three max_four min_four
def assartref02_Short.l0 : Nat → List (S98) → Int → Option (Bool)
 | 0, _, _ => none
 | k + 1, x0, x5 => if x5 < (x0.length : Int) then (if 0 ≤ x5 then (if (((rd_T98 x0 x5).f1).size : Int) > 100 then (some false) else (assartref02_Short.l0 k x0 (wrap64 (x5 + 1)))) else (none)) else (some true)
def assartref02_Short.f (k : Nat) (l0 : List (S98)) (a1 : Int) : Option (Bool) := if (l0.length : Int) > a1 then (some false) else (assartref02_Short.l0 k l0 0)
theorem assartref02_Short.calls (k : Nat) (A0 : Option Addr) (c0 : Nat) (l0 : List (S98)) (a1 : Int) (r : Bool) (w : World) (hr0 : Kd.C k98 w A0 l0.length l0) (hc0 : l0.length ≤ c0) (h : assartref02_Short.f k l0 a1 = some r) :
  Calls Tryz.prog 46 #[.slice A0 l0.length c0, .int .i64 a1] w fun e w' => e = .returned (.bool r) ∧ Drawn0 w w' := by
 have HR0 := Zk hr0
 have HC0 := Zk hc0
 clear hr0 hc0
 have H : (if (l0.length : Int) > a1 then (some false) else (assartref02_Short.l0 k l0 0)) = some r := h
 clear h
 by_cases c3 : (l0.length : Int) > a1
 case pos =>
  rw [if_pos c3] at H
  have aG : decide (a1 < (l0.length : Int)) = true := decide_eq_true c3
  clear c3
  obtain rfl := Option.some.inj H
  go_enter Tryz.func46, Tryz.ntmps46
  go_wp2
  go_ret
  exact ⟨q_, by repeat (first | exact Drawn0.refl _ | apply Drawn0.step)⟩
 rw [if_neg c3] at H
 have aG : decide (a1 < (l0.length : Int)) = false := decide_eq_false c3
 clear c3
 have H' := Zk H
 clear H
 go_enter Tryz.func46, Tryz.ntmps46
 go_wp2
 go_loopg [5] k (fun kq v5 w' => ∃ (aA : Int), v5 = .int .i64 aA ∧ Aside0 (assartref02_Short.l0 kq l0 aA = some r) ∧ Aside0 (kq ≤ k) ∧ Drawn0 w w')
 case atStart => exact ⟨(0), q_, H', ⟨Nat.le_refl _⟩, by repeat (first | exact Drawn0.refl _ | apply Drawn0.step)⟩
 case round =>
  clear H'
  try clear aG
  obtain ⟨aA, rfl, HA, HK1, ⟨m1, rfl⟩⟩ := hrel
  cases gk with
  | zero => exact absurd HA.out (by simp [assartref02_Short.l0])
  | succ k1 =>
   have H := HA.out
   clear HA
   simp only [assartref02_Short.l0] at H
   by_cases c4 : aA < (l0.length : Int)
   case neg =>
    rw [if_neg c4] at H
    have aI := decide_eq_false c4
    clear c4
    obtain rfl := Option.some.inj H
    go_wp2
    go_ret
    exact ⟨q_, by repeat (first | exact Drawn0.refl _ | apply Drawn0.step)⟩
   rw [if_pos c4] at H
   have aI := decide_eq_true c4
   clear c4
   by_cases c5 : 0 ≤ aA
   case neg => exact no_ c5 H
   rw [if_pos c5] at H
   have aL := decide_eq_true c5
   clear c5
   by_cases c6 : (((rd_T98 l0 aA).f1).size : Int) > 100
   case pos =>
    rw [if_pos c6] at H
    have aJ : decide (100 < (((rd_T98 l0 aA).f1).size : Int)) = true := decide_eq_true c6
    have aK : decide (100 < ((rd_T98 l0 aA).f1).size) = true := decide_eq_true (by omega)
    clear c6
    obtain rfl := Option.some.inj H
    have aB : 0 ≤ (aA : Int) := of_decide_eq_true as_
    have aC : aA < (l0.length : Int) := of_decide_eq_true as_
    obtain ⟨aH, aF, aD, aE⟩ := at_T98 HR0.out aA aB aC
    cases aF
    replace aB := eq_true aB
    replace aC := eq_true aC
    go_wp2
    go_ret
    exact ⟨q_, by repeat (first | exact Drawn0.refl _ | apply Drawn0.step)⟩
   rw [if_neg c6] at H
   have aJ : decide (100 < (((rd_T98 l0 aA).f1).size : Int)) = false := decide_eq_false c6
   have aK : decide (100 < ((rd_T98 l0 aA).f1).size) = false := decide_eq_false (by omega)
   clear c6
   have H' := Zk H
   clear H
   have aB : 0 ≤ (aA : Int) := of_decide_eq_true as_
   have aC : aA < (l0.length : Int) := of_decide_eq_true as_
   obtain ⟨aH, aF, aD, aE⟩ := at_T98 HR0.out aA aB aC
   cases aF
   replace aB := eq_true aB
   replace aC := eq_true aC
   go_wp2
   go_roundg k1
   case measure => have := HK1.out; omega
   case rel => exact ⟨(wrap64 (aA + 1)), q_, H', ⟨by have := HK1.out; omega⟩, by repeat (first | exact Drawn0.refl _ | apply Drawn0.step)⟩
end
section
attribute [local go_sem] max2_int min2_int max_two min_two max_three min_three max_four min_four
mutual
def assartref02_Small.j0 : Nat → Int → Bool → List ByteArray → List (S98) → Option (Bool)
 | 0, _, _, _, _ => none
 | k + 1, x1, x17, aA, aB => if x17 = true then (some false) else (assartref02_Small.l0 k x1 0 aA aB)
def assartref02_Small.l0 : Nat → Int → Int → List ByteArray → List (S98) → Option (Bool)
 | 0, _, _, _, _ => none
 | k + 1, x1, x5, aA, aB => if x5 < (aA.length : Int) then (if 0 ≤ x5 then (if ((rdOf ByteArray.empty aA x5).size : Int) > 100 then (some false) else (assartref02_Small.l0 k x1 (wrap64 (x5 + 1)) aA aB)) else (none)) else ((assartref02_Short.f k aB x1).bind fun aC => (some aC))
end
def assartref02_Small.f (k : Nat) (l0_0 : List ByteArray) (l0_1 : List (S98)) (a1 : Int) : Option (Bool) := if (l0_0.length : Int) > a1 then (assartref02_Small.j0 k a1 true l0_0 l0_1) else (assartref02_Small.j0 k a1 (decide ((l0_1.length : Int) > a1)) l0_0 l0_1)
theorem assartref02_Small.calls (k : Nat) (A0_0 : Option Addr) (c0_0 : Nat) (l0_0 : List ByteArray) (A0_1 : Option Addr) (c0_1 : Nat) (l0_1 : List (S98)) (a1 : Int) (r : Bool) (w : World) (hr0_0 : Kd.C Kd.string w A0_0 l0_0.length l0_0) (hc0_0 : l0_0.length ≤ c0_0) (hr0_1 : Kd.C k98 w A0_1 l0_1.length l0_1) (hc0_1 : l0_1.length ≤ c0_1) (h : assartref02_Small.f k l0_0 l0_1 a1 = some r) :
  Calls Tryz.prog 14 #[.agg #[.slice A0_0 l0_0.length c0_0, .slice A0_1 l0_1.length c0_1], .int .i64 a1] w fun e w' => e = .returned (.bool r) ∧ Below w.heap.size w w' := by
 have hu25 := Tryz.underlying25
 have aH := Zk hr0_0
 have bM := Zk hc0_0
 clear hr0_0 hc0_0
 have aK := Zk hr0_1
 have aL := Zk hc0_1
 clear hr0_1 hc0_1
 have HB := Zk (Below.refl w.heap.size w)
 have H : (if (l0_0.length : Int) > a1 then (assartref02_Small.j0 k a1 true l0_0 l0_1) else (assartref02_Small.j0 k a1 (decide ((l0_1.length : Int) > a1)) l0_0 l0_1)) = some r := h
 clear h
 have HC3 := Zk H
 clear H
 go_enter Tryz.func14, Tryz.ntmps14
 go_upto_region 1 with (first | (refine gd_ 2 ?_; (try (refine gate_guard (by rfl) ?_; dsimp only)); refine bx_ 2 #[.slice A0_0 l0_0.length c0_0, .slice A0_1 l0_1.length c0_1] 25 ?_; intro aI hg w4 hbox hb; have aA := Zk (hbox); have bN := gw_ HB hg; replace HB := al_ HB hb; clear hb hbox hg))
 (try simp only [Act.put, List.setIfInBounds_toArray, List.set_cons_zero, List.set_cons_succ])
 go_cut [17] (fun v17 wc => ∃ (kq : Nat) (aG : Bool), v17 = .bool aG ∧ Aside0 (assartref02_Small.j0 kq a1 aG l0_0 l0_1 = some r) ∧ Aside0 (kq ≤ k) ∧ Aside0 (wc.heap[aI]? = some (.cells #[(.slice A0_0 l0_0.length c0_0), (.slice A0_1 l0_1.length c0_1)] 25 (0, 0))) ∧ Aside0 (Below w.heap.size w wc))
 case first =>
  have H := HC3.out
  clear HC3
  by_cases c5 : (l0_0.length : Int) > a1
  case pos =>
   rw [if_pos c5] at H
   have aD : decide (a1 < (l0_0.length : Int)) = true := decide_eq_true c5
   clear c5
   (first | rw [aD] | (simp only [i64_w, i32_w]; rw [aD]) | skip)
   have H' := Zk H
   clear H
   obtain ⟨bC, bD, bE, bF⟩ := cf2_ aA
   go_wp2
   go_meet
   case rel => exact ⟨_, (true), q_, H', ⟨by first | omega | exact Nat.le_refl _⟩, ⟨bk_ aA⟩, ⟨bl_ HB⟩⟩
  rw [if_neg c5] at H
  have aD : decide (a1 < (l0_0.length : Int)) = false := decide_eq_false c5
  clear c5
  (first | rw [aD] | (simp only [i64_w, i32_w]; rw [aD]) | skip)
  have H' := Zk H
  clear H
  obtain ⟨bG, bH, bI, bJ⟩ := cf2_ aA
  go_wp2
  go_meet
  case rel => exact ⟨_, (decide ((l0_1.length : Int) > a1)), q_, H', ⟨by first | omega | exact Nat.le_refl _⟩, ⟨bk_ aA⟩, ⟨bl_ HB⟩⟩
 case rest =>
  clear HC3
  try clear aD
  obtain ⟨kq, aG, rfl, HA, HJ2, aA, HB⟩ := hcut
  cases kq with
  | zero => exact absurd HA.out (by simp [assartref02_Small.j0])
  | succ kj2 =>
   have H := HA.out
   clear HA
   simp only [assartref02_Small.j0] at H
   by_cases c8 : aG = true
   case pos =>
    subst c8
    rw [if_pos rfl] at H
    obtain rfl := Option.some.inj H
    go_wp2
    go_ret
    exact ⟨e_, bl_ HB⟩
   replace c8 := Bool.eq_false_iff.mpr c8
   subst c8
   rw [if_neg (show ¬ (false = true) by decide)] at H
   have H' := Zk H
   clear H
   go_wp2
   go_loopg [5] kj2 (fun kq v5 w' => ∃ (aB : Int), v5 = .int .i64 aB ∧ Aside0 (assartref02_Small.l0 kq a1 aB l0_0 l0_1 = some r) ∧ Aside0 (kq ≤ kj2) ∧ Aside0 (w'.heap[aI]? = some (.cells #[(.slice A0_0 l0_0.length c0_0), (.slice A0_1 l0_1.length c0_1)] 25 (0, 0))) ∧ Aside0 (Below w.heap.size w w'))
   case atStart => exact ⟨(0), q_, H', ⟨Nat.le_refl _⟩, ⟨bk_ aA⟩, ⟨bl_ HB⟩⟩
   case round =>
    clear H'
    try clear aD
    obtain ⟨aB, rfl, HA, HK2, aA, HB⟩ := hrel
    cases gk with
    | zero => exact absurd HA.out (by simp [assartref02_Small.l0])
    | succ k2 =>
     have H := HA.out
     clear HA
     simp only [assartref02_Small.l0] at H
     by_cases c9 : aB < (l0_0.length : Int)
     case neg =>
      rw [if_neg c9] at H
      have bK := decide_eq_false c9
      clear c9
      replace H := Option.bind_eq_some_iff.mp H
      obtain ⟨bL, aM, H⟩ := H
      (try dsimp only at H)
      have A14 := Zk aM
      clear aM
      obtain rfl := Option.some.inj H
      obtain ⟨aQ, aR, aS, aT⟩ := cf2_ aA
      go_wp2_with (first | (refine gc_ 46 ?_; refine gl_ 46 (some 35) #[.slice A0_1 l0_1.length c0_1, .int .i64 a1] Tryz.func46 ?_; (with_reducible refine (assartref02_Short.calls k2 _ _ l0_1 a1 bL _ (cb_ aK HB) aL.out A14.out).mono ?_); rintro e w' ⟨rfl, ⟨nd, rfl⟩⟩; refine ⟨_, rfl, ?_⟩))
      go_ret
      exact ⟨e_, bl_ HB⟩
     rw [if_pos c9] at H
     have bK := decide_eq_true c9
     clear c9
     by_cases c10 : 0 ≤ aB
     case neg => exact no_ c10 H
     rw [if_pos c10] at H
     have bO := decide_eq_true c10
     clear c10
     by_cases c11 : ((rdOf ByteArray.empty l0_0 aB).size : Int) > 100
     case pos =>
      rw [if_pos c11] at H
      have aN : decide (100 < ((rdOf ByteArray.empty l0_0 aB).size : Int)) = true := decide_eq_true c11
      have aO : decide (100 < (rdOf ByteArray.empty l0_0 aB).size) = true := decide_eq_true (by omega)
      clear c11
      obtain rfl := Option.some.inj H
      obtain ⟨aU, aV, aW, aX⟩ := cf2_ aA
      have aE : 0 ≤ (aB : Int) := of_decide_eq_true as_
      have aF : aB < (l0_0.length : Int) := of_decide_eq_true as_
      obtain ⟨aP, aJ, aC⟩ := Kd.at_string aH.out aB aE aF
      cases aJ
      replace aC := hx_ HB aC
      replace aE := eq_true aE
      replace aF := eq_true aF
      go_wp2
      go_ret
      exact ⟨e_, bl_ HB⟩
     rw [if_neg c11] at H
     have aN : decide (100 < ((rdOf ByteArray.empty l0_0 aB).size : Int)) = false := decide_eq_false c11
     have aO : decide (100 < (rdOf ByteArray.empty l0_0 aB).size) = false := decide_eq_false (by omega)
     clear c11
     have H' := Zk H
     clear H
     obtain ⟨aY, aZ, bA, bB⟩ := cf2_ aA
     have aE : 0 ≤ (aB : Int) := of_decide_eq_true as_
     have aF : aB < (l0_0.length : Int) := of_decide_eq_true as_
     obtain ⟨aP, aJ, aC⟩ := Kd.at_string aH.out aB aE aF
     cases aJ
     replace aC := hx_ HB aC
     replace aE := eq_true aE
     replace aF := eq_true aF
     go_wp2
     go_roundg k2
     case measure => have := HJ2.out; have := HK2.out; omega
     case rel => exact ⟨(wrap64 (aB + 1)), q_, H', ⟨by have := HJ2.out; have := HK2.out; omega⟩, ⟨bk_ aA⟩, ⟨bl_ HB⟩⟩
end
section
attribute [local go_sem] max2_int min2_int max_two min_two max_three min_three max_four min_four
def assartref02_may.f (l0_0 : List ByteArray) (l0_1 : List (S98)) (a1 : Int) (a2 : ByteArray) : Option (Bool) := if a1 ≥ 0 then (if a1 < (l0_0.length : Int) then (some ((a2.size : Int) == 40)) else (some false)) else (some false)
theorem assartref02_may.calls (A0_0 : Option Addr) (c0_0 : Nat) (l0_0 : List ByteArray) (A0_1 : Option Addr) (c0_1 : Nat) (l0_1 : List (S98)) (a1 : Int) (a2 : ByteArray) (r : Bool) (w : World) (hr0_0 : Kd.C Kd.string w A0_0 l0_0.length l0_0) (hc0_0 : l0_0.length ≤ c0_0) (hr0_1 : Kd.C k98 w A0_1 l0_1.length l0_1) (hc0_1 : l0_1.length ≤ c0_1) (h : assartref02_may.f l0_0 l0_1 a1 a2 = some r) :
  Calls Tryz.prog 47 #[.agg #[.slice A0_0 l0_0.length c0_0, .slice A0_1 l0_1.length c0_1], .int .i64 a1, .string a2] w fun e w' => e = .returned (.bool r) ∧ Below w.heap.size w w' := by
 have hu25 := Tryz.underlying25
 have aN := Zk hr0_0
 have aO := Zk hc0_0
 clear hr0_0 hc0_0
 have aP := Zk hr0_1
 have aQ := Zk hc0_1
 clear hr0_1 hc0_1
 have HB := Zk (Below.refl w.heap.size w)
 have H : (if a1 ≥ 0 then (if a1 < (l0_0.length : Int) then (some ((a2.size : Int) == 40)) else (some false)) else (some false)) = some r := h
 clear h
 by_cases c4 : a1 ≥ 0
 case neg =>
  rw [if_neg c4] at H
  have aD : decide (0 ≤ a1) = false := decide_eq_false c4
  clear c4
  obtain rfl := Option.some.inj H
  go_enter Tryz.func47, Tryz.ntmps47
  go_wp2_with (first | (refine gd_ 3 ?_; (try (refine gate_guard (by rfl) ?_; dsimp only)); refine bx_ 3 #[.slice A0_0 l0_0.length c0_0, .slice A0_1 l0_1.length c0_1] 25 ?_; intro aB hg w10 hbox hb; have aA := Zk (hbox); have aC := gw_ HB hg; replace HB := al_ HB hb; clear hb hbox hg))
  go_ret
  exact ⟨e_, bl_ HB⟩
 rw [if_pos c4] at H
 have aD : decide (0 ≤ a1) = true := decide_eq_true c4
 clear c4
 by_cases c5 : a1 < (l0_0.length : Int)
 case pos =>
  rw [if_pos c5] at H
  have aE := decide_eq_true c5
  clear c5
  obtain rfl := Option.some.inj H
  go_enter Tryz.func47, Tryz.ntmps47
  go_wp2_with (first | (refine gd_ 3 ?_; (try (refine gate_guard (by rfl) ?_; dsimp only)); refine bx_ 3 #[.slice A0_0 l0_0.length c0_0, .slice A0_1 l0_1.length c0_1] 25 ?_; intro aB hg w6 hbox hb; have aA := Zk (hbox); have aC := gw_ HB hg; replace HB := al_ HB hb; clear hb hbox hg; obtain ⟨aF, aG, aH, aI⟩ := cf2_ aA))
  go_ret
  exact ⟨e_, bl_ HB⟩
 rw [if_neg c5] at H
 have aE := decide_eq_false c5
 clear c5
 obtain rfl := Option.some.inj H
 go_enter Tryz.func47, Tryz.ntmps47
 go_wp2_with (first | (refine gd_ 3 ?_; (try (refine gate_guard (by rfl) ?_; dsimp only)); refine bx_ 3 #[.slice A0_0 l0_0.length c0_0, .slice A0_1 l0_1.length c0_1] 25 ?_; intro aB hg w8 hbox hb; have aA := Zk (hbox); have aC := gw_ HB hg; replace HB := al_ HB hb; clear hb hbox hg; obtain ⟨aJ, aK, aL, aM⟩ := cf2_ aA))
 go_ret
 exact ⟨e_, bl_ HB⟩
end
section
attribute [local go_sem] max2_int min2_int max_two min_two max_three min_three max_four min_four
mutual
def assartref02_Right.j0 : Nat → Bool → List ByteArray → List (S98) → Option (Bool)
 | 0, _, _, _ => none
 | k + 1, x15, aB, aA => if x15 = true then (some false) else (assartref02_Right.l0 k 0 aB aA)
def assartref02_Right.l0 : Nat → Int → List ByteArray → List (S98) → Option (Bool)
 | 0, _, _, _ => none
 | k + 1, x3, aB, aA => if x3 < (aB.length : Int) then (if 0 ≤ x3 then (if ((rdOf ByteArray.empty aB x3).size : Int) = 40 then (assartref02_Right.l0 k (wrap64 (x3 + 1)) aB aA) else (some false)) else (none)) else (assartref02_Right.l1 k 0 aB aA)
def assartref02_Right.l1 : Nat → Int → List ByteArray → List (S98) → Option (Bool)
 | 0, _, _, _ => none
 | k + 1, x4, aB, aA => if x4 < (aA.length : Int) then (if 0 ≤ x4 then ((assartref02_may.f aB aA ((rd_T98 aA x4).f0) ((rd_T98 aA x4).f1)).bind fun aC => (if aC = true then (assartref02_Right.l1 k (wrap64 (x4 + 1)) aB aA) else (some false))) else (none)) else (some true)
end
def assartref02_Right.f (k : Nat) (l0_0 : List ByteArray) (l0_1 : List (S98)) : Option (Bool) := if (l0_0.length : Int) < 1 then (assartref02_Right.j0 k true l0_0 l0_1) else (assartref02_Right.j0 k (decide ((l0_0.length : Int) > 4000)) l0_0 l0_1)
def assartref02_Right.T11 : Bool × List (List Nat × List Nat) := (true, [([], []), ([], []), ([1], [1]), ([], []), ([2, 3], [2, 3]), ([4], [4]), ([5], [5]), ([], []), ([7], [7]), ([], []), ([8, 9], [8, 9]), ([10], [10]), ([11], [11]), ([0, 6, 12], [0, 6, 12]), ([13, 13, 0, 1, 2, 3, 4, 5, 6, 7, 8, 9, 10, 11, 12, 13], [13])])
def assartref02_Right.B11 : List Nat := [0, 0, 2, 0, 14, 30, 62, 0, 128, 0, 896, 1920, 3968, 8191, 16383]
theorem assartref02_Right.tab11 : rtab .any (opsOf Tryz.f15 11) = assartref02_Right.T11 := by kernel_rfl
theorem assartref02_Right.bits11 : waitsOk assartref02_Right.T11.2 assartref02_Right.B11 = true := by kernel_rfl
theorem assartref02_Right.calls (k : Nat) (A0_0 : Option Addr) (c0_0 : Nat) (l0_0 : List ByteArray) (A0_1 : Option Addr) (c0_1 : Nat) (l0_1 : List (S98)) (r : Bool) (w : World) (hr0_0 : Kd.C Kd.string w A0_0 l0_0.length l0_0) (hc0_0 : l0_0.length ≤ c0_0) (hr0_1 : Kd.C k98 w A0_1 l0_1.length l0_1) (hc0_1 : l0_1.length ≤ c0_1) (h : assartref02_Right.f k l0_0 l0_1 = some r) :
  Calls Tryz.prog 15 #[.agg #[.slice A0_0 l0_0.length c0_0, .slice A0_1 l0_1.length c0_1]] w fun e w' => e = .returned (.bool r) ∧ Below w.heap.size w w' := by
 have hu25 := Tryz.underlying25
 have aW := Zk hr0_0
 have bA := Zk hc0_0
 clear hr0_0 hc0_0
 have aO := Zk hr0_1
 have bB := Zk hc0_1
 clear hr0_1 hc0_1
 have HB := Zk (Below.refl w.heap.size w)
 have H : (if (l0_0.length : Int) < 1 then (assartref02_Right.j0 k true l0_0 l0_1) else (assartref02_Right.j0 k (decide ((l0_0.length : Int) > 4000)) l0_0 l0_1)) = some r := h
 clear h
 have HC2 := Zk H
 clear H
 go_enter Tryz.func15, Tryz.ntmps15
 go_upto_region 1 with (first | (refine gd_ 1 ?_; (try (refine gate_guard (by rfl) ?_; dsimp only)); refine bx_ 1 #[.slice A0_0 l0_0.length c0_0, .slice A0_1 l0_1.length c0_1] 25 ?_; intro aN hg w3 hbox hb; have aA := Zk (hbox); have cT := gw_ HB hg; replace HB := al_ HB hb; clear hb hbox hg))
 (try simp only [Act.put, List.setIfInBounds_toArray, List.set_cons_zero, List.set_cons_succ])
 go_cut [15] (fun v15 wc => ∃ (kq : Nat) (aX : Bool), v15 = .bool aX ∧ Aside0 (assartref02_Right.j0 kq aX l0_0 l0_1 = some r) ∧ Aside0 (kq ≤ k) ∧ Aside0 (wc.heap[aN]? = some (.cells #[(.slice A0_0 l0_0.length c0_0), (.slice A0_1 l0_1.length c0_1)] 25 (0, 0))) ∧ Aside0 (Below w.heap.size w wc))
 case first =>
  have H := HC2.out
  clear HC2
  by_cases c4 : (l0_0.length : Int) < 1
  case pos =>
   rw [if_pos c4] at H
   have aP := decide_eq_true c4
   have aZ : decide (l0_0.length < 1) = true := decide_eq_true (by omega)
   clear c4
   (first | rw [aP] | (simp only [i64_w, i32_w]; rw [aP]) | skip)
   have H' := Zk H
   clear H
   obtain ⟨cJ, cK, cL, cM⟩ := cf2_ aA
   go_wp2
   go_meet
   case rel => exact ⟨_, (true), q_, H', ⟨by first | omega | exact Nat.le_refl _⟩, ⟨bk_ aA⟩, ⟨bl_ HB⟩⟩
  rw [if_neg c4] at H
  have aP := decide_eq_false c4
  have aZ : decide (l0_0.length < 1) = false := decide_eq_false (by omega)
  clear c4
  (first | rw [aP] | (simp only [i64_w, i32_w]; rw [aP]) | skip)
  have H' := Zk H
  clear H
  obtain ⟨cN, cO, cP, cQ⟩ := cf2_ aA
  go_wp2
  go_meet
  case rel => exact ⟨_, (decide ((l0_0.length : Int) > 4000)), q_, H', ⟨by first | omega | exact Nat.le_refl _⟩, ⟨bk_ aA⟩, ⟨bl_ HB⟩⟩
 case rest =>
  clear HC2
  try clear aP
  try clear aZ
  obtain ⟨kq, aX, rfl, HA, HJ1, aA, HB⟩ := hcut
  cases kq with
  | zero => exact absurd HA.out (by simp [assartref02_Right.j0])
  | succ kj1 =>
   have H := HA.out
   clear HA
   simp only [assartref02_Right.j0] at H
   by_cases c7 : aX = true
   case pos =>
    subst c7
    rw [if_pos rfl] at H
    obtain rfl := Option.some.inj H
    go_wp2
    go_ret
    exact ⟨e_, bl_ HB⟩
   replace c7 := Bool.eq_false_iff.mpr c7
   subst c7
   rw [if_neg (show ¬ (false = true) by decide)] at H
   have H' := Zk H
   clear H
   go_wp2
   go_loopg [3] kj1 (fun kq v3 w' => ∃ (aM : Int), v3 = .int .i64 aM ∧ Aside0 (assartref02_Right.l0 kq aM l0_0 l0_1 = some r) ∧ Aside0 (kq ≤ kj1) ∧ Aside0 (w'.heap[aN]? = some (.cells #[(.slice A0_0 l0_0.length c0_0), (.slice A0_1 l0_1.length c0_1)] 25 (0, 0))) ∧ Aside0 (Below w.heap.size w w'))
   case atStart => exact ⟨(0), q_, H', ⟨Nat.le_refl _⟩, ⟨bk_ aA⟩, ⟨bl_ HB⟩⟩
   case round =>
    clear H'
    try clear aP
    try clear aZ
    obtain ⟨aM, rfl, HA, HK2, aA, HB⟩ := hrel
    cases gk with
    | zero => exact absurd HA.out (by simp [assartref02_Right.l0])
    | succ k2 =>
     have H := HA.out
     clear HA
     simp only [assartref02_Right.l0] at H
     by_cases c8 : aM < (l0_0.length : Int)
     case pos =>
      rw [if_pos c8] at H
      have bH := decide_eq_true c8
      clear c8
      by_cases c9 : 0 ≤ aM
      case neg => exact no_ c9 H
      rw [if_pos c9] at H
      have cR := decide_eq_true c9
      clear c9
      by_cases c10 : ((rdOf ByteArray.empty l0_0 aM).size : Int) = 40
      case neg =>
       rw [if_neg c10] at H
       have bC := beq_eq_false_iff_ne.mpr c10
       have bD := bne_iff_ne.mpr c10
       obtain rfl := Option.some.inj H
       obtain ⟨bL, bM, bN, bO⟩ := cf2_ aA
       have aR : 0 ≤ (aM : Int) := of_decide_eq_true as_
       have aQ : aM < (l0_0.length : Int) := of_decide_eq_true as_
       obtain ⟨bI, bE, aH⟩ := Kd.at_string aW.out aM aR aQ
       cases bE
       replace aH := hx_ HB aH
       replace aR := eq_true aR
       replace aQ := eq_true aQ
       go_wp2
       go_ret
       exact ⟨e_, bl_ HB⟩
      rw [if_pos c10] at H
      have bC := beq_iff_eq.mpr c10
      have bD := bne_eq_false_iff_eq.mpr c10
      clear c10
      have H' := Zk H
      clear H
      obtain ⟨bP, bQ, bR, bS⟩ := cf2_ aA
      have aR : 0 ≤ (aM : Int) := of_decide_eq_true as_
      have aQ : aM < (l0_0.length : Int) := of_decide_eq_true as_
      obtain ⟨bI, bE, aH⟩ := Kd.at_string aW.out aM aR aQ
      cases bE
      replace aH := hx_ HB aH
      replace aR := eq_true aR
      replace aQ := eq_true aQ
      go_wp2
      go_roundg k2
      case measure => have := HJ1.out; have := HK2.out; omega
      case rel => exact ⟨(wrap64 (aM + 1)), q_, H', ⟨by have := HJ1.out; have := HK2.out; omega⟩, ⟨bk_ aA⟩, ⟨bl_ HB⟩⟩
     rw [if_neg c8] at H
     have bH := decide_eq_false c8
     clear c8
     have H' := Zk H
     clear H
     obtain ⟨bT, bU, bV, bW⟩ := cf2_ aA
     go_wp2
     go_loopg [4] k2 (fun kq v4 w' => ∃ (aB : Int), v4 = .int .i64 aB ∧ Aside0 (assartref02_Right.l1 kq aB l0_0 l0_1 = some r) ∧ Aside0 (kq ≤ k2) ∧ Aside0 (w'.heap[aN]? = some (.cells #[(.slice A0_0 l0_0.length c0_0), (.slice A0_1 l0_1.length c0_1)] 25 (0, 0))) ∧ Aside0 (Below w.heap.size w w'))
     case atStart => exact ⟨(0), q_, H', ⟨Nat.le_refl _⟩, ⟨bk_ aA⟩, ⟨bl_ HB⟩⟩
     case round =>
      clear H'
      try clear aP
      try clear aZ
      try clear q6
      try clear hx6
      try clear bH
      try clear cR
      try clear bC
      try clear bD
      try clear aH
      try clear aQ
      obtain ⟨aB, rfl, HA, HK3, aA, HB⟩ := hrel
      cases gk with
      | zero => exact absurd HA.out (by simp [assartref02_Right.l1])
      | succ k3 =>
       have H := HA.out
       clear HA
       simp only [assartref02_Right.l1] at H
       by_cases c14 : aB < (l0_1.length : Int)
       case neg =>
        rw [if_neg c14] at H
        have bJ : decide (aB < (l0_1.length : Int)) = false := decide_eq_false c14
        clear c14
        obtain rfl := Option.some.inj H
        obtain ⟨bX, bY, bZ, cA⟩ := cf2_ aA
        go_wp2
        go_ret
        exact ⟨e_, bl_ HB⟩
       rw [if_pos c14] at H
       have bJ := decide_eq_true c14
       clear c14
       by_cases c15 : 0 ≤ aB
       case neg => exact no_ c15 H
       rw [if_pos c15] at H
       have cU := decide_eq_true c15
       clear c15
       replace H := Option.bind_eq_some_iff.mp H
       obtain ⟨cS, bK, H⟩ := H
       (try dsimp only at H)
       have A16 := Zk bK
       clear bK
       by_cases c17 : cS = true
       case neg =>
        replace c17 := Bool.eq_false_iff.mpr c17
        subst c17
        rw [if_neg (show ¬ (false = true) by decide)] at H
        obtain rfl := Option.some.inj H
        obtain ⟨cB, cC, cD, cE⟩ := cf2_ aA
        try go_wp2
        replace aA := Zk (blk_drew aA.out)
        replace HB := Zk (below_drew1 HB.out)
        have aS : 0 ≤ (aB : Int) := of_decide_eq_true as_
        have aT : aB < (l0_1.length : Int) := of_decide_eq_true as_
        obtain ⟨aC, bF, aD, aE⟩ := at_T98 aO.out aB aS aT
        have aI := aE
        have aJ := aD
        cases bF
        replace aD := hx_ HB aD
        replace aE := hx_ HB aE
        replace aS := eq_true aS
        replace aT := eq_true aT
        have aU : 0 ≤ (aB : Int) := of_decide_eq_true as_
        have aV : aB < (l0_1.length : Int) := of_decide_eq_true as_
        obtain ⟨aY, bG, aF, aG⟩ := at_T98 aO.out aB aU aV
        have aK := aG
        have aL := aF
        obtain rfl : aC = aY := (by injection bG)
        replace aF := hx_ HB aF
        replace aG := hx_ HB aG
        replace aU := eq_true aU
        replace aV := eq_true aV
        refine start_ (n := 15) (S := fun w' => w'.cell? ⟨aN, 0, none⟩ = some (.slice A0_0 l0_0.length c0_0) ∧ w'.cell? ⟨aN, 1, none⟩ = some (.slice (some aC) l0_1.length c0_1) ∧ w'.cell? (aC.add ((aB).toNat * 2)) = some (.int .i64 ((rd_T98 l0_1 aB).f0)) ∧ w'.cell? ⟨(aC.add ((aB).toNat * 2)).block, (aC.add ((aB).toNat * 2)).off + 1, none⟩ = some (.string ((rd_T98 l0_1 aB).f1)) ∧ w'.cell? (aC.add ((aB).toNat * 2)) = some (.int .i64 ((rd_T98 l0_1 aB).f0)) ∧ w'.cell? ⟨(aC.add ((aB).toNat * 2)).block, (aC.add ((aB).toNat * 2)).off + 1, none⟩ = some (.string ((rd_T98 l0_1 aB).f1))) (ds := []) #[false, false, false, false, false, false, false, false, false, false, false, false, false, false, false] (by kernel_rfl) rfl rfl ⟨(blk_cell aA.out 0).trans rfl, (blk_cell aA.out 1).trans rfl, (hx_ HB aJ), (hx_ HB aI), (hx_ HB aL), (hx_ HB aK)⟩ (fun hHeld => ?_); refine with_tabW assartref02_Right.tab11 assartref02_Right.bits11 (fun HT_ HW_ => ?_)
        generalize wr.drew = w22 at aA HB aD aE aF aG hHeld ⊢
        refine pu_ 1 38 ?_
        refine pu_ 3 40 ?_
        refine pu_ 7 44 ?_
        refine pu_ 9 46 ?_
        refine tk_ 0 37 ?_
        refine tk_ 2 39 ?_
        refine pu_ 4 41 ?_
        refine pu_ 5 42 ?_
        refine tk_ 6 43 ?_
        refine tk_ 8 45 ?_
        refine pu_ 10 47 ?_
        refine pu_ 11 48 ?_
        refine tk_ 12 49 ?_
        refine one_ (i := 13) (N := some 50) #[true, true, true, true, true, true, true, true, true, true, true, true, true, true, false] rfl rfl (one_of HT_.out (by kernel_rfl)) (by decide) (fun K hK => ?_)
        refine goes_ Tryz.func47 (by kernel_rfl) rfl #[.agg #[.slice A0_0 l0_0.length c0_0, .slice (some aC) l0_1.length c0_1], .int .i64 ((rd_T98 l0_1 aB).f0), .string ((rd_T98 l0_1 aB).f1)] (by rfl) rfl rfl (by (try simp only [List.map_toArray, List.map_cons, List.map_nil]); first | done | rfl | (simp only [List.length_drop, List.length_take]; rfl)) ?_
        with_reducible refine (assartref02_may.calls _ _ l0_0 _ _ l0_1 ((rd_T98 l0_1 aB).f0) ((rd_T98 l0_1 aB).f1) false _ ?side1 ?side2 ?side3 ?side4 A16.out).mono ?_
        (case side1 => repeat (first | exact (Kd.C_below aW.out HB.out) | (with_reducible refine Kd.C_alloc ?_ _) | (with_reducible refine Kd.C_drewN ?_ _) | (with_reducible refine Kd.C_drew ?_)))
        (case side2 => exact bA.out)
        (case side3 => repeat (first | exact (Kd.C_below aO.out HB.out) | (with_reducible refine Kd.C_alloc ?_ _) | (with_reducible refine Kd.C_drewN ?_ _) | (with_reducible refine Kd.C_drew ?_)))
        (case side4 => exact bB.out)
        rintro e w23 ⟨rfl, hb⟩
        refine ⟨_, rfl, ?_⟩
        replace aA := ab_ aA hb
        replace HB := al_ HB hb
        (try clear hb)
        (try clear hb2)
        (try clear hk)
        (try clear hi)
        refine hK.out _ _ ⟨(blk_cell aA.out 0).trans rfl, (blk_cell aA.out 1).trans rfl, (hx_ HB aJ), (hx_ HB aI), (hx_ HB aL), (hx_ HB aK)⟩ (fun hHeld => ?_)
        clear hK K
        refine norm_ (a' := ?_) ?_ ?_
        rotate_left
        ·show Act.put _ (some 50) _ = _
         simp only [Act.put, List.setIfInBounds_toArray, List.set_cons_zero, List.set_cons_succ, i64_w, i32_w]
         rfl
        refine pu_ 14 5 ?_
        refine done_ (done_of HT_.out (by kernel_rfl)) ?_
        try go_wp2
        go_ret
        exact ⟨e_, bl_ HB⟩
       subst c17
       rw [if_pos rfl] at H
       have H' := Zk H
       clear H
       obtain ⟨cF, cG, cH, cI⟩ := cf2_ aA
       try go_wp2
       replace aA := Zk (blk_drew aA.out)
       replace HB := Zk (below_drew1 HB.out)
       have aS : 0 ≤ (aB : Int) := of_decide_eq_true as_
       have aT : aB < (l0_1.length : Int) := of_decide_eq_true as_
       obtain ⟨aC, bF, aD, aE⟩ := at_T98 aO.out aB aS aT
       have aI := aE
       have aJ := aD
       cases bF
       replace aD := hx_ HB aD
       replace aE := hx_ HB aE
       replace aS := eq_true aS
       replace aT := eq_true aT
       have aU : 0 ≤ (aB : Int) := of_decide_eq_true as_
       have aV : aB < (l0_1.length : Int) := of_decide_eq_true as_
       obtain ⟨aY, bG, aF, aG⟩ := at_T98 aO.out aB aU aV
       have aK := aG
       have aL := aF
       obtain rfl : aC = aY := (by injection bG)
       replace aF := hx_ HB aF
       replace aG := hx_ HB aG
       replace aU := eq_true aU
       replace aV := eq_true aV
       refine start_ (n := 15) (S := fun w' => w'.cell? ⟨aN, 0, none⟩ = some (.slice A0_0 l0_0.length c0_0) ∧ w'.cell? ⟨aN, 1, none⟩ = some (.slice (some aC) l0_1.length c0_1) ∧ w'.cell? (aC.add ((aB).toNat * 2)) = some (.int .i64 ((rd_T98 l0_1 aB).f0)) ∧ w'.cell? ⟨(aC.add ((aB).toNat * 2)).block, (aC.add ((aB).toNat * 2)).off + 1, none⟩ = some (.string ((rd_T98 l0_1 aB).f1)) ∧ w'.cell? (aC.add ((aB).toNat * 2)) = some (.int .i64 ((rd_T98 l0_1 aB).f0)) ∧ w'.cell? ⟨(aC.add ((aB).toNat * 2)).block, (aC.add ((aB).toNat * 2)).off + 1, none⟩ = some (.string ((rd_T98 l0_1 aB).f1))) (ds := []) #[false, false, false, false, false, false, false, false, false, false, false, false, false, false, false] (by kernel_rfl) rfl rfl ⟨(blk_cell aA.out 0).trans rfl, (blk_cell aA.out 1).trans rfl, (hx_ HB aJ), (hx_ HB aI), (hx_ HB aL), (hx_ HB aK)⟩ (fun hHeld => ?_); refine with_tabW assartref02_Right.tab11 assartref02_Right.bits11 (fun HT_ HW_ => ?_)
       generalize wr.drew = w19 at aA HB aD aE aF aG hHeld ⊢
       refine pu_ 1 38 ?_
       refine pu_ 3 40 ?_
       refine pu_ 7 44 ?_
       refine pu_ 9 46 ?_
       refine tk_ 0 37 ?_
       refine tk_ 2 39 ?_
       refine pu_ 4 41 ?_
       refine pu_ 5 42 ?_
       refine tk_ 6 43 ?_
       refine tk_ 8 45 ?_
       refine pu_ 10 47 ?_
       refine pu_ 11 48 ?_
       refine tk_ 12 49 ?_
       refine one_ (i := 13) (N := some 50) #[true, true, true, true, true, true, true, true, true, true, true, true, true, true, false] rfl rfl (one_of HT_.out (by kernel_rfl)) (by decide) (fun K hK => ?_)
       refine goes_ Tryz.func47 (by kernel_rfl) rfl #[.agg #[.slice A0_0 l0_0.length c0_0, .slice (some aC) l0_1.length c0_1], .int .i64 ((rd_T98 l0_1 aB).f0), .string ((rd_T98 l0_1 aB).f1)] (by rfl) rfl rfl (by (try simp only [List.map_toArray, List.map_cons, List.map_nil]); first | done | rfl | (simp only [List.length_drop, List.length_take]; rfl)) ?_
       with_reducible refine (assartref02_may.calls _ _ l0_0 _ _ l0_1 ((rd_T98 l0_1 aB).f0) ((rd_T98 l0_1 aB).f1) true _ ?side1 ?side2 ?side3 ?side4 A16.out).mono ?_
       (case side1 => repeat (first | exact (Kd.C_below aW.out HB.out) | (with_reducible refine Kd.C_alloc ?_ _) | (with_reducible refine Kd.C_drewN ?_ _) | (with_reducible refine Kd.C_drew ?_)))
       (case side2 => exact bA.out)
       (case side3 => repeat (first | exact (Kd.C_below aO.out HB.out) | (with_reducible refine Kd.C_alloc ?_ _) | (with_reducible refine Kd.C_drewN ?_ _) | (with_reducible refine Kd.C_drew ?_)))
       (case side4 => exact bB.out)
       rintro e w20 ⟨rfl, hb⟩
       refine ⟨_, rfl, ?_⟩
       replace aA := ab_ aA hb
       replace HB := al_ HB hb
       (try clear hb)
       (try clear hb2)
       (try clear hk)
       (try clear hi)
       refine hK.out _ _ ⟨(blk_cell aA.out 0).trans rfl, (blk_cell aA.out 1).trans rfl, (hx_ HB aJ), (hx_ HB aI), (hx_ HB aL), (hx_ HB aK)⟩ (fun hHeld => ?_)
       clear hK K
       refine norm_ (a' := ?_) ?_ ?_
       rotate_left
       ·show Act.put _ (some 50) _ = _
        simp only [Act.put, List.setIfInBounds_toArray, List.set_cons_zero, List.set_cons_succ, i64_w, i32_w]
        rfl
       refine pu_ 14 5 ?_
       refine done_ (done_of HT_.out (by kernel_rfl)) ?_
       try go_wp2
       go_roundg k3
       case measure => have := HJ1.out; have := HK2.out; have := HK3.out; omega
       case rel => exact ⟨(wrap64 (aB + 1)), q_, H', ⟨by have := HJ1.out; have := HK2.out; have := HK3.out; omega⟩, ⟨bk_ aA⟩, ⟨bl_ HB⟩⟩
end
section
attribute [local go_sem] max2_int min2_int max_two min_two max_three min_three max_four min_four
def assartref14_May.f (k : Nat) (l0_0 : List ByteArray) (l0_1 : List (S98)) : Option (Bool) := (assartref02_Small.f k l0_0 l0_1 200).bind fun aA => (if aA = true then ((assartref02_Right.f k l0_0 l0_1).bind fun aB => (some aB)) else (some false))
theorem assartref14_May.calls (k : Nat) (A0_0 : Option Addr) (c0_0 : Nat) (l0_0 : List ByteArray) (A0_1 : Option Addr) (c0_1 : Nat) (l0_1 : List (S98)) (r : Bool) (w : World) (hr0_0 : Kd.C Kd.string w A0_0 l0_0.length l0_0) (hc0_0 : l0_0.length ≤ c0_0) (hr0_1 : Kd.C k98 w A0_1 l0_1.length l0_1) (hc0_1 : l0_1.length ≤ c0_1) (h : assartref14_May.f k l0_0 l0_1 = some r) :
  Calls Tryz.prog 5 #[.agg #[.slice A0_0 l0_0.length c0_0, .slice A0_1 l0_1.length c0_1]] w fun e w' => e = .returned (.bool r) ∧ Below w.heap.size w w' := by
 have hu25 := Tryz.underlying25
 have aB := Zk hr0_0
 have aC := Zk hc0_0
 clear hr0_0 hc0_0
 have aD := Zk hr0_1
 have aE := Zk hc0_1
 clear hr0_1 hc0_1
 have HB := Zk (Below.refl w.heap.size w)
 have H : ((assartref02_Small.f k l0_0 l0_1 200).bind fun aF => (if aF = true then ((assartref02_Right.f k l0_0 l0_1).bind fun aG => (some aG)) else (some false))) = some r := h
 clear h
 replace H := Option.bind_eq_some_iff.mp H
 obtain ⟨aF, A20, H⟩ := H
 (try dsimp only at H)
 have A2 := Zk A20
 clear A20
 by_cases c3 : aF = true
 case neg =>
  replace c3 := Bool.eq_false_iff.mpr c3
  subst c3
  rw [if_neg (show ¬ (false = true) by decide)] at H
  obtain rfl := Option.some.inj H
  go_enter Tryz.func5, Tryz.ntmps5
  go_wp2_with (first | (refine gd_ 1 ?_; refine bx_ 1 #[.slice A0_0 l0_0.length c0_0, .slice A0_1 l0_1.length c0_1] 25 ?_; intro aH hg w10 hbox hb; have aA := Zk (hbox); have aI := gw_ HB hg; replace HB := al_ HB hb; clear hb hbox hg; obtain ⟨aJ, aK, aL, aM⟩ := cf2_ aA) | (refine gc_ 14 ?_; refine gl_ 14 (some 4) #[.agg #[.slice A0_0 l0_0.length c0_0, .slice A0_1 l0_1.length c0_1], .int .i64 200] Tryz.func14 ?_; (with_reducible refine (assartref02_Small.calls k _ _ l0_0 _ _ l0_1 200 false _ (cb_ aB HB) aC.out (cb_ aD HB) aE.out A2.out).mono ?_); rintro e w12 ⟨rfl, hb⟩; refine ⟨_, rfl, ?_⟩; replace aA := ab_ aA hb; replace HB := al_ HB hb; (try clear hb)))
  go_ret
  exact ⟨e_, bl_ HB⟩
 subst c3
 rw [if_pos rfl] at H
 replace H := Option.bind_eq_some_iff.mp H
 obtain ⟨aG, A40, H⟩ := H
 (try dsimp only at H)
 have A4 := Zk A40
 clear A40
 obtain rfl := Option.some.inj H
 go_enter Tryz.func5, Tryz.ntmps5
 go_wp2_with (first | (refine gd_ 1 ?_; refine bx_ 1 #[.slice A0_0 l0_0.length c0_0, .slice A0_1 l0_1.length c0_1] 25 ?_; intro aH hg w5 hbox hb; have aA := Zk (hbox); have aI := gw_ HB hg; replace HB := al_ HB hb; clear hb hbox hg; obtain ⟨aN, aO, aP, aQ⟩ := cf2_ aA) | (refine gc_ 14 ?_; refine gl_ 14 (some 4) #[.agg #[.slice A0_0 l0_0.length c0_0, .slice A0_1 l0_1.length c0_1], .int .i64 200] Tryz.func14 ?_; (with_reducible refine (assartref02_Small.calls k _ _ l0_0 _ _ l0_1 200 true _ (cb_ aB HB) aC.out (cb_ aD HB) aE.out A2.out).mono ?_); rintro e w7 ⟨rfl, hb⟩; refine ⟨_, rfl, ?_⟩; replace aA := ab_ aA hb; replace HB := al_ HB hb; (try clear hb); obtain ⟨aR, aS, aT, aU⟩ := cf2_ aA) | (go_at_call 15; (with_reducible refine (assartref02_Right.calls k _ _ l0_0 _ _ l0_1 aG _ (cb_ aB HB) aC.out (cb_ aD HB) aE.out A4.out).mono ?_); rintro e w9 ⟨rfl, hb⟩; replace aA := ab_ aA hb; replace HB := al_ HB hb; (try clear hb)))
 go_ret
 exact ⟨e_, bl_ HB⟩
end
structure GoodD (bs : List ByteArray) (ws : List S98) : Prop where
 one : 1 ≤ bs.length
 few : bs.length ≤ 200
 wfew : ws.length ≤ 200
 size : ∀ b ∈ bs, b.size = 40
 wr : ∀ x ∈ ws, 0 ≤ x.f0 ∧ x.f0 < (bs.length : Int) ∧ x.f1.size = 40
theorem may_val (bs : List ByteArray) (ws : List S98) (a : Int) (v : ByteArray) : assartref02_may.f bs ws a v = some (decide (0 ≤ a ∧ a < (bs.length : Int) ∧ v.size = 40)) := by
 unfold assartref02_may.f
 by_cases h1 : a ≥ 0
 case neg => rw [if_neg h1, decide_eq_false (fun h => h1 h.1)]
 rw [if_pos h1]
 by_cases h2 : a < (bs.length : Int)
 case neg => rw [if_neg h2, decide_eq_false (fun h => h2 h.2.1)]
 rw [if_pos h2]
 by_cases h3 : v.size = 40
 case pos => rw [decide_eq_true ⟨h1, h2, h3⟩]; simp [h3]
 rw [decide_eq_false (fun h => h3 h.2.2)]
 have : ¬ ((v.size : Int) = 40) := by omega
 simp [this]
theorem l1_val (bs : List ByteArray) (ws : List S98) (hw : ws.length < 1000000) : ∀ (d k j : Nat), j + d = ws.length → d + 1 ≤ k → ∃ r, assartref02_Right.l1 k (j : Nat) bs ws = some r ∧ (r = true → ∀ x ∈ ws.drop j, 0 ≤ x.f0 ∧ x.f0 < (bs.length : Int) ∧ x.f1.size = 40) := by
 intro d
 induction d with
 | zero =>
  intro k j hj hk
  obtain ⟨k, rfl⟩ : ∃ k', k = k' + 1 := ⟨k - 1, by omega⟩
  rw [assartref02_Right.l1, if_neg (by omega)]
  exact ⟨true, rfl, fun _ x hx => by rw [List.drop_eq_nil_of_le (by omega)] at hx; cases hx⟩
 | succ d ih =>
  intro k j hj hk
  obtain ⟨k, rfl⟩ : ∃ k', k = k' + 1 := ⟨k - 1, by omega⟩
  rw [assartref02_Right.l1, if_pos (by omega), if_pos (by omega), may_val]
  simp only [Option.bind_some]
  by_cases h : 0 ≤ (rd_T98 ws (j : Nat)).f0 ∧ (rd_T98 ws (j : Nat)).f0 < (bs.length : Int) ∧ (rd_T98 ws (j : Nat)).f1.size = 40
  case neg =>
   rw [decide_eq_false h]
   exact ⟨false, rfl, fun e => by cases e⟩
  rw [decide_eq_true h, if_pos rfl, show wrap64 ((j : Int) + 1) = ((j + 1 : Nat) : Int) from by rw [w64 (by omega) (by omega)]; push_cast; rfl]
  obtain ⟨r, hr, hr2⟩ := ih k (j + 1) (by omega) (by omega)
  refine ⟨r, hr, fun e x hx => ?_⟩
  rw [rd98_cons (by omega)] at hx
  rcases List.mem_cons.1 hx with rfl | hx
  ·exact h
  ·exact hr2 e x hx
theorem rdB_mem {bs : List ByteArray} {j : Nat} (h : j < bs.length) : bs.drop j = rdOf ByteArray.empty bs (j : Nat) :: bs.drop (j + 1) := by
 rw [List.drop_eq_getElem_cons h]
 congr 1
 simp [rdOf, h]
theorem l0_val (bs : List ByteArray) (ws : List S98) (hb : bs.length < 1000000) (hw : ws.length < 1000000) : ∀ (d k j : Nat), j + d = bs.length → d + ws.length + 3 ≤ k → ∃ r, assartref02_Right.l0 k (j : Nat) bs ws = some r ∧ (r = true → (∀ b ∈ bs.drop j, b.size = 40) ∧ ∀ x ∈ ws, 0 ≤ x.f0 ∧ x.f0 < (bs.length : Int) ∧ x.f1.size = 40) := by
 intro d
 induction d with
 | zero =>
  intro k j hj hk
  obtain ⟨k, rfl⟩ : ∃ k', k = k' + 1 := ⟨k - 1, by omega⟩
  rw [assartref02_Right.l0, if_neg (by omega)]
  obtain ⟨r, hr, hr2⟩ := l1_val bs ws hw ws.length k 0 (by omega) (by omega)
  exact ⟨r, hr, fun e => ⟨fun x hx => (by rw [List.drop_eq_nil_of_le (by omega)] at hx; cases hx), hr2 e⟩⟩
 | succ d ih =>
  intro k j hj hk
  obtain ⟨k, rfl⟩ : ∃ k', k = k' + 1 := ⟨k - 1, by omega⟩
  rw [assartref02_Right.l0, if_pos (by omega), if_pos (by omega)]
  by_cases h : ((rdOf ByteArray.empty bs (j : Nat)).size : Int) = 40
  case neg =>
   rw [if_neg h]
   exact ⟨false, rfl, fun e => by cases e⟩
  rw [if_pos h, show wrap64 ((j : Int) + 1) = ((j + 1 : Nat) : Int) from by rw [w64 (by omega) (by omega)]; push_cast; rfl]
  obtain ⟨r, hr, hr2⟩ := ih k (j + 1) (by omega) (by omega)
  refine ⟨r, hr, fun e => ⟨fun x hx => ?_, (hr2 e).2⟩⟩
  rw [rdB_mem (by omega)] at hx
  rcases List.mem_cons.1 hx with rfl | hx
  ·omega
  ·exact (hr2 e).1 x hx
theorem right_val (bs : List ByteArray) (ws : List S98) (hb : bs.length ≤ 200) (hw : ws.length ≤ 200) : ∃ r, assartref02_Right.f 100000 bs ws = some r ∧ (r = true → GoodD bs ws) := by
 have key : ∀ K, K = 99999 + 1 → ∃ r, assartref02_Right.f K bs ws = some r ∧ (r = true → GoodD bs ws) := fun K hK => by
  subst hK
  unfold assartref02_Right.f
  by_cases h1 : (bs.length : Int) < 1
  case pos =>
   rw [if_pos h1, assartref02_Right.j0, if_pos rfl]
   exact ⟨false, rfl, fun e => by cases e⟩
  rw [if_neg h1, decide_eq_false (by omega), assartref02_Right.j0, if_neg (by decide)]
  obtain ⟨r, hr, hr2⟩ := l0_val bs ws (by omega) (by omega) bs.length 99999 0 (by omega) (by omega)
  exact ⟨r, hr, fun e => ⟨by omega, hb, hw, (hr2 e).1, (hr2 e).2⟩⟩
 exact key 100000 rfl
theorem short_val (ws : List S98) (hw : ws.length < 1000000) : ∀ (d k j : Nat), j + d = ws.length → d + 1 ≤ k → ∃ r, assartref02_Short.l0 k ws (j : Nat) = some r := by
 intro d
 induction d with
 | zero =>
  intro k j hj hk
  obtain ⟨k, rfl⟩ : ∃ k', k = k' + 1 := ⟨k - 1, by omega⟩
  rw [assartref02_Short.l0, if_neg (by omega)]
  exact ⟨true, rfl⟩
 | succ d ih =>
  intro k j hj hk
  obtain ⟨k, rfl⟩ : ∃ k', k = k' + 1 := ⟨k - 1, by omega⟩
  rw [assartref02_Short.l0, if_pos (by omega), if_pos (by omega)]
  by_cases h : ((rd_T98 ws (j : Nat)).f1.size : Int) > 100
  case pos => rw [if_pos h]; exact ⟨false, rfl⟩
  rw [if_neg h, show wrap64 ((j : Int) + 1) = ((j + 1 : Nat) : Int) from by rw [w64 (by omega) (by omega)]; push_cast; rfl]
  exact ih k (j + 1) (by omega) (by omega)
theorem small_l0 (bs : List ByteArray) (ws : List S98) (hb : bs.length < 1000000) (hw : ws.length < 1000000) : ∀ (d k j : Nat), j + d = bs.length → d + ws.length + 3 ≤ k → ∃ r, assartref02_Small.l0 k 200 (j : Nat) bs ws = some r := by
 intro d
 induction d with
 | zero =>
  intro k j hj hk
  obtain ⟨k, rfl⟩ : ∃ k', k = k' + 1 := ⟨k - 1, by omega⟩
  rw [assartref02_Small.l0, if_neg (by omega)]
  unfold assartref02_Short.f
  by_cases h : (ws.length : Int) > 200
  case pos => rw [if_pos h]; exact ⟨false, rfl⟩
  rw [if_neg h]
  obtain ⟨r, hr⟩ := short_val ws hw ws.length k 0 (by omega) (by omega)
  rw [show ((0 : Nat) : Int) = 0 from rfl] at hr
  rw [hr]
  exact ⟨r, rfl⟩
 | succ d ih =>
  intro k j hj hk
  obtain ⟨k, rfl⟩ : ∃ k', k = k' + 1 := ⟨k - 1, by omega⟩
  rw [assartref02_Small.l0, if_pos (by omega), if_pos (by omega)]
  by_cases h : ((rdOf ByteArray.empty bs (j : Nat)).size : Int) > 100
  case pos => rw [if_pos h]; exact ⟨false, rfl⟩
  rw [if_neg h, show wrap64 ((j : Int) + 1) = ((j + 1 : Nat) : Int) from by rw [w64 (by omega) (by omega)]; push_cast; rfl]
  exact ih k (j + 1) (by omega) (by omega)
theorem small_val (bs : List ByteArray) (ws : List S98) : ∃ r, assartref02_Small.f 100000 bs ws 200 = some r ∧ (r = true → bs.length ≤ 200 ∧ ws.length ≤ 200) := by
 have key : ∀ K, K = 99999 + 1 → ∃ r, assartref02_Small.f K bs ws 200 = some r ∧ (r = true → bs.length ≤ 200 ∧ ws.length ≤ 200) := fun K hK => by
  subst hK
  unfold assartref02_Small.f
  by_cases h1 : (bs.length : Int) > 200
  case pos =>
   rw [if_pos h1, assartref02_Small.j0, if_pos rfl]
   exact ⟨false, rfl, fun e => by cases e⟩
  rw [if_neg h1]
  by_cases h2 : (ws.length : Int) > 200
  case pos =>
   rw [decide_eq_true h2, assartref02_Small.j0, if_pos rfl]
   exact ⟨false, rfl, fun e => by cases e⟩
  rw [decide_eq_false h2, assartref02_Small.j0, if_neg (by decide)]
  obtain ⟨r, hr⟩ := small_l0 bs ws (by omega) (by omega) bs.length 99999 0 (by omega) (by omega)
  exact ⟨r, hr, fun _ => ⟨by omega, by omega⟩⟩
 exact key 100000 rfl
theorem May_val (bs : List ByteArray) (ws : List S98) : ∃ r, assartref14_May.f 100000 bs ws = some r ∧ (r = true → GoodD bs ws) := by
 unfold assartref14_May.f
 obtain ⟨r, hr, hr2⟩ := small_val bs ws
 rw [hr]
 simp only [Option.bind_some]
 by_cases h : r = true
 case neg =>
  rw [if_neg h]
  exact ⟨false, rfl, fun e => by cases e⟩
 rw [if_pos h]
 obtain ⟨q, hq, hq2⟩ := right_val bs ws (hr2 h).1 (hr2 h).2
 rw [hq]
 exact ⟨q, rfl, hq2⟩
def textF (l0 : List ByteArray) (l1 : List S98) (size : Int) : Nat → List Int → Int → Option (List Int)
 | 0, _, _ => none
 | k + 1, b, i => if (b.length : Int) < size then (if b.length + (readB l0 l1 i).1.size < 1000000 ∧ -1000000 < i ∧ i < 1000000 then textF l0 l1 size k (b ++ bytesOf (readB l0 l1 i).1) (i + 1) else none) else some (b.take size.toNat)
def mount_text.f (l0_0 : List ByteArray) (l0_1 : List S98) (a1 a2 : Int) : Option (List Int) := if 0 ≤ a2 ∧ a2 < 1000000 ∧ l0_1.length < 1000000 then textF l0_0 l0_1 a2 1000 [] a1 else none
abbrev OB (w : World) (base : Nat) (v : Value) (b : List Int) : Prop := w.ownsRow base 5 1 v b.length (nums .u8 b)
theorem mount_text.calls (A0_0 : Option Addr) (c0_0 : Nat) (l0_0 : List ByteArray) (A0_1 : Option Addr) (c0_1 : Nat) (l0_1 : List (S98)) (a1 a2 : Int) (r : List Int) (w : World) (hr0_0 : Kd.C Kd.string w A0_0 l0_0.length l0_0) (hc0_0 : l0_0.length ≤ c0_0) (hr0_1 : Kd.C k98 w A0_1 l0_1.length l0_1) (hc0_1 : l0_1.length ≤ c0_1) (h : mount_text.f l0_0 l0_1 a1 a2 = some r) :
  Calls Tryz.prog 17 #[.agg #[.slice A0_0 l0_0.length c0_0, .slice A0_1 l0_1.length c0_1], .int .i64 a1, .int .i64 a2] w fun e w' => ∃ v0_ : Value, e = .returned v0_ ∧ Kd.R (Kd.int .u8) 5 w' w.heap.size (fun _ => True) v0_ r ∧ Below w.heap.size w w' := by
 unfold mount_text.f at h
 have hk : 0 ≤ a2 ∧ a2 < 1000000 ∧ l0_1.length < 1000000 := by
  by_cases hk : 0 ≤ a2 ∧ a2 < 1000000 ∧ l0_1.length < 1000000
  case pos => exact hk
  rw [if_neg hk] at h; cases h
 rw [if_pos hk] at h
 obtain ⟨h0, h1, h2⟩ := hk
 obtain ⟨sz, rfl⟩ : ∃ n : Nat, a2 = n := ⟨a2.toNat, by omega⟩
 have HH := Zk h
 have HS := Zk hr0_0
 have HR := Zk hr0_1
 have HC0 := Zk hc0_0
 have HC1 := Zk hc0_1
 have HL1 := Zk h2
 clear h hr0_0 hr0_1 hc0_0 hc0_1 h2
 have hu25 := Tryz.underlying25
 go_enter Tryz.func17, Tryz.ntmps17
 go_wp2_with fail
 refine wp_scope_ghost2 0 (fun n a' w' => ∃ (i : Int) (s7 : Value) (b : List Int) (u8 u9 u13 u14 u15 u16 u17 u18 u19 u20 u21 u22 u23 u24 u25 u26 u27 u28 : Value),
   a' = { tmps := #[.agg #[.slice A0_0 l0_0.length c0_0, .slice A0_1 l0_1.length c0_1], .int .i64 i, .int .i64 sz, .pointer (some ⟨w.heap.size, 0, none⟩), undef, undef, .slice none 0 0, s7, u8, u9, .int .i64 sz, .int .i64 ((sz : Int) + 40), .slice (some ⟨w.heap.size + 1, 0, none⟩) 0 (sz + 40), u13, u14, u15, u16, u17, u18, u19, u20, u21, u22, u23, u24, u25, u26, u27, u28, undef, undef], defers := [] } ∧
   Aside0 (textF l0_0 l0_1 sz n b i = some r) ∧ Aside0 (OB w' w.heap.size s7 b) ∧ Aside0 (w'.heap[w.heap.size]? = some (.cells #[.slice A0_0 l0_0.length c0_0, .slice A0_1 l0_1.length c0_1] 25 (0, 0))) ∧ Aside0 (Below w.heap.size w w')) rfl ?_ ?_
 ·rintro n a' w' ⟨i, s7, b, u8, u9, u13, u14, u15, u16, u17, u18, u19, u20, u21, u22, u23, u24, u25, u26, u27, u28, rfl, HF, HO, HX, HB⟩
  cases n with
  | zero => exact absurd HF.out (by simp [textF])
  | succ k =>
   have hf := HF.out
   rw [textF] at hf
   obtain ⟨A7, c7, rfl, hc7⟩ : ∃ A c, s7 = .slice A b.length c ∧ b.length ≤ c := by
    obtain ⟨A, c, e⟩ := own_slice HO.out
    subst e
    exact ⟨A, c, rfl, own_le HO.out⟩
   by_cases hlt : (b.length : Int) < sz
   case neg =>
    rw [if_neg hlt] at hf
    have HE := Zk (Option.some.inj hf)
    clear hf HF
    have hle : sz ≤ b.length := by omega
    go_wp2
    simp only [Exit.jump]
    go_ret
    refine ⟨_, rfl, ?_, HB.out⟩
    rw [← HE.out, Int.toNat_natCast]
    have hlen : (b.take sz).length = sz := by rw [List.length_take]; omega
    have := own_take HO.out hle
    refine Kd.R_of_own (enc := Value.int .u8) ?_ (fun _ _ => trivial)
    rw [hlen]
    have e : (nums .u8 b).take (sz * 1) = encs (Value.int .u8) (b.take sz) := by
     unfold nums encs
     rw [Nat.mul_one, List.map_take]
    rw [e] at this
    exact this
   rw [if_pos hlt] at hf
   by_cases hg : b.length + (readB l0_0 l0_1 i).1.size < 1000000 ∧ -1000000 < i ∧ i < 1000000
   case neg => rw [if_neg hg] at hf; cases hf
   rw [if_pos hg] at hf
   have HF2 := Zk hf
   obtain ⟨hg1, hg2, hg3⟩ := hg
   have HG1 := Zk hg1
   have k0 : w'.cell? ⟨w.heap.size, 0, none⟩ = some (.slice A0_0 l0_0.length c0_0) := (blk_cell HX.out 0).trans rfl
   have k1 : w'.cell? ⟨w.heap.size, 1, none⟩ = some (.slice A0_1 l0_1.length c0_1) := (blk_cell HX.out 1).trans rfl
   have HRD := Zk (disk_Read.calls A0_0 c0_0 l0_0 A0_1 c0_1 l0_1 i _ _ w' (Kd.C_below HS.out HB.out) HC0.out (Kd.C_below HR.out HB.out) HC1.out (show disk_Read.f l0_0 l0_1 i = some ((readB l0_0 l0_1 i).1, (readB l0_0 l0_1 i).2) by unfold disk_Read.f; rw [if_pos HL1.out]))
   obtain ⟨st, hst⟩ : ∃ st, (readB l0_0 l0_1 i).1 = st := ⟨_, rfl⟩
   obtain ⟨er, her⟩ : ∃ er, (readB l0_0 l0_1 i).2 = er := ⟨_, rfl⟩
   rw [hst] at HF2 HG1 HRD
   rw [her] at HRD
   clear hf hg1 HF hst her
   go_wp2_with fail
   refine HRD.out.mono ?_
   rintro e w2 ⟨rfl, hb2⟩
   have HX2 := Zk ((hb2.block _ (blk_lt HX.out)).trans HX.out)
   have HO2 := Zk (pw_own_below HO.out hb2)
   have HB2 := Zk (HB.out.trans (hb2.mono HB.out.size))
   clear hb2 HX HO HB HRD k0 k1
   go_wp2_with (at_builtin; refine print_append_str (w0 := w) w.heap.size rfl (.tmp 23) (.tmp 24) 54 9 5 rfl Tryz.underlying54 Tryz.underlying9 info5 (.slice A7 b.length c7) b st rfl rfl HO2.out HB2.out HB2.out.size (by have := HG1.out; omega) ?_; intro v3 w3 ho hb hg; have HX3 := Zk ((hg.block _ (blk_lt HX2.out) (fun e => by obtain ⟨cells, hc⟩ := own_typed HO2.out _ e.symm; rw [HX2.out] at hc; cases hc)).trans HX2.out); have HO3 := Zk ho; have HB3 := Zk hb; clear ho hb hg HX2 HO2 HB2)
   go_step3
   simp only [Exit.then, Exit.inBlock, Exit.jump]
   exact ⟨rfl, k, by omega, i + 1, v3, b ++ bytesOf st, _, _, _, _, _, _, _, _, _, _, _, _, _, _, _, _, _, _, rfl, HF2, HO3, HX3, HB3⟩
 ·intro hp
  have HP := Zk hp
  clear hp
  have hmk : ∀ W : World, (Instr.makeSlice 54 (.int .i64 0) (.int .i64 ((sz : Int) + 40))).run Tryz.prog W = .ok (.slice (some ⟨W.heap.size, 0, none⟩) 0 (sz + 40)) (W.alloc (.cells (madeCells #[.int .u8 0] (sz + 40)) 5)) := fun W => by
   obtain ⟨i0, hi, hzz⟩ := Option.map_eq_some_iff.1 info5
   simp only [Prod.mk.injEq] at hzz
   obtain ⟨hz0, hz1, hz2⟩ := hzz
   have := run_make (P := Tryz.prog) W 54 5 i0 (.int .u8 0) Tryz.underlying54 hi hz0 .i64 .i64 0 ((sz : Int) + 40) (Int.le_refl _) (by omega) (by rw [hz2]; omega) (by omega)
   rw [hz1, show ((sz : Int) + 40).toNat = sz + 40 by omega, Nat.mul_one] at this
   exact this
  obtain ⟨wA, hwA⟩ : ∃ wA, (w.alloc (.cells #[.slice A0_0 l0_0.length c0_0, .slice A0_1 l0_1.length c0_1] 25)).alloc (.cells (madeCells #[.int .u8 0] (sz + 40)) 5) = wA := ⟨_, rfl⟩
  have HB : Aside0 (Below w.heap.size w wA) := ⟨by rw [← hwA]; exact ((Below.refl _ w).alloc (Nat.le_refl _) _).alloc (by simp) _⟩
  have HX : Aside0 (wA.heap[w.heap.size]? = some (.cells #[.slice A0_0 l0_0.length c0_0, .slice A0_1 l0_1.length c0_1] 25 (0, 0))) := ⟨by rw [← hwA]; exact blk_alloc (alloc_new w _) _⟩
  have HO : Aside0 (OB wA w.heap.size (.slice (some ⟨w.heap.size + 1, 0, none⟩) 0 (sz + 40)) []) := ⟨by
   rw [← hwA]
   have := World.ownsRow_made (base := w.heap.size) (e := 5) (size := 1) (w.alloc (.cells #[.slice A0_0 l0_0.length c0_0, .slice A0_1 l0_1.length c0_1] 25)) (madeCells #[.int .u8 0] (sz + 40)) (sz + 40) (by simp) (by simp only [maxLen]; omega) (by rw [size_madeCells, Nat.mul_one])
   rw [World.size_alloc] at this
   exact this⟩
  go_wp2_with fail
  go_step3
  simp only [Exit.then]
  rename_i hK0
  exact hK0 _ _ (HP.out 1000 _ _ ⟨a1, _, [], _, _, _, _, _, _, _, _, _, _, _, _, _, _, _, _, _, _, rfl, HH, HO, HX, HB⟩)
end Go.Proofs.YtfmjepmgcdoelaaGreat.P
