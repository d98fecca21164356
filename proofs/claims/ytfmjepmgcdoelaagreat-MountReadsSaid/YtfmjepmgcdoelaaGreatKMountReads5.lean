/- Proved here: for every disk and every number assartlaw16.MountReads returns true and its arguments read as they did (Rows.MountReadsSaid, mountReads_holds at the end). Conditions: none. Texts of the proof put together: F45, F13, PShown, HShown16, HReads, HRow, LawMountReads. -/
import Derived.Test.YtfmjepmgcdoelaaGreatKMountReads4
namespace Foot
end Foot
namespace Go.Proofs.YtfmjepmgcdoelaaGreat
end Go.Proofs.YtfmjepmgcdoelaaGreat
namespace Go.Proofs.YtfmjepmgcdoelaaGreat.P
end Go.Proofs.YtfmjepmgcdoelaaGreat.P
namespace Go.Proofs.YtfmjepmgcdoelaaGreat.mountReads
end Go.Proofs.YtfmjepmgcdoelaaGreat.mountReads
namespace Go.Proofs.YtfmjepmgcdoelaaGreatW.PrintLast
end Go.Proofs.YtfmjepmgcdoelaaGreatW.PrintLast
namespace Go.Proofs.YtfmjepmgcdoelaaGreatW.PrintMore
end Go.Proofs.YtfmjepmgcdoelaaGreatW.PrintMore
namespace Go.Proofs.YtfmjepmgcdoelaaGreatW.PrintWords
end Go.Proofs.YtfmjepmgcdoelaaGreatW.PrintWords
namespace Kd
end Kd
set_option linter.unusedVariables false
set_option linter.unusedSimpArgs false
set_option maxHeartbeats 8000000
set_option maxRecDepth 100000
namespace Go.Proofs.YtfmjepmgcdoelaaGreat.P
open Go.RowKit Go.Proofs.YtfmjepmgcdoelaaGreatW.PrintWords Go.Proofs.YtfmjepmgcdoelaaGreatW.PrintLast Go.Proofs.YtfmjepmgcdoelaaGreatW.PrintMore
section
attribute [local go_sem] max2_int min2_int max_two min_two max_three min_three max_four min_four
def assartref15_Do.f (k : Nat) (l0_0 : List ByteArray) (l0_1 : List (S98)) (l1_0 : List (S65)) (a1_1 : Int) (l1_2 : List (S122)) (l1_3 : List (Nat × Nat)) (a1_4 : Int) (a1_5 : Int) (a2 : Int) : Option (List ByteArray × (List (S98)) × (List (S65)) × Int × (List (S122)) × List (Nat × Nat) × Int × Int × Int) := (assartref14_Plan.f k l0_0 l0_1 l1_0 a1_1 l1_2 l1_3 a1_4 a1_5).bind fun bt496 => (if bt496.2 = 0 then ((assartref02_Do.f l0_0 l0_1 bt496.1 a2).bind fun bt500 => (if bt500.2.2 < (bt496.1.length : Int) then (none) else ((assartref15_Settled.f k l1_0 a1_1 l1_2 l1_3 a1_4 a1_5).bind fun bt508 => (some (bt500.1, bt500.2.1, bt508.1, bt508.2.1, bt508.2.2.1, bt508.2.2.2.1, bt508.2.2.2.2.1, bt508.2.2.2.2.2, 0))))) else (none))
theorem assartref15_Do.calls (k : Nat) (A0_0 : Option Addr) (c0_0 : Nat) (l0_0 : List ByteArray) (A0_1 : Option Addr) (c0_1 : Nat) (l0_1 : List (S98)) (P1_0_ : Nat → Prop) (A1_0 : Option Addr) (c1_0 : Nat) (l1_0 : List (S65)) (a1_1 : Int) (P1_2_ : Nat → Prop) (u9000_ : Value) (l1_2 : List (S122)) (P1_3_ : Nat → Prop) (u9001_ : Value) (l1_3 : List (Nat × Nat)) (a1_4 : Int) (a1_5 : Int) (a2 : Int) (r1 : List ByteArray) (r2 : List (S98)) (r3 : List (S65)) (r4 : Int) (r5 : List (S122)) (r6 : List (Nat × Nat)) (r7 : Int) (r8 : Int) (r9 : Int) (w0 w : World) (hB : Below w0.heap.size w0 w) (hr0_0 : ∀ W_, Kept w W_ (fun k_ => P1_2_ k_ ∨ P1_3_ k_) → Kd.C Kd.string W_ A0_0 l0_0.length l0_0) (hc0_0 : l0_0.length ≤ c0_0) (hr0_1 : ∀ W_, Kept w W_ (fun k_ => P1_2_ k_ ∨ P1_3_ k_) → Kd.C k98 W_ A0_1 l0_1.length l0_1) (hc0_1 : l0_1.length ≤ c0_1) (hs1_0 : Kd.V k65 65 w w0.heap.size (fun k_ => P1_0_ k_ ∧ some k_ ≠ (u9000_ : Value).ownBlock ∧ some k_ ≠ (u9001_ : Value).ownBlock) (.slice A1_0 l1_0.length c1_0) l1_0) (ho1_2 : Kd.R k122 122 w w0.heap.size P1_2_ u9000_ l1_2) (ho1_3 : Kd.R kc 79 w w0.heap.size P1_3_ u9001_ l1_3) (h : assartref15_Do.f k l0_0 l0_1 l1_0 a1_1 l1_2 l1_3 a1_4 a1_5 a2 = some (r1, r2, r3, r4, r5, r6, r7, r8, r9)) :
  Calls Tryz.prog 45 #[.agg #[.slice A0_0 l0_0.length c0_0, .slice A0_1 l0_1.length c0_1], .agg #[.slice A1_0 l1_0.length c1_0, .int .i64 a1_1, u9000_, u9001_, .int .i64 a1_4, .int .i64 a1_5], .int .i64 a2] w fun e w' => ∃ v0_ v1_ v2_ v4_ v5_ : Value, e = .returned (.tuple #[.agg #[v0_, v1_], .agg #[v2_, .int .i64 r4, v4_, v5_, .int .i64 r7, .int .i64 r8], .int .i64 r9]) ∧ Kd.R Kd.string 9 w' w0.heap.size (fun k_ => ((P1_2_ k_ ∨ P1_3_ k_) ∨ w.heap.size ≤ k_)) v0_ r1 ∧ Kd.R k98 98 w' w0.heap.size (fun k_ => ((P1_2_ k_ ∨ P1_3_ k_) ∨ w.heap.size ≤ k_)) v1_ r2 ∧ Kd.V k65 65 w' w0.heap.size (fun k_ => ((P1_2_ k_ ∨ P1_3_ k_ ∨ P1_0_ k_) ∨ w.heap.size ≤ k_) ∧ some k_ ≠ (v0_ : Value).ownBlock ∧ some k_ ≠ (v1_ : Value).ownBlock ∧ some k_ ≠ (v4_ : Value).ownBlock ∧ some k_ ≠ (v5_ : Value).ownBlock) v2_ r3 ∧ Kd.R k122 122 w' w0.heap.size (fun k_ => ((P1_2_ k_ ∨ P1_3_ k_) ∨ w.heap.size ≤ k_)) v4_ r5 ∧ Kd.R kc 79 w' w0.heap.size (fun k_ => ((P1_2_ k_ ∨ P1_3_ k_) ∨ w.heap.size ≤ k_)) v5_ r6 ∧ Below w0.heap.size w0 w' ∧ Kept w w' (fun k_ => P1_2_ k_ ∨ P1_3_ k_) := by
 have hu25 := Tryz.underlying25
 have hu34 := Tryz.underlying34
 have cJ := Zk hr0_0
 have cK := Zk hc0_0
 clear hr0_0 hc0_0
 have cL := Zk hr0_1
 have cM := Zk hc0_1
 clear hr0_1 hc0_1
 have aM := Zk (show Kd.V k65 65 w w0.heap.size (fun k_ => ((P1_2_ k_ ∨ P1_3_ k_ ∨ P1_0_ k_) ∨ w.heap.size ≤ k_) ∧ some k_ ≠ (u9000_ : Value).ownBlock ∧ some k_ ≠ (u9001_ : Value).ownBlock) (.slice A1_0 l1_0.length c1_0) l1_0 from Kd.V_mono hs1_0 (fun k_ hk => ⟨.inl (.inr (.inr hk.1)), hk.2⟩))
 have aC := Zk (show Kd.R k122 122 w w0.heap.size (fun k_ => ((P1_2_ k_ ∨ P1_3_ k_) ∨ w.heap.size ≤ k_)) u9000_ l1_2 from Kd.R_mono ho1_2 (fun k_ hk => (.inl (.inl hk))))
 have aD := Zk (show Kd.R kc 79 w w0.heap.size (fun k_ => ((P1_2_ k_ ∨ P1_3_ k_) ∨ w.heap.size ≤ k_)) u9001_ l1_3 from Kd.R_mono ho1_3 (fun k_ hk => (.inl (.inr hk))))
 have HK := Zk (Kept.refl w (fun k_ => P1_2_ k_ ∨ P1_3_ k_))
 have HW0 := Zk hB.size
 have HB := Zk hB
 clear hB
 have H : ((assartref14_Plan.f k l0_0 l0_1 l1_0 a1_1 l1_2 l1_3 a1_4 a1_5).bind fun bt496 => (if bt496.2 = 0 then ((assartref02_Do.f l0_0 l0_1 bt496.1 a2).bind fun bt500 => (if bt500.2.2 < (bt496.1.length : Int) then (none) else ((assartref15_Settled.f k l1_0 a1_1 l1_2 l1_3 a1_4 a1_5).bind fun bt508 => (some (bt500.1, bt500.2.1, bt508.1, bt508.2.1, bt508.2.2.1, bt508.2.2.2.1, bt508.2.2.2.2.1, bt508.2.2.2.2.2, 0))))) else (none))) = some (r1, r2, r3, r4, r5, r6, r7, r8, r9) := h
 clear h
 replace H := Option.bind_eq_some_iff.mp H
 obtain ⟨⟨bJ, cQ⟩, A40, H⟩ := H
 (try dsimp only at H)
 have A4 := Zk A40
 clear A40
 by_cases c5 : cQ = 0
 case neg => exact no_ c5 H
 rw [if_pos c5] at H
 have hY := beq_iff_eq.mpr c5
 have hZ := bne_eq_false_iff_eq.mpr c5
 clear c5
 replace H := Option.bind_eq_some_iff.mp H
 obtain ⟨⟨aR, aO, cR⟩, A60, H⟩ := H
 (try dsimp only at H)
 have A6 := Zk A60
 clear A60
 by_cases c7 : cR < (bJ.length : Int)
 case pos =>
  rw [if_pos c7] at H
  exact absurd H (by simp)
 rw [if_neg c7] at H
 have iA := decide_eq_false c7
 clear c7
 replace H := Option.bind_eq_some_iff.mp H
 obtain ⟨⟨bR, bS, bT, bU, bV, bW⟩, A80, H⟩ := H
 (try dsimp only at H)
 have A8 := Zk A80
 clear A80
 simp only [Option.some.injEq, Prod.mk.injEq] at H
 obtain ⟨rfl, rfl, rfl, rfl, rfl, rfl, rfl, rfl, rfl⟩ := H
 go_enter Tryz.func45, Tryz.ntmps45
 try go_wp2_with (first | (refine gd_ 3 ?_; refine bx_ 3 #[.slice A0_0 l0_0.length c0_0, .slice A0_1 l0_1.length c0_1] 25 ?_; intro bK hg w9 hbox hb; replace aC := ar_ aC hb; replace aD := ar_ aD hb; replace aM := Zk (Kd.V_below (Kd.V_elderB (v_ aM) bK (Nat.le_of_eq hg.symm)) hb); have aK := Zk (hbox); have gR := gk_ HK hg; replace HK := kb_ HK hb; have cS := gw_ HB hg; replace HB := al_ HB hb; clear hb hbox hg; obtain ⟨bL, bM, gM⟩ := Kd.R_slice aC.out; subst gM; obtain ⟨bN, bO, gN⟩ := Kd.R_slice aD.out; subst gN) | (refine gd_ 4 ?_; refine bx_ 4 #[.slice A1_0 l1_0.length c1_0, .int .i64 a1_1, .slice bL l1_2.length bM, .slice bN l1_3.length bO, .int .i64 a1_4, .int .i64 a1_5] 34 ?_; intro bE hg w12 hbox hb; replace aC := ar_ aC hb; replace aD := ar_ aD hb; replace aM := Zk (Kd.V_below (Kd.V_elderB (v_ aM) bE (Nat.le_of_eq hg.symm)) hb); have aF := Zk (hbox); have gS := gk_ HK hg; replace HK := kb_ HK hb; have cT := gw_ HB hg; replace HB := al_ HB hb; have bX := n1_ aK hg; have bY := n2_ aK hg; replace aK := ab_ aK hb; clear hb hbox hg) | (refine gd_ 6 ?_; refine bx_ 6 #[.slice none 0 0, .slice none 0 0] 25 ?_; intro aI hg w13 hbox hb; replace aC := ar_ aC hb; replace aD := ar_ aD hb; replace aM := Zk (Kd.V_below (Kd.V_elderB (v_ aM) aI (Nat.le_of_eq hg.symm)) hb); have aL := Zk (hbox); have gT := gk_ HK hg; replace HK := kb_ HK hb; have cU := gw_ HB hg; replace HB := al_ HB hb; have bF := n1_ aK hg; have bG := n2_ aK hg; replace aK := ab_ aK hb; have aJ := n1_ aF hg; have bH := n2_ aF hg; replace aF := ab_ aF hb; clear hb hbox hg) | (refine gd_ 7 ?_; refine bx_ 7 #[.slice none 0 0, .int .i64 0, .slice none 0 0, .slice none 0 0, .int .i64 0, .int .i64 0] 34 ?_; intro aB hg w14 hbox hb; replace aC := ar_ aC hb; replace aD := ar_ aD hb; replace aM := Zk (Kd.V_below (Kd.V_elderB (v_ aM) aB (Nat.le_of_eq hg.symm)) hb); have aG := Zk (hbox); have gU := gk_ HK hg; replace HK := kb_ HK hb; have cV := gw_ HB hg; replace HB := al_ HB hb; have aX := n1_ aK hg; have aY := n2_ aK hg; replace aK := ab_ aK hb; have aA := n1_ aF hg; have aZ := n2_ aF hg; replace aF := ab_ aF hb; have aP := n1_ aL hg; have aQ := n2_ aL hg; replace aL := ab_ aL hb; clear hb hbox hg; obtain ⟨gV, gW⟩ := nn_ bX bY; obtain ⟨gX, gY⟩ := nn_ bF bG; obtain ⟨gZ, hA⟩ := nn_ aX aY; obtain ⟨dC, dD, dE, dF⟩ := cf2_ aK; obtain ⟨hC, hD⟩ := nn_ aJ bH; obtain ⟨hE, hF⟩ := nn_ aA aZ; obtain ⟨dG, dH, dI, dJ, dK, dL, dM, dN, dO, dP, dQ, dR⟩ := cf6_ aF) | (refine gc_ 78 ?_; refine gl_ 78 (some 16) #[.agg #[.slice A0_0 l0_0.length c0_0, .slice A0_1 l0_1.length c0_1], .agg #[.slice A1_0 l1_0.length c1_0, .int .i64 a1_1, .slice bL l1_2.length bM, .slice bN l1_3.length bO, .int .i64 a1_4, .int .i64 a1_5]] Tryz.func78 ?_; (with_reducible refine (assartref14_Plan.calls k _ _ l0_0 _ _ l0_1 _ _ l1_0 a1_1 _ _ l1_2 _ _ l1_3 a1_4 a1_5 bJ cQ _ (Kd.C_kept_now cJ.out (kp_ HK)) cK.out (Kd.C_kept_now cL.out (kp_ HK)) cM.out (ct_ (Kd.V_reads' aM.out).2.2) ((Kd.V_reads' aM.out).2.1) (ct_ (Kd.R_reads' aC.out).2.2) ((Kd.R_reads' aC.out).2.1) (ct_ (Kd.R_reads' aD.out).2.2) ((Kd.R_reads' aD.out).2.1) A4.out).mono ?_); rintro e w22 ⟨iB, rfl, ho0, hb⟩; refine ⟨_, rfl, ?_⟩; replace aC := ar_ aC hb; replace aD := ar_ aD hb; replace aM := Zk (Kd.V_elder' (v_ aM) (Kd.R_base ho0) hb); have aU := Zk (Kd.R_lower (Kd.R_newM (M := fun k_ => ((P1_2_ k_ ∨ P1_3_ k_) ∨ w.heap.size ≤ k_)) ho0 (k1_ HK) (fun k_ h_ => .inr h_)) (below_size (bl_ HB))); replace aK := ab_ aK hb; replace aF := ab_ aF hb; replace aL := ab_ aL hb; replace aG := ab_ aG hb; replace HK := kb_ HK hb; replace HB := al_ HB hb; (try clear hb); (try clear ho0); obtain ⟨dS, dT, dU, dV⟩ := cf2_ aK; obtain ⟨bP, bQ, gO⟩ := Kd.R_slice aU.out; subst gO) | (refine gc_ 79 ?_; refine gl_ 79 (some 28) #[.agg #[.slice A0_0 l0_0.length c0_0, .slice A0_1 l0_1.length c0_1], .slice bP bJ.length bQ, .int .i64 a2] Tryz.func79 ?_; (with_reducible refine (assartref02_Do.calls _ _ l0_0 _ _ l0_1 _ _ bJ a2 aR aO cR _ (Kd.C_kept_now cJ.out (kp_ HK)) cK.out (Kd.C_kept_now cL.out (kp_ HK)) cM.out (ct_ (Kd.R_reads' aU.out).2.2) ((Kd.R_reads' aU.out).2.1) A6.out).mono ?_); rintro e w25 ⟨iC, iD, rfl, ho0, ho1, hb⟩; refine ⟨_, rfl, ?_⟩; replace aC := ar_ aC hb; replace aD := ar_ aD hb; replace aM := Zk (Kd.V_mono (Kd.V_told (Kd.V_told (Kd.V_old (v_ aM) hb) (Kd.R_base ho0)) (Kd.R_base ho1)) (fun _ h_ => h_.1)); have bC := Zk (Kd.R_lower (Kd.R_newM (M := fun k_ => ((P1_2_ k_ ∨ P1_3_ k_) ∨ w.heap.size ≤ k_)) ho0 (k1_ HK) (fun k_ h_ => .inr h_)) (below_size (bl_ HB))); have bD := Zk (Kd.R_lower (Kd.R_new' (Kd.R_newM (M := fun k_ => ((P1_2_ k_ ∨ P1_3_ k_) ∨ w.heap.size ≤ k_)) ho1 (k1_ HK) (fun k_ h_ => .inr h_)) (Kd.R_lt (r_ aU))) (below_size (bl_ HB))); replace aU := Zk (Kd.R_elder' (r_ aU) (Kd.R_base ho1) hb); replace aK := ab_ aK hb; replace aF := ab_ aF hb; replace aL := ab_ aL hb; replace aG := ab_ aG hb; replace HK := kb_ HK hb; replace HB := al_ HB hb; (try clear hb); (try clear ho0); (try clear ho1)) | (refine gd_ 11 ?_; refine bx_ 11 #[.slice none 0 0, .slice none 0 0] 25 ?_; intro aH hg w26 hbox hb; replace aC := ar_ aC hb; replace aD := ar_ aD hb; replace aM := Zk (Kd.V_below (Kd.V_elderB (v_ aM) aH (Nat.le_of_eq hg.symm)) hb); replace aU := ar_ aU hb; replace bC := ar_ bC hb; replace bD := ar_ bD hb; have aN := Zk (hbox); have hG := gk_ HK hg; replace HK := kb_ HK hb; have cW := gw_ HB hg; replace HB := al_ HB hb; have bZ := n1_ aK hg; have cA := n2_ aK hg; replace aK := ab_ aK hb; have cB := n1_ aF hg; have cC := n2_ aF hg; replace aF := ab_ aF hb; have bI := n1_ aL hg; have bA := n2_ aL hg; replace aL := ab_ aL hb; have bB := n1_ aG hg; have aE := n2_ aG hg; replace aG := ab_ aG hb; clear hb hbox hg; obtain ⟨aV, aW, gP⟩ := Kd.R_slice bC.out; subst gP; obtain ⟨hH, hI⟩ := nn_ cA bZ; obtain ⟨hJ, hL⟩ := nn_ cC cB; obtain ⟨hM, hN⟩ := nn_ bA bI; obtain ⟨hO, hP⟩ := nn_ aE bB; obtain ⟨dW, dX, dY, dZ⟩ := cf2_ aN; obtain ⟨aS, aT, gQ⟩ := Kd.R_slice bD.out; subst gQ))
 have n0_ : Aside0 (Kd.R k122 122 ((w26.setCell ⟨aH, 0, none⟩ (.slice aV aR.length aW)).setCell ⟨aH, 1, none⟩ (.slice aS aO.length aT)) w0.heap.size (fun k_ => ((P1_2_ k_ ∨ P1_3_ k_) ∨ w.heap.size ≤ k_)) (.slice bL l1_2.length bM) l1_2) := ⟨rg_ (Kd.R_types aC.out aN.out (by decide)) (fun _ hk => hk.1)⟩
 have n1_ : Aside0 (Kd.R kc 79 ((w26.setCell ⟨aH, 0, none⟩ (.slice aV aR.length aW)).setCell ⟨aH, 1, none⟩ (.slice aS aO.length aT)) w0.heap.size (fun k_ => ((P1_2_ k_ ∨ P1_3_ k_) ∨ w.heap.size ≤ k_)) (.slice bN l1_3.length bO) l1_3) := ⟨rg_ (Kd.R_types aD.out aN.out (by decide)) (fun _ hk => hk.1)⟩
 have n2_ : Aside0 (Kd.V k65 65 ((w26.setCell ⟨aH, 0, none⟩ (.slice aV aR.length aW)).setCell ⟨aH, 1, none⟩ (.slice aS aO.length aT)) w0.heap.size (fun k_ => ((P1_2_ k_ ∨ P1_3_ k_ ∨ P1_0_ k_) ∨ w.heap.size ≤ k_) ∧ some k_ ≠ (.slice bL l1_2.length bM : Value).ownBlock ∧ some k_ ≠ (.slice bN l1_3.length bO : Value).ownBlock ∧ some k_ ≠ (.slice bP bJ.length bQ : Value).ownBlock ∧ some k_ ≠ (.slice aV aR.length aW : Value).ownBlock ∧ some k_ ≠ (.slice aS aO.length aT : Value).ownBlock ∧ k_ ≠ bK ∧ k_ ≠ bE ∧ k_ ≠ aI ∧ k_ ≠ aB ∧ k_ ≠ aH) (.slice A1_0 l1_0.length c1_0) l1_0) := ⟨vg_ (Kd.V_mono aM.out (fun k_ hk => (⟨hk, hk.2⟩ : _ ∧ k_ ≠ aH))) (fun _ hk => ⟨hk.1.1.1.1.1.1.1.1.1.1, ⟨hk.1.1.1.1.1.1.1.1.1.2.1, ⟨hk.1.1.1.1.1.1.1.1.1.2.2, ⟨hk.1.1.1.1.2, ⟨hk.1.1.1.2, ⟨hk.1.1.2, ⟨hk.1.1.1.1.1.1.1.1.2, ⟨hk.1.1.1.1.1.1.1.2, ⟨hk.1.1.1.1.1.1.2, ⟨hk.1.1.1.1.1.2, hk.1.2⟩⟩⟩⟩⟩⟩⟩⟩⟩⟩)⟩
 have n3_ : Aside0 (Kd.R k98 98 ((w26.setCell ⟨aH, 0, none⟩ (.slice aV aR.length aW)).setCell ⟨aH, 1, none⟩ (.slice aS aO.length aT)) w0.heap.size (fun k_ => ((P1_2_ k_ ∨ P1_3_ k_) ∨ w.heap.size ≤ k_) ∧ some k_ ≠ (.slice aS aO.length aT : Value).ownBlock) (.slice bP bJ.length bQ) bJ) := ⟨rg_ (Kd.R_types aU.out aN.out (by decide)) (fun _ hk => ⟨hk.1.1.1, hk.1.2⟩)⟩
 have n4_ : Aside0 (Kd.R Kd.string 9 ((w26.setCell ⟨aH, 0, none⟩ (.slice aV aR.length aW)).setCell ⟨aH, 1, none⟩ (.slice aS aO.length aT)) w0.heap.size (fun k_ => ((P1_2_ k_ ∨ P1_3_ k_) ∨ w.heap.size ≤ k_)) (.slice aV aR.length aW) aR) := ⟨rg_ (Kd.R_types bC.out aN.out (by decide)) (fun _ hk => hk.1.1)⟩
 have n5_ : Aside0 (Kd.R k98 98 ((w26.setCell ⟨aH, 0, none⟩ (.slice aV aR.length aW)).setCell ⟨aH, 1, none⟩ (.slice aS aO.length aT)) w0.heap.size (fun k_ => ((P1_2_ k_ ∨ P1_3_ k_) ∨ w.heap.size ≤ k_) ∧ some k_ ≠ (.slice bP bJ.length bQ : Value).ownBlock) (.slice aS aO.length aT) aO) := ⟨rg_ (Kd.R_types bD.out aN.out (by decide)) (fun _ hk => ⟨hk.1.1.1, hk.1.2⟩)⟩
 have n6_ : Aside0 (((w26.setCell ⟨aH, 0, none⟩ (.slice aV aR.length aW)).setCell ⟨aH, 1, none⟩ (.slice aS aO.length aT)).heap[bK]? = some (.cells #[.slice A0_0 l0_0.length c0_0, .slice A0_1 l0_1.length c0_1] 25 (0, 0))) := ⟨bk_ aK⟩
 have n7_ : Aside0 (((w26.setCell ⟨aH, 0, none⟩ (.slice aV aR.length aW)).setCell ⟨aH, 1, none⟩ (.slice aS aO.length aT)).heap[bE]? = some (.cells #[.slice A1_0 l1_0.length c1_0, .int .i64 a1_1, .slice bL l1_2.length bM, .slice bN l1_3.length bO, .int .i64 a1_4, .int .i64 a1_5] 34 (0, 0))) := ⟨bk_ aF⟩
 have n8_ : Aside0 (((w26.setCell ⟨aH, 0, none⟩ (.slice aV aR.length aW)).setCell ⟨aH, 1, none⟩ (.slice aS aO.length aT)).heap[aI]? = some (.cells #[.slice none 0 0, .slice none 0 0] 25 (0, 0))) := ⟨bk_ aL⟩
 have n9_ : Aside0 (((w26.setCell ⟨aH, 0, none⟩ (.slice aV aR.length aW)).setCell ⟨aH, 1, none⟩ (.slice aS aO.length aT)).heap[aB]? = some (.cells #[.slice none 0 0, .int .i64 0, .slice none 0 0, .slice none 0 0, .int .i64 0, .int .i64 0] 34 (0, 0))) := ⟨bk_ aG⟩
 have n10_ : Aside0 (((w26.setCell ⟨aH, 0, none⟩ (.slice aV aR.length aW)).setCell ⟨aH, 1, none⟩ (.slice aS aO.length aT)).heap[aH]? = some (.cells #[.slice aV aR.length aW, .slice aS aO.length aT] 25 (0, 0))) := ⟨bp_ aN⟩
 have n11_ : Aside0 (Kept w ((w26.setCell ⟨aH, 0, none⟩ (.slice aV aR.length aW)).setCell ⟨aH, 1, none⟩ (.slice aS aO.length aT)) (fun k_ => P1_2_ k_ ∨ P1_3_ k_)) := ⟨kp_ HK⟩
 have n12_ : Aside0 (Below w0.heap.size w0 ((w26.setCell ⟨aH, 0, none⟩ (.slice aV aR.length aW)).setCell ⟨aH, 1, none⟩ (.slice aS aO.length aT))) := ⟨bl_ HB⟩
 (try clear aC)
 (try clear aD)
 (try clear aM)
 (try clear aU)
 (try clear bC)
 (try clear bD)
 (try clear aK)
 (try clear aF)
 (try clear aL)
 (try clear aG)
 (try clear aN)
 (try clear HK)
 (try clear HB)
 generalize ((w26.setCell ⟨aH, 0, none⟩ (.slice aV aR.length aW)).setCell ⟨aH, 1, none⟩ (.slice aS aO.length aT)) = w34 at n0_ n1_ n2_ n3_ n4_ n5_ n6_ n7_ n8_ n9_ n10_ n11_ n12_ ⊢
 have aC := n0_
 have aD := n1_
 have aM := n2_
 have aU := n3_
 have bC := n4_
 have bD := n5_
 have aK := n6_
 have aF := n7_
 have aL := n8_
 have aG := n9_
 have aN := n10_
 have HK := n11_
 have HB := n12_
 clear n0_ n1_ n2_ n3_ n4_ n5_ n6_ n7_ n8_ n9_ n10_ n11_ n12_
 replace aC := Zk (Kd.R_drew aC.out)
 replace aD := Zk (Kd.R_drew aD.out)
 replace aM := Zk (Kd.V_drew aM.out)
 replace aU := Zk (Kd.R_drew aU.out)
 replace bC := Zk (Kd.R_drew bC.out)
 replace bD := Zk (Kd.R_drew bD.out)
 replace aK := Zk (blk_drew aK.out)
 replace aF := Zk (blk_drew aF.out)
 replace aL := Zk (blk_drew aL.out)
 replace aG := Zk (blk_drew aG.out)
 replace aN := Zk (blk_drew aN.out)
 replace HK := Zk (Kept.drew HK.out)
 replace HB := Zk (below_drew1 HB.out)
 refine start_ (n := 6) (S := fun w' => w'.cell? ⟨aH, 0, none⟩ = some (.slice aV aR.length aW) ∧ w'.cell? ⟨aH, 1, none⟩ = some (.slice aS aO.length aT) ∧ w'.cell? ⟨bE, 0, none⟩ = some (.slice A1_0 l1_0.length c1_0) ∧ w'.cell? ⟨bE, 1, none⟩ = some (.int .i64 a1_1) ∧ w'.cell? ⟨bE, 2, none⟩ = some (.slice bL l1_2.length bM) ∧ w'.cell? ⟨bE, 3, none⟩ = some (.slice bN l1_3.length bO) ∧ w'.cell? ⟨bE, 4, none⟩ = some (.int .i64 a1_4) ∧ w'.cell? ⟨bE, 5, none⟩ = some (.int .i64 a1_5)) (ds := []) #[false, false, false, false, false, false] (by kernel_rfl) rfl rfl ⟨(blk_cell aN.out 0).trans rfl, (blk_cell aN.out 1).trans rfl, (blk_cell aF.out 0).trans rfl, (blk_cell aF.out 1).trans rfl, (blk_cell aF.out 2).trans rfl, (blk_cell aF.out 3).trans rfl, (blk_cell aF.out 4).trans rfl, (blk_cell aF.out 5).trans rfl⟩ (fun hHeld => ?_)
 generalize w34.drew = w35 at aC aD aM aU bC bD aK aF aL aG aN HK HB hHeld ⊢
 refine take_ (i := 0) (N := some 37) (v := ?_) (a' := ?_) #[true, false, false, false, false, false] rfl rfl (by kernel_rfl) (fun _ _ _ h => h) (Or.inl ⟨by rfl, ?_⟩) hHeld ?_ ?_
 rotate_left
 ·rintro w' ⟨s0, s1, s2, s3, s4, s5, s6, s7⟩
  go_simp
  with_reducible rfl
 rotate_left
 ·simp only [Act.put, List.setIfInBounds_toArray, List.set_cons_zero, List.set_cons_succ, i64_w, i32_w]
  rfl
 refine take_ (i := 1) (N := some 38) (v := ?_) (a' := ?_) #[true, true, false, false, false, false] rfl rfl (by kernel_rfl) (fun _ _ _ h => h) (Or.inl ⟨by rfl, ?_⟩) hHeld ?_ ?_
 rotate_left
 ·rintro w' ⟨s0, s1, s2, s3, s4, s5, s6, s7⟩
  go_simp
  with_reducible rfl
 rotate_left
 ·simp only [Act.put, List.setIfInBounds_toArray, List.set_cons_zero, List.set_cons_succ, i64_w, i32_w]
  rfl
 refine one_ (i := 2) (N := some 39) #[true, true, true, false, false, false] rfl rfl (by kernel_rfl) (by decide) (fun K hK => ?_)
 refine goes_ Tryz.func80 (by kernel_rfl) rfl #[.agg #[.slice A1_0 l1_0.length c1_0, .int .i64 a1_1, .slice bL l1_2.length bM, .slice bN l1_3.length bO, .int .i64 a1_4, .int .i64 a1_5]] (by rfl) rfl rfl (by (try simp only [List.map_toArray, List.map_cons, List.map_nil]); first | done | rfl | (simp only [List.length_drop, List.length_take]; rfl)) ?_
 with_reducible refine (assartref15_Settled.calls k (fun k_ => (((P1_2_ k_ ∨ P1_3_ k_ ∨ P1_0_ k_) ∨ w.heap.size ≤ k_) ∧ (some k_ ≠ (.slice bL l1_2.length bM : Value).ownBlock ∧ (some k_ ≠ (.slice bN l1_3.length bO : Value).ownBlock ∧ (some k_ ≠ (.slice bP bJ.length bQ : Value).ownBlock ∧ (some k_ ≠ (.slice aV aR.length aW : Value).ownBlock ∧ (some k_ ≠ (.slice aS aO.length aT : Value).ownBlock ∧ (k_ ≠ bK ∧ (k_ ≠ bE ∧ (k_ ≠ aI ∧ (k_ ≠ aB ∧ k_ ≠ aH))))))))))) _ _ l1_0 a1_1 (fun k_ => some k_ = (.slice bL l1_2.length bM : Value).ownBlock) (.slice bL l1_2.length bM) l1_2 (fun k_ => some k_ = (.slice bN l1_3.length bO : Value).ownBlock) (.slice bN l1_3.length bO) l1_3 a1_4 a1_5 bR bS bT bU bV bW w0 _ ?side1 ?side2 ?side3 ?side4 A8.out).mono ?_
 (case side1 => repeat (first | (with_reducible first | exact HB.out | apply below_alloc | apply pw_below_drewN | apply below_drew1 | refine below_set ?_ cS.out | refine below_set ?_ cT.out | refine below_set ?_ cU.out | refine below_set ?_ cV.out | refine below_set ?_ cW.out) | exact HB.out))
 (case side2 => exact Kd.V_mono (aM.out) (fun k_ hk_ => ⟨hk_, hk_.2.1, hk_.2.2.1⟩))
 (case side3 => exact Kd.R_tight rfl aC.out)
 (case side4 => exact Kd.R_tight rfl aD.out)
 rintro e w36 ⟨iE, cX, cY, rfl, ho0, ho1, ho2, hb, hkp⟩
 refine ⟨_, rfl, ?_⟩
 replace aM := Zk (Kd.V_mono (ok' := fun k_ => ((P1_2_ k_ ∨ P1_3_ k_ ∨ P1_0_ k_) ∨ w.heap.size ≤ k_) ∧ some k_ ≠ (.slice bP bJ.length bQ : Value).ownBlock ∧ some k_ ≠ (.slice aV aR.length aW : Value).ownBlock ∧ some k_ ≠ (.slice aS aO.length aT : Value).ownBlock ∧ k_ ≠ bK ∧ k_ ≠ bE ∧ k_ ≠ aI ∧ k_ ≠ aB ∧ k_ ≠ aH ∧ some k_ ≠ (cX : Value).ownBlock ∧ some k_ ≠ (cY : Value).ownBlock) (Kd.V_keptB (aM.out) hkp (fun k_ hk_ hs_ => Or.elim hs_ (fun e_ => (hk_.2.1) e_) (fun e_ => (hk_.2.2.1) e_))) (fun k_ hk_ => ⟨hk_.1.1, hk_.1.2.2.2.1, hk_.1.2.2.2.2.1, hk_.1.2.2.2.2.2.1, hk_.1.2.2.2.2.2.2.1, hk_.1.2.2.2.2.2.2.2.1, hk_.1.2.2.2.2.2.2.2.2.1, hk_.1.2.2.2.2.2.2.2.2.2.1, hk_.1.2.2.2.2.2.2.2.2.2.2, fun e_ => Or.elim (ho1.1 k_ e_.symm) (fun hs_ => hk_.2.1 hs_) (fun hn_ => Nat.not_le.2 hk_.2.2 hn_), fun e_ => Or.elim (ho2.1 k_ e_.symm) (fun hs_ => hk_.2.1 hs_) (fun hn_ => Nat.not_le.2 hk_.2.2 hn_)⟩))
 have cN := Zk (Kd.V_mono (ok' := fun k_ => ((P1_2_ k_ ∨ P1_3_ k_ ∨ P1_0_ k_) ∨ w.heap.size ≤ k_) ∧ some k_ ≠ (cX : Value).ownBlock ∧ some k_ ≠ (cY : Value).ownBlock ∧ some k_ ≠ (.slice bP bJ.length bQ : Value).ownBlock ∧ some k_ ≠ (.slice aV aR.length aW : Value).ownBlock ∧ some k_ ≠ (.slice aS aO.length aT : Value).ownBlock ∧ k_ ≠ bK ∧ k_ ≠ bE ∧ k_ ≠ aI ∧ k_ ≠ aB ∧ k_ ≠ aH) ho0 (fun k_ hk_ => ⟨Or.elim hk_.1 (fun hs_ => Or.elim hs_ (fun hs_ => (Or.imp_left (fun h_ => (Or.elim h_ (fun z_ => .inl z_) (fun z_ => .inr (.inl z_)))) ((aC.out.1 k_ (hs_).symm)))) (fun hs_ => Or.elim hs_ (fun hs_ => (Or.imp_left (fun h_ => (Or.elim h_ (fun z_ => .inl z_) (fun z_ => .inr (.inl z_)))) ((aD.out.1 k_ (hs_).symm)))) (fun hs_ => hs_.1))) (fun hn_ => (.inr (Nat.le_trans (k1_ HK) hn_))), hk_.2.1, hk_.2.2, Or.elim hk_.1 (fun hs_ => Or.elim hs_ (fun hs_ => fun e_ => ((((Kd.R_apart' (Kd.R_apart' aU.out (Kd.R_typed aC.out) (by decide)) (Kd.R_typed aD.out) (by decide))).1 k_ e_.symm).1.2) hs_) (fun hs_ => Or.elim hs_ (fun hs_ => fun e_ => ((((Kd.R_apart' (Kd.R_apart' aU.out (Kd.R_typed aC.out) (by decide)) (Kd.R_typed aD.out) (by decide))).1 k_ e_.symm).2) hs_) (fun hs_ => hs_.2.2.2.1))) (fun hn_ => (Kd.fresh' (Kd.R_lt (r_ aU)) k_ hn_)), Or.elim hk_.1 (fun hs_ => Or.elim hs_ (fun hs_ => fun e_ => ((((Kd.R_apart' (Kd.R_apart' bC.out (Kd.R_typed aC.out) (by decide)) (Kd.R_typed aD.out) (by decide))).1 k_ e_.symm).1.2) hs_) (fun hs_ => Or.elim hs_ (fun hs_ => fun e_ => ((((Kd.R_apart' (Kd.R_apart' bC.out (Kd.R_typed aC.out) (by decide)) (Kd.R_typed aD.out) (by decide))).1 k_ e_.symm).2) hs_) (fun hs_ => hs_.2.2.2.2.1))) (fun hn_ => (Kd.fresh' (Kd.R_lt (r_ bC)) k_ hn_)), Or.elim hk_.1 (fun hs_ => Or.elim hs_ (fun hs_ => fun e_ => ((((Kd.R_apart' (Kd.R_apart' bD.out (Kd.R_typed aC.out) (by decide)) (Kd.R_typed aD.out) (by decide))).1 k_ e_.symm).1.2) hs_) (fun hs_ => Or.elim hs_ (fun hs_ => fun e_ => ((((Kd.R_apart' (Kd.R_apart' bD.out (Kd.R_typed aC.out) (by decide)) (Kd.R_typed aD.out) (by decide))).1 k_ e_.symm).2) hs_) (fun hs_ => hs_.2.2.2.2.2.1))) (fun hn_ => (Kd.fresh' (Kd.R_lt (r_ bD)) k_ hn_)), Or.elim hk_.1 (fun hs_ => Or.elim hs_ (fun hs_ => fun e_ => (Kd.R_ne aC.out aK.out (by decide)) (by rw [← e_]; exact hs_)) (fun hs_ => Or.elim hs_ (fun hs_ => fun e_ => (Kd.R_ne aD.out aK.out (by decide)) (by rw [← e_]; exact hs_)) (fun hs_ => hs_.2.2.2.2.2.2.1))) (fun hn_ => (Kd.freshB (g := bK) (o := .cells #[.slice A0_0 l0_0.length c0_0, .slice A0_1 l0_1.length c0_1] 25 (0, 0)) (bk_ aK) k_ hn_)), Or.elim hk_.1 (fun hs_ => Or.elim hs_ (fun hs_ => fun e_ => (Kd.R_ne aC.out aF.out (by decide)) (by rw [← e_]; exact hs_)) (fun hs_ => Or.elim hs_ (fun hs_ => fun e_ => (Kd.R_ne aD.out aF.out (by decide)) (by rw [← e_]; exact hs_)) (fun hs_ => hs_.2.2.2.2.2.2.2.1))) (fun hn_ => (Kd.freshB (g := bE) (o := .cells #[.slice A1_0 l1_0.length c1_0, .int .i64 a1_1, .slice bL l1_2.length bM, .slice bN l1_3.length bO, .int .i64 a1_4, .int .i64 a1_5] 34 (0, 0)) (bk_ aF) k_ hn_)), Or.elim hk_.1 (fun hs_ => Or.elim hs_ (fun hs_ => fun e_ => (Kd.R_ne aC.out aL.out (by decide)) (by rw [← e_]; exact hs_)) (fun hs_ => Or.elim hs_ (fun hs_ => fun e_ => (Kd.R_ne aD.out aL.out (by decide)) (by rw [← e_]; exact hs_)) (fun hs_ => hs_.2.2.2.2.2.2.2.2.1))) (fun hn_ => (Kd.freshB (g := aI) (o := .cells #[.slice none 0 0, .slice none 0 0] 25 (0, 0)) (bk_ aL) k_ hn_)), Or.elim hk_.1 (fun hs_ => Or.elim hs_ (fun hs_ => fun e_ => (Kd.R_ne aC.out aG.out (by decide)) (by rw [← e_]; exact hs_)) (fun hs_ => Or.elim hs_ (fun hs_ => fun e_ => (Kd.R_ne aD.out aG.out (by decide)) (by rw [← e_]; exact hs_)) (fun hs_ => hs_.2.2.2.2.2.2.2.2.2.1))) (fun hn_ => (Kd.freshB (g := aB) (o := .cells #[.slice none 0 0, .int .i64 0, .slice none 0 0, .slice none 0 0, .int .i64 0, .int .i64 0] 34 (0, 0)) (bk_ aG) k_ hn_)), Or.elim hk_.1 (fun hs_ => Or.elim hs_ (fun hs_ => fun e_ => (Kd.R_ne aC.out aN.out (by decide)) (by rw [← e_]; exact hs_)) (fun hs_ => Or.elim hs_ (fun hs_ => fun e_ => (Kd.R_ne aD.out aN.out (by decide)) (by rw [← e_]; exact hs_)) (fun hs_ => hs_.2.2.2.2.2.2.2.2.2.2))) (fun hn_ => (Kd.freshB (g := aH) (o := .cells #[.slice aV aR.length aW, .slice aS aO.length aT] 25 (0, 0)) (bk_ aN) k_ hn_))⟩))
 replace aK := Zk (blk_kept (bk_ aK) hkp (fun hs_ => Or.elim hs_ (fun e_ => (fun e_ => (Kd.R_ne aC.out aK.out (by decide)) e_) e_) (fun e_ => (fun e_ => (Kd.R_ne aD.out aK.out (by decide)) e_) e_)))
 replace aF := Zk (blk_kept (bk_ aF) hkp (fun hs_ => Or.elim hs_ (fun e_ => (fun e_ => (Kd.R_ne aC.out aF.out (by decide)) e_) e_) (fun e_ => (fun e_ => (Kd.R_ne aD.out aF.out (by decide)) e_) e_)))
 replace aL := Zk (blk_kept (bk_ aL) hkp (fun hs_ => Or.elim hs_ (fun e_ => (fun e_ => (Kd.R_ne aC.out aL.out (by decide)) e_) e_) (fun e_ => (fun e_ => (Kd.R_ne aD.out aL.out (by decide)) e_) e_)))
 replace aG := Zk (blk_kept (bk_ aG) hkp (fun hs_ => Or.elim hs_ (fun e_ => (fun e_ => (Kd.R_ne aC.out aG.out (by decide)) e_) e_) (fun e_ => (fun e_ => (Kd.R_ne aD.out aG.out (by decide)) e_) e_)))
 replace aU := Zk (Kd.R_mono (ok' := fun k_ => ((P1_2_ k_ ∨ P1_3_ k_) ∨ w.heap.size ≤ k_) ∧ some k_ ≠ (.slice aS aO.length aT : Value).ownBlock) (Kd.R_keptB ((Kd.R_apart' (Kd.R_apart' aU.out (Kd.R_typed aC.out) (by decide)) (Kd.R_typed aD.out) (by decide))) hkp (fun k_ hk_ hs_ => Or.elim hs_ (fun e_ => (hk_.1.2) e_) (fun e_ => (hk_.2) e_))) (fun k_ hk_ => ⟨hk_.1.1.1.1, hk_.1.1.1.2⟩))
 replace bC := Zk (Kd.R_mono (ok' := fun k_ => ((P1_2_ k_ ∨ P1_3_ k_) ∨ w.heap.size ≤ k_)) (Kd.R_keptB ((Kd.R_apart' (Kd.R_apart' bC.out (Kd.R_typed aC.out) (by decide)) (Kd.R_typed aD.out) (by decide))) hkp (fun k_ hk_ hs_ => Or.elim hs_ (fun e_ => (hk_.1.2) e_) (fun e_ => (hk_.2) e_))) (fun k_ hk_ => hk_.1.1.1))
 replace bD := Zk (Kd.R_mono (ok' := fun k_ => ((P1_2_ k_ ∨ P1_3_ k_) ∨ w.heap.size ≤ k_) ∧ some k_ ≠ (.slice bP bJ.length bQ : Value).ownBlock) (Kd.R_keptB ((Kd.R_apart' (Kd.R_apart' bD.out (Kd.R_typed aC.out) (by decide)) (Kd.R_typed aD.out) (by decide))) hkp (fun k_ hk_ hs_ => Or.elim hs_ (fun e_ => (hk_.1.2) e_) (fun e_ => (hk_.2) e_))) (fun k_ hk_ => ⟨hk_.1.1.1.1, hk_.1.1.1.2⟩))
 replace aN := Zk (blk_kept (bk_ aN) hkp (fun hs_ => Or.elim hs_ (fun e_ => (fun e_ => (Kd.R_ne aC.out aN.out (by decide)) e_) e_) (fun e_ => (fun e_ => (Kd.R_ne aD.out aN.out (by decide)) e_) e_)))
 have cO := Zk (Kd.R_mono (ok' := fun k_ => ((P1_2_ k_ ∨ P1_3_ k_) ∨ w.heap.size ≤ k_)) ho1 (fun k_ hk_ => Or.elim hk_ (fun hs_ => Or.elim hs_ (fun hs_ => (aC.out.1 k_ (hs_).symm)) (fun hs_ => (aD.out.1 k_ (hs_).symm))) (fun hn_ => (.inr (Nat.le_trans (k1_ HK) hn_)))))
 have cP := Zk (Kd.R_mono (ok' := fun k_ => ((P1_2_ k_ ∨ P1_3_ k_) ∨ w.heap.size ≤ k_)) ho2 (fun k_ hk_ => Or.elim hk_ (fun hs_ => Or.elim hs_ (fun hs_ => (aC.out.1 k_ (hs_).symm)) (fun hs_ => (aD.out.1 k_ (hs_).symm))) (fun hn_ => (.inr (Nat.le_trans (k1_ HK) hn_)))))
 replace HK := Zk (Kept.then_ (S := (fun k_ => P1_2_ k_ ∨ P1_3_ k_)) (kp_ HK) hkp (fun k_ hs_ => Or.elim hs_ (fun e_ => (fun e_ => (aC.out.1 k_ e_.symm)) e_) (fun e_ => (fun e_ => (aD.out.1 k_ e_.symm)) e_)))
 replace HB := Zk (hb)
 clear aC
 clear aD
 (try clear hb)
 (try clear hkp)
 (try clear ho0)
 (try clear ho1)
 (try clear ho2)
 obtain ⟨cD, cE, cZ⟩ := Kd.V_slice cN.out
 (first | subst cZ | (injection cZ with f1_ f2_ f3_; have f4_ := f1_.symm; have f5_ := f3_.symm; clear f1_ f2_ f3_; subst f4_; subst f5_))
 obtain ⟨cF, cG, dA⟩ := Kd.R_slice cO.out
 (first | subst dA | (injection dA with f1_ f2_ f3_; have f4_ := f1_.symm; have f5_ := f3_.symm; clear f1_ f2_ f3_; subst f4_; subst f5_))
 obtain ⟨cH, cI, dB⟩ := Kd.R_slice cP.out
 (first | subst dB | (injection dB with f1_ f2_ f3_; have f4_ := f1_.symm; have f5_ := f3_.symm; clear f1_ f2_ f3_; subst f4_; subst f5_))
 refine hK.out _ _ ⟨(blk_cell aN.out 0).trans rfl, (blk_cell aN.out 1).trans rfl, (blk_cell aF.out 0).trans rfl, (blk_cell aF.out 1).trans rfl, (blk_cell aF.out 2).trans rfl, (blk_cell aF.out 3).trans rfl, (blk_cell aF.out 4).trans rfl, (blk_cell aF.out 5).trans rfl⟩ (fun hHeld => ?_)
 clear hK K
 refine norm_ (a' := ?_) ?_ ?_
 rotate_left
 ·show Act.put _ (some 39) _ = _
  simp only [Act.put, List.setIfInBounds_toArray, List.set_cons_zero, List.set_cons_succ, i64_w, i32_w]
  rfl
 refine one_ (i := 3) (N := none) #[true, true, true, true, false, false] rfl rfl (by kernel_rfl) (by decide) (fun K hK => ?_)
 have iF : w36.cell? ⟨aI, 0, none⟩ = some (.slice none 0 0) := (blk_cell aL.out 0).trans rfl
 have hQ := blk_frozen aL.out 0
 obtain ⟨eA, eB⟩ := nn_ bF aJ
 obtain ⟨eC, eD⟩ := nn_ aQ bA
 obtain ⟨eE, eF⟩ := nn_ bG bH
 obtain ⟨eG, eH⟩ := nn_ aP bI
 have iG : w36.cell? ⟨aI, 1, none⟩ = some (.slice none 0 0) := (blk_cell aL.out 1).trans rfl
 have hR := blk_frozen aL.out 1
 obtain ⟨eI, eJ⟩ := nn_ bF aJ
 obtain ⟨eK, eL⟩ := nn_ aQ bA
 obtain ⟨eM, eN⟩ := nn_ bG bH
 obtain ⟨eO, eP⟩ := nn_ aP bI
 refine skip_ (w1 := ?_) (by rfl) rfl ?_ ?_
 rotate_left
 ·go_simp
  rfl
 refine hK.out _ _ ⟨(cl_ aI bA.out (cl_ aI bA.out hHeld.1)), (cl_ aI bA.out (cl_ aI bA.out hHeld.2.1)), (cl_ aI aJ.out (cl_ aI aJ.out hHeld.2.2.1)), (cl_ aI aJ.out (cl_ aI aJ.out hHeld.2.2.2.1)), (cl_ aI aJ.out (cl_ aI aJ.out hHeld.2.2.2.2.1)), (cl_ aI aJ.out (cl_ aI aJ.out hHeld.2.2.2.2.2.1)), (cl_ aI aJ.out (cl_ aI aJ.out hHeld.2.2.2.2.2.2.1)), (cl_ aI aJ.out (cl_ aI aJ.out hHeld.2.2.2.2.2.2.2))⟩ (fun hHeld => ?_)
 clear hK K
 refine one_ (i := 4) (N := none) #[true, true, true, true, true, false] rfl rfl (by kernel_rfl) (by decide) (fun K hK => ?_)
 have iH : w36.cell? ⟨aB, 0, none⟩ = some (.slice none 0 0) := (blk_cell aG.out 0).trans rfl
 have hS := blk_frozen aG.out 0
 obtain ⟨eQ, eR⟩ := nn_ aX aA
 obtain ⟨eS, eT⟩ := nn_ aP aE
 obtain ⟨eU, eV⟩ := nn_ aY aZ
 obtain ⟨eW, eX⟩ := nn_ aQ bB
 have iI : w36.cell? ⟨aB, 1, none⟩ = some (.int .i64 0) := (blk_cell aG.out 1).trans rfl
 have hT := blk_frozen aG.out 1
 obtain ⟨eY, eZ⟩ := nn_ aX aA
 obtain ⟨fA, fB⟩ := nn_ aP aE
 obtain ⟨fC, fD⟩ := nn_ aY aZ
 obtain ⟨fE, fF⟩ := nn_ aQ bB
 have iJ : w36.cell? ⟨aB, 2, none⟩ = some (.slice none 0 0) := (blk_cell aG.out 2).trans rfl
 have hU := blk_frozen aG.out 2
 obtain ⟨fG, fH⟩ := nn_ aX aA
 obtain ⟨fI, fJ⟩ := nn_ aP aE
 obtain ⟨fK, fL⟩ := nn_ aY aZ
 obtain ⟨fM, fN⟩ := nn_ aQ bB
 have iK : w36.cell? ⟨aB, 3, none⟩ = some (.slice none 0 0) := (blk_cell aG.out 3).trans rfl
 have hV := blk_frozen aG.out 3
 obtain ⟨fO, fP⟩ := nn_ aX aA
 obtain ⟨fQ, fR⟩ := nn_ aP aE
 obtain ⟨fS, fT⟩ := nn_ aY aZ
 obtain ⟨fU, fV⟩ := nn_ aQ bB
 have iL : w36.cell? ⟨aB, 4, none⟩ = some (.int .i64 0) := (blk_cell aG.out 4).trans rfl
 have hW := blk_frozen aG.out 4
 obtain ⟨fW, fX⟩ := nn_ aX aA
 obtain ⟨fY, fZ⟩ := nn_ aP aE
 obtain ⟨gA, gB⟩ := nn_ aY aZ
 obtain ⟨gC, gD⟩ := nn_ aQ bB
 have iM : w36.cell? ⟨aB, 5, none⟩ = some (.int .i64 0) := (blk_cell aG.out 5).trans rfl
 have hX := blk_frozen aG.out 5
 obtain ⟨gE, gF⟩ := nn_ aX aA
 obtain ⟨gG, gH⟩ := nn_ aP aE
 obtain ⟨gI, gJ⟩ := nn_ aY aZ
 obtain ⟨gK, gL⟩ := nn_ aQ bB
 refine skip_ (w1 := ?_) (by rfl) rfl ?_ ?_
 rotate_left
 ·go_simp
  rfl
 refine hK.out _ _ ⟨(cl_ aB aE.out (cl_ aB aE.out (cl_ aB aE.out (cl_ aB aE.out (cl_ aB aE.out (cl_ aB aE.out hHeld.1)))))), (cl_ aB aE.out (cl_ aB aE.out (cl_ aB aE.out (cl_ aB aE.out (cl_ aB aE.out (cl_ aB aE.out hHeld.2.1)))))), (cl_ aB aA.out (cl_ aB aA.out (cl_ aB aA.out (cl_ aB aA.out (cl_ aB aA.out (cl_ aB aA.out hHeld.2.2.1)))))), (cl_ aB aA.out (cl_ aB aA.out (cl_ aB aA.out (cl_ aB aA.out (cl_ aB aA.out (cl_ aB aA.out hHeld.2.2.2.1)))))), (cl_ aB aA.out (cl_ aB aA.out (cl_ aB aA.out (cl_ aB aA.out (cl_ aB aA.out (cl_ aB aA.out hHeld.2.2.2.2.1)))))), (cl_ aB aA.out (cl_ aB aA.out (cl_ aB aA.out (cl_ aB aA.out (cl_ aB aA.out (cl_ aB aA.out hHeld.2.2.2.2.2.1)))))), (cl_ aB aA.out (cl_ aB aA.out (cl_ aB aA.out (cl_ aB aA.out (cl_ aB aA.out (cl_ aB aA.out hHeld.2.2.2.2.2.2.1)))))), (cl_ aB aA.out (cl_ aB aA.out (cl_ aB aA.out (cl_ aB aA.out (cl_ aB aA.out (cl_ aB aA.out hHeld.2.2.2.2.2.2.2))))))⟩ (fun hHeld => ?_)
 clear hK K
 refine pure_ (i := 5) (N := some 8) (v := ?_) (a' := ?_) #[true, true, true, true, true, true] rfl rfl (by kernel_rfl) (fun _ _ _ h => h) (Or.inl ⟨by rfl, ?_⟩) ?_ ?_
 rotate_left
 ·intro w'
  go_simp
  with_reducible rfl
 rotate_left
 ·simp only [Act.put, List.setIfInBounds_toArray, List.set_cons_zero, List.set_cons_succ, i64_w, i32_w]
  rfl
 refine done_ (by kernel_rfl) ?_
 try go_wp2
 refine bodyPost_ret (results_list (rs := [.cell 6 25, .cell 7 34, .tmp 8]) rfl (by simp) (.cell aI 25 #[.slice aV aR.length aW, .slice aS aO.length aT] (0, 0) _ rfl (bp_ aL) Tryz.underlying25 rfl (by kernel_rfl) (.cell aB 34 #[.slice cD bR.length cE, .int .i64 bS, .slice cF bT.length cG, .slice cH bU.length cI, .int .i64 bV, .int .i64 bW] (0, 0) _ rfl (bp_ aG) Tryz.underlying34 rfl (by kernel_rfl) (.tmp .nil)))) rfl ?_
 exact ⟨_, _, _, _, _, e_, by (with_reducible repeat (first | apply Kd.R_alloc | apply Kd.R_drewN | apply Kd.R_drew)); exact Kd.R_mono (Kd.R_far (p := ⟨aB, 5, none⟩) (Kd.R_far (p := ⟨aB, 4, none⟩) (Kd.R_far (p := ⟨aB, 3, none⟩) (Kd.R_far (p := ⟨aB, 2, none⟩) (Kd.R_far (p := ⟨aB, 1, none⟩) (Kd.R_far (p := ⟨aB, 0, none⟩) (Kd.R_far (p := ⟨aI, 1, none⟩) (Kd.R_far (p := ⟨aI, 0, none⟩) (Kd.R_types (Kd.R_types bC.out aL.out (by decide)) aG.out (by decide)) (fun _ hk => hk.1.2) (.slice aV aR.length aW)) (fun _ hk => hk.1.2) (.slice aS aO.length aT)) (fun _ hk => hk.2) (.slice cD bR.length cE)) (fun _ hk => hk.2) (.int .i64 bS)) (fun _ hk => hk.2) (.slice cF bT.length cG)) (fun _ hk => hk.2) (.slice cH bU.length cI)) (fun _ hk => hk.2) (.int .i64 bV)) (fun _ hk => hk.2) (.int .i64 bW)) (fun _ hk => hk.1.1), by (with_reducible repeat (first | apply Kd.R_alloc | apply Kd.R_drewN | apply Kd.R_drew)); exact Kd.R_mono (Kd.R_far (p := ⟨aB, 5, none⟩) (Kd.R_far (p := ⟨aB, 4, none⟩) (Kd.R_far (p := ⟨aB, 3, none⟩) (Kd.R_far (p := ⟨aB, 2, none⟩) (Kd.R_far (p := ⟨aB, 1, none⟩) (Kd.R_far (p := ⟨aB, 0, none⟩) (Kd.R_far (p := ⟨aI, 1, none⟩) (Kd.R_far (p := ⟨aI, 0, none⟩) (Kd.R_types (Kd.R_types bD.out aL.out (by decide)) aG.out (by decide)) (fun _ hk => hk.1.2) (.slice aV aR.length aW)) (fun _ hk => hk.1.2) (.slice aS aO.length aT)) (fun _ hk => hk.2) (.slice cD bR.length cE)) (fun _ hk => hk.2) (.int .i64 bS)) (fun _ hk => hk.2) (.slice cF bT.length cG)) (fun _ hk => hk.2) (.slice cH bU.length cI)) (fun _ hk => hk.2) (.int .i64 bV)) (fun _ hk => hk.2) (.int .i64 bW)) (fun _ hk => hk.1.1.1), by (with_reducible repeat (first | apply Kd.V_alloc | apply Kd.V_drewN | apply Kd.V_drew)); exact Kd.V_mono (Kd.V_far (p := ⟨aB, 5, none⟩) (Kd.V_far (p := ⟨aB, 4, none⟩) (Kd.V_far (p := ⟨aB, 3, none⟩) (Kd.V_far (p := ⟨aB, 2, none⟩) (Kd.V_far (p := ⟨aB, 1, none⟩) (Kd.V_far (p := ⟨aB, 0, none⟩) (Kd.V_far (p := ⟨aI, 1, none⟩) (Kd.V_far (p := ⟨aI, 0, none⟩) (Kd.V_mono (Kd.V_mono cN.out (fun k_ hk => (⟨hk, hk.2.2.2.2.2.2.2.2.1⟩ : _ ∧ k_ ≠ aI))) (fun k_ hk => (⟨hk, hk.1.2.2.2.2.2.2.2.2.2.1⟩ : _ ∧ k_ ≠ aB))) (fun _ hk => hk.1.2) (.slice aV aR.length aW)) (fun _ hk => hk.1.2) (.slice aS aO.length aT)) (fun _ hk => hk.2) (.slice cD bR.length cE)) (fun _ hk => hk.2) (.int .i64 bS)) (fun _ hk => hk.2) (.slice cF bT.length cG)) (fun _ hk => hk.2) (.slice cH bU.length cI)) (fun _ hk => hk.2) (.int .i64 bV)) (fun _ hk => hk.2) (.int .i64 bW)) (fun _ hk => ⟨hk.1.1.1, ⟨hk.1.1.2.2.2.2.1, ⟨hk.1.1.2.2.2.2.2.1, ⟨hk.1.1.2.1, hk.1.1.2.2.1⟩⟩⟩⟩), by (with_reducible repeat (first | apply Kd.R_alloc | apply Kd.R_drewN | apply Kd.R_drew)); exact Kd.R_mono (Kd.R_far (p := ⟨aB, 5, none⟩) (Kd.R_far (p := ⟨aB, 4, none⟩) (Kd.R_far (p := ⟨aB, 3, none⟩) (Kd.R_far (p := ⟨aB, 2, none⟩) (Kd.R_far (p := ⟨aB, 1, none⟩) (Kd.R_far (p := ⟨aB, 0, none⟩) (Kd.R_far (p := ⟨aI, 1, none⟩) (Kd.R_far (p := ⟨aI, 0, none⟩) (Kd.R_types (Kd.R_types cO.out aL.out (by decide)) aG.out (by decide)) (fun _ hk => hk.1.2) (.slice aV aR.length aW)) (fun _ hk => hk.1.2) (.slice aS aO.length aT)) (fun _ hk => hk.2) (.slice cD bR.length cE)) (fun _ hk => hk.2) (.int .i64 bS)) (fun _ hk => hk.2) (.slice cF bT.length cG)) (fun _ hk => hk.2) (.slice cH bU.length cI)) (fun _ hk => hk.2) (.int .i64 bV)) (fun _ hk => hk.2) (.int .i64 bW)) (fun _ hk => hk.1.1), by (with_reducible repeat (first | apply Kd.R_alloc | apply Kd.R_drewN | apply Kd.R_drew)); exact Kd.R_mono (Kd.R_far (p := ⟨aB, 5, none⟩) (Kd.R_far (p := ⟨aB, 4, none⟩) (Kd.R_far (p := ⟨aB, 3, none⟩) (Kd.R_far (p := ⟨aB, 2, none⟩) (Kd.R_far (p := ⟨aB, 1, none⟩) (Kd.R_far (p := ⟨aB, 0, none⟩) (Kd.R_far (p := ⟨aI, 1, none⟩) (Kd.R_far (p := ⟨aI, 0, none⟩) (Kd.R_types (Kd.R_types cP.out aL.out (by decide)) aG.out (by decide)) (fun _ hk => hk.1.2) (.slice aV aR.length aW)) (fun _ hk => hk.1.2) (.slice aS aO.length aT)) (fun _ hk => hk.2) (.slice cD bR.length cE)) (fun _ hk => hk.2) (.int .i64 bS)) (fun _ hk => hk.2) (.slice cF bT.length cG)) (fun _ hk => hk.2) (.slice cH bU.length cI)) (fun _ hk => hk.2) (.int .i64 bV)) (fun _ hk => hk.2) (.int .i64 bW)) (fun _ hk => hk.1.1), bl_ HB, kp_ HK⟩
end
section
attribute [local go_sem] max2_int min2_int max_two min_two max_three min_three max_four min_four
def assartref15_Format.f (k : Nat) (a0 : Int) (a1 : Int) : Option (List ByteArray × (List (S98)) × (List (S65)) × Int × (List (S122)) × List (Nat × Nat) × Int × Int × Int) := (assartref02_New.f k a0).bind fun bt522 => (if bt522.2.2 = 0 then ((assartref14_Cells.f k a0).bind fun aA => ((assartref12_New.f aA a1).bind fun bt531 => (if bt531.2.2.2.2.2.2 = 0 then ((assartref15_Do.f k bt522.1 bt522.2.1 bt531.1 bt531.2.1 bt531.2.2.1 bt531.2.2.2.1 bt531.2.2.2.2.1 bt531.2.2.2.2.2.1 (-1)).bind fun bt545 => (some (bt545.1, bt545.2.1, bt545.2.2.1, bt545.2.2.2.1, bt545.2.2.2.2.1, bt545.2.2.2.2.2.1, bt545.2.2.2.2.2.2.1, bt545.2.2.2.2.2.2.2.1, bt545.2.2.2.2.2.2.2.2))) else (none)))) else (none))
theorem assartref15_Format.calls (k : Nat) (a0 : Int) (a1 : Int) (r1 : List ByteArray) (r2 : List (S98)) (r3 : List (S65)) (r4 : Int) (r5 : List (S122)) (r6 : List (Nat × Nat)) (r7 : Int) (r8 : Int) (r9 : Int) (w : World) (h : assartref15_Format.f k a0 a1 = some (r1, r2, r3, r4, r5, r6, r7, r8, r9)) :
  Calls Tryz.prog 13 #[.int .i64 a0, .int .i64 a1] w fun e w' => ∃ v0_ v1_ v2_ v4_ v5_ : Value, e = .returned (.tuple #[.agg #[v0_, v1_], .agg #[v2_, .int .i64 r4, v4_, v5_, .int .i64 r7, .int .i64 r8], .int .i64 r9]) ∧ Kd.R Kd.string 9 w' w.heap.size (fun k_ => (w.heap.size ≤ k_)) v0_ r1 ∧ Kd.R k98 98 w' w.heap.size (fun k_ => (w.heap.size ≤ k_)) v1_ r2 ∧ Kd.V k65 65 w' w.heap.size (fun k_ => (w.heap.size ≤ k_) ∧ some k_ ≠ (v0_ : Value).ownBlock ∧ some k_ ≠ (v1_ : Value).ownBlock ∧ some k_ ≠ (v4_ : Value).ownBlock ∧ some k_ ≠ (v5_ : Value).ownBlock) v2_ r3 ∧ Kd.R k122 122 w' w.heap.size (fun k_ => (w.heap.size ≤ k_)) v4_ r5 ∧ Kd.R kc 79 w' w.heap.size (fun k_ => (w.heap.size ≤ k_)) v5_ r6 ∧ Below w.heap.size w w' := by
 have hu25 := Tryz.underlying25
 have hu34 := Tryz.underlying34
 have HB := Zk (Below.refl w.heap.size w)
 have H : ((assartref02_New.f k a0).bind fun bt522 => (if bt522.2.2 = 0 then ((assartref14_Cells.f k a0).bind fun cH => ((assartref12_New.f cH a1).bind fun bt531 => (if bt531.2.2.2.2.2.2 = 0 then ((assartref15_Do.f k bt522.1 bt522.2.1 bt531.1 bt531.2.1 bt531.2.2.1 bt531.2.2.2.1 bt531.2.2.2.2.1 bt531.2.2.2.2.2.1 (-1)).bind fun bt545 => (some (bt545.1, bt545.2.1, bt545.2.2.1, bt545.2.2.2.1, bt545.2.2.2.2.1, bt545.2.2.2.2.2.1, bt545.2.2.2.2.2.2.1, bt545.2.2.2.2.2.2.2.1, bt545.2.2.2.2.2.2.2.2))) else (none)))) else (none))) = some (r1, r2, r3, r4, r5, r6, r7, r8, r9) := h
 clear h
 replace H := Option.bind_eq_some_iff.mp H
 obtain ⟨⟨aO, aP, cP⟩, A30, H⟩ := H
 (try dsimp only at H)
 have A3 := Zk A30
 clear A30
 by_cases c4 : cP = 0
 case neg => exact no_ c4 H
 rw [if_pos c4] at H
 have fS := beq_iff_eq.mpr c4
 have fT := bne_eq_false_iff_eq.mpr c4
 clear c4
 replace H := Option.bind_eq_some_iff.mp H
 obtain ⟨cH, A50, H⟩ := H
 (try dsimp only at H)
 have A5 := Zk A50
 clear A50
 replace H := Option.bind_eq_some_iff.mp H
 obtain ⟨⟨aQ, bI, aM, aN, bJ, bK, cQ⟩, A60, H⟩ := H
 (try dsimp only at H)
 have A6 := Zk A60
 clear A60
 by_cases c7 : cQ = 0
 case neg => exact no_ c7 H
 rw [if_pos c7] at H
 have fU := beq_iff_eq.mpr c7
 have fV := bne_eq_false_iff_eq.mpr c7
 clear c7
 replace H := Option.bind_eq_some_iff.mp H
 obtain ⟨⟨aV, aW, aX, aY, aZ, bA, bB, bC, eT⟩, A80, H⟩ := H
 (try dsimp only at H)
 have A8 := Zk A80
 clear A80
 simp only [Option.some.injEq, Prod.mk.injEq] at H
 obtain ⟨rfl, rfl, rfl, rfl, rfl, rfl, rfl, rfl, rfl⟩ := H
 go_enter Tryz.func13, Tryz.ntmps13
 go_wp2_with (first | (refine gd_ 4 ?_; refine bx_ 4 #[.slice none 0 0, .slice none 0 0] 25 ?_; intro aJ hg w9 hbox hb; have aD := Zk (hbox); have cR := gw_ HB hg; replace HB := al_ HB hb; clear hb hbox hg) | (refine gd_ 5 ?_; refine bx_ 5 #[.slice none 0 0, .int .i64 0, .slice none 0 0, .slice none 0 0, .int .i64 0, .int .i64 0] 34 ?_; intro aA hg w10 hbox hb; have aE := Zk (hbox); have cS := gw_ HB hg; replace HB := al_ HB hb; have bL := n1_ aD hg; have bM := n2_ aD hg; replace aD := ab_ aD hb; clear hb hbox hg) | (refine gc_ 9 ?_; refine gl_ 9 (some 13) #[.int .i64 a0] Tryz.func9 ?_; (with_reducible refine (assartref02_New.calls k a0 aO aP cP _ A3.out).mono ?_); rintro e w11 ⟨fW, fX, rfl, ho0, ho1, hb⟩; refine ⟨_, rfl, ?_⟩; have aF := Zk (Kd.R_lower (Kd.R_newM (M := fun k_ => (w.heap.size ≤ k_)) ho0 (below_size (bl_ HB)) (fun k_ h_ => h_)) (below_size (bl_ HB))); have aG := Zk (Kd.R_lower (Kd.R_newM (M := fun k_ => (w.heap.size ≤ k_)) ho1 (below_size (bl_ HB)) (fun k_ h_ => h_)) (below_size (bl_ HB))); replace aD := ab_ aD hb; replace aE := ab_ aE hb; replace HB := al_ HB hb; (try clear hb); (try clear ho0); (try clear ho1)) | (refine gd_ 7 ?_; refine bx_ 7 #[.slice none 0 0, .slice none 0 0] 25 ?_; intro bH hg w12 hbox hb; replace aF := ar_ aF hb; replace aG := ar_ aG hb; have aH := Zk (hbox); have cT := gw_ HB hg; replace HB := al_ HB hb; have bN := n1_ aD hg; have bO := n2_ aD hg; replace aD := ab_ aD hb; have bP := n1_ aE hg; have bQ := n2_ aE hg; replace aE := ab_ aE hb; clear hb hbox hg; obtain ⟨bD, bE, eU⟩ := Kd.R_slice aF.out; subst eU; obtain ⟨fG, fH⟩ := nn_ bO bN; obtain ⟨fI, fJ⟩ := nn_ bQ bP; obtain ⟨cX, cY, cZ, dA⟩ := cf2_ aH; obtain ⟨bF, bG, eV⟩ := Kd.R_slice aG.out; subst eV) | (refine gc_ 44 ?_; refine gl_ 44 (some 22) #[.int .i64 a0] Tryz.func44 ?_; (with_reducible refine (assartref14_Cells.calls k a0 cH _ A5.out).mono ?_); rintro e w' ⟨rfl, ⟨nd, rfl⟩⟩; refine ⟨_, rfl, ?_⟩) | (refine gc_ 43 ?_; refine gl_ 43 (some 24) #[.int .i64 cH, .int .i64 a1] Tryz.func43 ?_; (with_reducible refine (assartref12_New.calls cH a1 aQ bI aM aN bJ bK cQ _ A6.out).mono ?_); rintro e w18 ⟨fY, fZ, gA, rfl, ho0, ho1, ho2, hb⟩; refine ⟨_, rfl, ?_⟩; replace aF := Zk (Kd.R_below (rg_ (Kd.R_types aF.out aH.out (by decide)) (fun _ h_ => h_.1)) hb); replace aG := Zk (Kd.R_below (rg_ (Kd.R_types aG.out aH.out (by decide)) (fun _ h_ => h_.1)) hb); have aL := Zk (Kd.S_lower (Kd.S_newM (M := fun k_ => (w.heap.size ≤ k_)) ho0 (below_size (bl_ HB)) (fun k_ h_ => h_)) (below_size (bl_ HB))); have aB := Zk (Kd.R_lower (Kd.R_newM (M := fun k_ => (w.heap.size ≤ k_)) ho1 (below_size (bl_ HB)) (fun k_ h_ => h_)) (below_size (bl_ HB))); have aC := Zk (Kd.R_lower (Kd.R_newM (M := fun k_ => (w.heap.size ≤ k_)) ho2 (below_size (bl_ HB)) (fun k_ h_ => h_)) (below_size (bl_ HB))); replace aD := ab_ aD hb; replace aE := ab_ aE hb; replace aH := abp_ aH hb; replace HB := al_ HB hb; (try clear hb); (try clear ho0); (try clear ho1); (try clear ho2)) | (refine gd_ 9 ?_; refine bx_ 9 #[.slice none 0 0, .int .i64 0, .slice none 0 0, .slice none 0 0, .int .i64 0, .int .i64 0] 34 ?_; intro aK hg w19 hbox hb; replace aF := ar_ aF hb; replace aG := ar_ aG hb; replace aL := Zk (Kd.S_below (s_ aL) hb); replace aB := ar_ aB hb; replace aC := ar_ aC hb; have aI := Zk (hbox); have cU := gw_ HB hg; replace HB := al_ HB hb; have bR := n1_ aD hg; have bS := n2_ aD hg; replace aD := ab_ aD hb; have bT := n1_ aE hg; have bU := n2_ aE hg; replace aE := ab_ aE hb; have bV := n1_ aH hg; have bW := n2_ aH hg; replace aH := ab_ aH hb; clear hb hbox hg; obtain ⟨cI, cJ, eW⟩ := Kd.S_slice aL.out; subst eW; obtain ⟨fK, fL⟩ := nn_ bS bR; obtain ⟨fM, fN⟩ := nn_ bU bT; obtain ⟨fO, fP⟩ := nn_ bW bV; obtain ⟨dB, dC, dD, dE, dF, dG, dH, dI, dJ, dK, dL, dM⟩ := cf6_ aI; obtain ⟨aR, aS, eX⟩ := Kd.R_slice aB.out; subst eX; obtain ⟨aT, aU, eY⟩ := Kd.R_slice aC.out; subst eY) | ((with_reducible refine gate_store (t := 34) (p := 9) rfl ?_); refine store_event (t := 34) (p := 9) (v := ?vo_w27) (w1 := ((((((w19.setCell ⟨aK, 0, none⟩ (.slice cI aQ.length cJ)).setCell ⟨aK, 1, none⟩ (.int .i64 bI)).setCell ⟨aK, 2, none⟩ (.slice aR aM.length aS)).setCell ⟨aK, 3, none⟩ (.slice aT aN.length aU)).setCell ⟨aK, 4, none⟩ (.int .i64 bJ)).setCell ⟨aK, 5, none⟩ (.int .i64 bK))) ?hg ?ho ?hn ?hr ?_; (case ho => rfl); (case hg => rfl); (case hn => rfl); (case hr => first | (go_simp; done) | (go_simp; rfl)); intro w27 hw; have n0_ : Aside0 (Kd.R Kd.string 9 w27 w.heap.size (fun k_ => (w.heap.size ≤ k_)) (.slice bD aO.length bE) aO) := ⟨(by rw [hw]; exact (rg_ (Kd.R_types aF.out aI.out (by decide)) (fun _ hk => hk.1.1)))⟩; have n1_ : Aside0 (Kd.R k98 98 w27 w.heap.size (fun k_ => (w.heap.size ≤ k_)) (.slice bF aP.length bG) aP) := ⟨(by rw [hw]; exact (rg_ (Kd.R_types aG.out aI.out (by decide)) (fun _ hk => hk.1.1)))⟩; have n2_ : Aside0 (Kd.S k65 65 w27 w.heap.size (fun k_ => (w.heap.size ≤ k_)) (.slice cI aQ.length cJ) aQ) := ⟨(by rw [hw]; exact (sg_ (Kd.S_types aL.out aI.out (by decide)) (fun _ hk => hk.1.1)))⟩; have n3_ : Aside0 (Kd.R k122 122 w27 w.heap.size (fun k_ => (w.heap.size ≤ k_)) (.slice aR aM.length aS) aM) := ⟨(by rw [hw]; exact (rg_ (Kd.R_types aB.out aI.out (by decide)) (fun _ hk => hk.1.1)))⟩; have n4_ : Aside0 (Kd.R kc 79 w27 w.heap.size (fun k_ => (w.heap.size ≤ k_)) (.slice aT aN.length aU) aN) := ⟨(by rw [hw]; exact (rg_ (Kd.R_types aC.out aI.out (by decide)) (fun _ hk => hk.1.1)))⟩; have n5_ : Aside0 (w27.heap[aJ]? = some (.cells #[.slice none 0 0, .slice none 0 0] 25 (0, 0))) := ⟨(by rw [hw]; exact (bk_ aD))⟩; have n6_ : Aside0 (w27.heap[aA]? = some (.cells #[.slice none 0 0, .int .i64 0, .slice none 0 0, .slice none 0 0, .int .i64 0, .int .i64 0] 34 (0, 0))) := ⟨(by rw [hw]; exact (bk_ aE))⟩; have n7_ : Aside0 (w27.heap[bH]? = some (.cells #[.slice bD aO.length bE, .slice bF aP.length bG] 25 (0, 0))) := ⟨(by rw [hw]; exact (bk_ aH))⟩; have n8_ : Aside0 (w27.heap[aK]? = some (.cells #[.slice cI aQ.length cJ, .int .i64 bI, .slice aR aM.length aS, .slice aT aN.length aU, .int .i64 bJ, .int .i64 bK] 34 (0, 0))) := ⟨(by rw [hw]; exact (bp_ aI))⟩; have n9_ : Aside0 (Below w.heap.size w w27) := ⟨(by rw [hw]; exact (bl_ HB))⟩; clear hw; clear aF; clear aG; clear aL; clear aB; clear aC; clear aD; clear aE; clear aH; clear aI; clear HB; have aF := n0_; have aG := n1_; have aL := n2_; have aB := n3_; have aC := n4_; have aD := n5_; have aE := n6_; have aH := n7_; have aI := n8_; have HB := n9_; clear n0_ n1_ n2_ n3_ n4_ n5_ n6_ n7_ n8_ n9_; obtain ⟨dN, dO, dP, dQ⟩ := cf2_ aH; obtain ⟨dR, dS, dT, dU, dV, dW, dX, dY, dZ, eA, eB, eC⟩ := cf6_ aI) | (refine gc_ 45 ?_; refine gl_ 45 (some 33) #[.agg #[.slice bD aO.length bE, .slice bF aP.length bG], .agg #[.slice cI aQ.length cJ, .int .i64 bI, .slice aR aM.length aS, .slice aT aN.length aU, .int .i64 bJ, .int .i64 bK], .int .i64 (-1)] Tryz.func45 ?_; refine (assartref15_Do.calls k _ _ aO _ _ aP (fun k_ => (((((((((w.heap.size ≤ k_) ∧ some k_ ≠ (.slice bD aO.length bE : Value).ownBlock) ∧ some k_ ≠ (.slice bF aP.length bG : Value).ownBlock) ∧ some k_ ≠ (.slice aR aM.length aS : Value).ownBlock) ∧ some k_ ≠ (.slice aT aN.length aU : Value).ownBlock) ∧ k_ ≠ aJ) ∧ k_ ≠ aA) ∧ k_ ≠ bH) ∧ k_ ≠ aK)) _ _ aQ bI (fun k_ => some k_ = (.slice aR aM.length aS : Value).ownBlock) (.slice aR aM.length aS) aM (fun k_ => some k_ = (.slice aT aN.length aU : Value).ownBlock) (.slice aT aN.length aU) aN bJ bK (-1) aV aW aX aY aZ bA bB bC eT w _ ?side1 (Kd.C_kept_own ((Kd.R_apart' (Kd.R_apart' aF.out (Kd.R_typed aB.out) (by decide)) (Kd.R_typed aC.out) (by decide))) (fun k_ hk_ hs_ => Or.elim hs_ (fun e_ => (hk_.1.2) e_) (fun e_ => (hk_.2) e_))) ((Kd.R_reads' aF.out).2.1) (Kd.C_kept_own ((Kd.R_apart' (Kd.R_apart' aG.out (Kd.R_typed aB.out) (by decide)) (Kd.R_typed aC.out) (by decide))) (fun k_ hk_ hs_ => Or.elim hs_ (fun e_ => (hk_.1.2) e_) (fun e_ => (hk_.2) e_))) ((Kd.R_reads' aG.out).2.1) (Kd.V_mono (Kd.S_V (Kd.S_types (Kd.S_types (Kd.S_types (Kd.S_types (Kd.S_apart' (Kd.S_apart' (Kd.S_apart' (Kd.S_apart' (aL.out) (Kd.R_typed aF.out) (by decide)) (Kd.R_typed aG.out) (by decide)) (Kd.R_typed aB.out) (by decide)) (Kd.R_typed aC.out) (by decide)) aD.out (by decide)) aE.out (by decide)) aH.out (by decide)) aI.out (by decide))) (fun k_ hk_ => ⟨hk_, hk_.1.1.1.1.1.2, hk_.1.1.1.1.2⟩)) (Kd.R_tight rfl aB.out) (Kd.R_tight rfl aC.out) A8.out).mono ?_; (case side1 => repeat (first | (with_reducible first | exact HB.out | apply below_alloc | apply pw_below_drewN | apply below_drew1 | refine below_set ?_ cR.out | refine below_set ?_ cS.out | refine below_set ?_ cT.out | refine below_set ?_ cU.out) | exact HB.out)); rintro e w30 ⟨cV, cW, gB, eZ, fA, rfl, ho0, ho1, ho2, ho3, ho4, hb, hkp⟩; refine ⟨_, rfl, ?_⟩; replace aL := Zk (Kd.S_mono (ok' := fun k_ => (w.heap.size ≤ k_)) (Kd.S_keptB ((Kd.S_apart' (Kd.S_apart' aL.out (Kd.R_typed aB.out) (by decide)) (Kd.R_typed aC.out) (by decide))) hkp (fun k_ hk_ hs_ => Or.elim hs_ (fun e_ => (hk_.1.2) e_) (fun e_ => (hk_.2) e_))) (fun k_ hk_ => hk_.1.1.1)); have cK := Zk (Kd.R_mono (ok' := fun k_ => (w.heap.size ≤ k_) ∧ some k_ ≠ (.slice bD aO.length bE : Value).ownBlock) ho0 (fun k_ hk_ => ⟨Or.elim hk_ (fun hs_ => Or.elim hs_ (fun hs_ => (aB.out.1 k_ (hs_).symm)) (fun hs_ => (aC.out.1 k_ (hs_).symm))) (fun hn_ => (Nat.le_trans (below_size (bl_ HB)) hn_)), Or.elim hk_ (fun hs_ => Or.elim hs_ (fun hs_ => fun e_ => ((((Kd.R_apart' (Kd.R_apart' aF.out (Kd.R_typed aB.out) (by decide)) (Kd.R_typed aC.out) (by decide))).1 k_ e_.symm).1.2) hs_) (fun hs_ => fun e_ => ((((Kd.R_apart' (Kd.R_apart' aF.out (Kd.R_typed aB.out) (by decide)) (Kd.R_typed aC.out) (by decide))).1 k_ e_.symm).2) hs_)) (fun hn_ => (Kd.fresh' (Kd.R_lt (r_ aF)) k_ hn_))⟩)); have cL := Zk (Kd.R_mono (ok' := fun k_ => (w.heap.size ≤ k_) ∧ some k_ ≠ (.slice bF aP.length bG : Value).ownBlock) ho1 (fun k_ hk_ => ⟨Or.elim hk_ (fun hs_ => Or.elim hs_ (fun hs_ => (aB.out.1 k_ (hs_).symm)) (fun hs_ => (aC.out.1 k_ (hs_).symm))) (fun hn_ => (Nat.le_trans (below_size (bl_ HB)) hn_)), Or.elim hk_ (fun hs_ => Or.elim hs_ (fun hs_ => fun e_ => ((((Kd.R_apart' (Kd.R_apart' aG.out (Kd.R_typed aB.out) (by decide)) (Kd.R_typed aC.out) (by decide))).1 k_ e_.symm).1.2) hs_) (fun hs_ => fun e_ => ((((Kd.R_apart' (Kd.R_apart' aG.out (Kd.R_typed aB.out) (by decide)) (Kd.R_typed aC.out) (by decide))).1 k_ e_.symm).2) hs_)) (fun hn_ => (Kd.fresh' (Kd.R_lt (r_ aG)) k_ hn_))⟩)); have cM := Zk (Kd.V_mono (ok' := fun k_ => (w.heap.size ≤ k_) ∧ some k_ ≠ (cV : Value).ownBlock ∧ some k_ ≠ (cW : Value).ownBlock ∧ some k_ ≠ (eZ : Value).ownBlock ∧ some k_ ≠ (fA : Value).ownBlock ∧ some k_ ≠ (.slice bD aO.length bE : Value).ownBlock ∧ some k_ ≠ (.slice bF aP.length bG : Value).ownBlock ∧ k_ ≠ aJ ∧ k_ ≠ aA ∧ k_ ≠ bH ∧ k_ ≠ aK) ho2 (fun k_ hk_ => ⟨Or.elim hk_.1 (fun hs_ => Or.elim hs_ (fun hs_ => (aB.out.1 k_ (hs_).symm)) (fun hs_ => Or.elim hs_ (fun hs_ => (aC.out.1 k_ (hs_).symm)) (fun hs_ => hs_.1.1.1.1.1.1.1.1))) (fun hn_ => (Nat.le_trans (below_size (bl_ HB)) hn_)), hk_.2.1, hk_.2.2.1, hk_.2.2.2.1, hk_.2.2.2.2, Or.elim hk_.1 (fun hs_ => Or.elim hs_ (fun hs_ => fun e_ => ((((Kd.R_apart' (Kd.R_apart' aF.out (Kd.R_typed aB.out) (by decide)) (Kd.R_typed aC.out) (by decide))).1 k_ e_.symm).1.2) hs_) (fun hs_ => Or.elim hs_ (fun hs_ => fun e_ => ((((Kd.R_apart' (Kd.R_apart' aF.out (Kd.R_typed aB.out) (by decide)) (Kd.R_typed aC.out) (by decide))).1 k_ e_.symm).2) hs_) (fun hs_ => hs_.1.1.1.1.1.1.1.2))) (fun hn_ => (Kd.fresh' (Kd.R_lt (r_ aF)) k_ hn_)), Or.elim hk_.1 (fun hs_ => Or.elim hs_ (fun hs_ => fun e_ => ((((Kd.R_apart' (Kd.R_apart' aG.out (Kd.R_typed aB.out) (by decide)) (Kd.R_typed aC.out) (by decide))).1 k_ e_.symm).1.2) hs_) (fun hs_ => Or.elim hs_ (fun hs_ => fun e_ => ((((Kd.R_apart' (Kd.R_apart' aG.out (Kd.R_typed aB.out) (by decide)) (Kd.R_typed aC.out) (by decide))).1 k_ e_.symm).2) hs_) (fun hs_ => hs_.1.1.1.1.1.1.2))) (fun hn_ => (Kd.fresh' (Kd.R_lt (r_ aG)) k_ hn_)), Or.elim hk_.1 (fun hs_ => Or.elim hs_ (fun hs_ => fun e_ => (Kd.R_ne aB.out aD.out (by decide)) (by rw [← e_]; exact hs_)) (fun hs_ => Or.elim hs_ (fun hs_ => fun e_ => (Kd.R_ne aC.out aD.out (by decide)) (by rw [← e_]; exact hs_)) (fun hs_ => hs_.1.1.1.2))) (fun hn_ => (Kd.freshB (g := aJ) (o := .cells #[.slice none 0 0, .slice none 0 0] 25 (0, 0)) (bk_ aD) k_ hn_)), Or.elim hk_.1 (fun hs_ => Or.elim hs_ (fun hs_ => fun e_ => (Kd.R_ne aB.out aE.out (by decide)) (by rw [← e_]; exact hs_)) (fun hs_ => Or.elim hs_ (fun hs_ => fun e_ => (Kd.R_ne aC.out aE.out (by decide)) (by rw [← e_]; exact hs_)) (fun hs_ => hs_.1.1.2))) (fun hn_ => (Kd.freshB (g := aA) (o := .cells #[.slice none 0 0, .int .i64 0, .slice none 0 0, .slice none 0 0, .int .i64 0, .int .i64 0] 34 (0, 0)) (bk_ aE) k_ hn_)), Or.elim hk_.1 (fun hs_ => Or.elim hs_ (fun hs_ => fun e_ => (Kd.R_ne aB.out aH.out (by decide)) (by rw [← e_]; exact hs_)) (fun hs_ => Or.elim hs_ (fun hs_ => fun e_ => (Kd.R_ne aC.out aH.out (by decide)) (by rw [← e_]; exact hs_)) (fun hs_ => hs_.1.2))) (fun hn_ => (Kd.freshB (g := bH) (o := .cells #[.slice bD aO.length bE, .slice bF aP.length bG] 25 (0, 0)) (bk_ aH) k_ hn_)), Or.elim hk_.1 (fun hs_ => Or.elim hs_ (fun hs_ => fun e_ => (Kd.R_ne aB.out aI.out (by decide)) (by rw [← e_]; exact hs_)) (fun hs_ => Or.elim hs_ (fun hs_ => fun e_ => (Kd.R_ne aC.out aI.out (by decide)) (by rw [← e_]; exact hs_)) (fun hs_ => hs_.2))) (fun hn_ => (Kd.freshB (g := aK) (o := .cells #[.slice cI aQ.length cJ, .int .i64 bI, .slice aR aM.length aS, .slice aT aN.length aU, .int .i64 bJ, .int .i64 bK] 34 (0, 0)) (bk_ aI) k_ hn_))⟩)); replace aD := Zk (blk_kept (bk_ aD) hkp (fun hs_ => Or.elim hs_ (fun e_ => (fun e_ => (Kd.R_ne aB.out aD.out (by decide)) e_) e_) (fun e_ => (fun e_ => (Kd.R_ne aC.out aD.out (by decide)) e_) e_))); replace aE := Zk (blk_kept (bk_ aE) hkp (fun hs_ => Or.elim hs_ (fun e_ => (fun e_ => (Kd.R_ne aB.out aE.out (by decide)) e_) e_) (fun e_ => (fun e_ => (Kd.R_ne aC.out aE.out (by decide)) e_) e_))); replace aF := Zk (Kd.R_mono (ok' := fun k_ => (w.heap.size ≤ k_) ∧ some k_ ≠ (cV : Value).ownBlock) (Kd.R_keptB ((Kd.R_apart' (Kd.R_apart' aF.out (Kd.R_typed aB.out) (by decide)) (Kd.R_typed aC.out) (by decide))) hkp (fun k_ hk_ hs_ => Or.elim hs_ (fun e_ => (hk_.1.2) e_) (fun e_ => (hk_.2) e_))) (fun k_ hk_ => ⟨hk_.1.1.1, fun e_ => Or.elim (ho0.1 k_ e_.symm) (fun hs_ => hk_.2.1 hs_) (fun hn_ => Nat.not_le.2 hk_.2.2 hn_)⟩)); replace aG := Zk (Kd.R_mono (ok' := fun k_ => (w.heap.size ≤ k_) ∧ some k_ ≠ (cW : Value).ownBlock) (Kd.R_keptB ((Kd.R_apart' (Kd.R_apart' aG.out (Kd.R_typed aB.out) (by decide)) (Kd.R_typed aC.out) (by decide))) hkp (fun k_ hk_ hs_ => Or.elim hs_ (fun e_ => (hk_.1.2) e_) (fun e_ => (hk_.2) e_))) (fun k_ hk_ => ⟨hk_.1.1.1, fun e_ => Or.elim (ho1.1 k_ e_.symm) (fun hs_ => hk_.2.1 hs_) (fun hn_ => Nat.not_le.2 hk_.2.2 hn_)⟩)); replace aH := Zk (blk_kept (bk_ aH) hkp (fun hs_ => Or.elim hs_ (fun e_ => (fun e_ => (Kd.R_ne aB.out aH.out (by decide)) e_) e_) (fun e_ => (fun e_ => (Kd.R_ne aC.out aH.out (by decide)) e_) e_))); replace aI := Zk (blk_kept (bk_ aI) hkp (fun hs_ => Or.elim hs_ (fun e_ => (fun e_ => (Kd.R_ne aB.out aI.out (by decide)) e_) e_) (fun e_ => (fun e_ => (Kd.R_ne aC.out aI.out (by decide)) e_) e_))); have cN := Zk (Kd.R_mono (ok' := fun k_ => (w.heap.size ≤ k_)) ho3 (fun k_ hk_ => Or.elim hk_ (fun hs_ => Or.elim hs_ (fun hs_ => (aB.out.1 k_ (hs_).symm)) (fun hs_ => (aC.out.1 k_ (hs_).symm))) (fun hn_ => (Nat.le_trans (below_size (bl_ HB)) hn_)))); have cO := Zk (Kd.R_mono (ok' := fun k_ => (w.heap.size ≤ k_)) ho4 (fun k_ hk_ => Or.elim hk_ (fun hs_ => Or.elim hs_ (fun hs_ => (aB.out.1 k_ (hs_).symm)) (fun hs_ => (aC.out.1 k_ (hs_).symm))) (fun hn_ => (Nat.le_trans (below_size (bl_ HB)) hn_)))); replace HB := Zk (hb); clear aB; clear aC; (try clear hb); (try clear hkp); (try clear ho0); (try clear ho1); (try clear ho2); (try clear ho3); (try clear ho4); obtain ⟨bX, bY, fB⟩ := Kd.R_slice cK.out; subst fB; obtain ⟨fQ, fR⟩ := nn_ bL bM; obtain ⟨eD, eE, eF, eG⟩ := cf2_ aD; obtain ⟨bZ, cA, fC⟩ := Kd.R_slice cL.out; subst fC; obtain ⟨cB, cC, fD⟩ := Kd.V_slice cM.out; subst fD; obtain ⟨eH, eI, eJ, eK, eL, eM, eN, eO, eP, eQ, eR, eS⟩ := cf6_ aE; obtain ⟨cD, cE, fE⟩ := Kd.R_slice cN.out; subst fE; obtain ⟨cF, cG, fF⟩ := Kd.R_slice cO.out; subst fF))
 refine bodyPost_ret (results_list (rs := [.cell 4 25, .cell 5 34, .tmp 6]) rfl (by simp) (.cell aJ 25 #[.slice bX aV.length bY, .slice bZ aW.length cA] (0, 0) _ rfl (bp_ aD) Tryz.underlying25 rfl (by kernel_rfl) (.cell aA 34 #[.slice cB aX.length cC, .int .i64 aY, .slice cD aZ.length cE, .slice cF bA.length cG, .int .i64 bB, .int .i64 bC] (0, 0) _ rfl (bp_ aE) Tryz.underlying34 rfl (by kernel_rfl) (.tmp .nil)))) rfl ?_
 exact ⟨_, _, _, _, _, e_, by (with_reducible repeat (first | apply Kd.R_alloc | apply Kd.R_drewN | apply Kd.R_drew)); exact Kd.R_mono (Kd.R_far (p := ⟨aA, 5, none⟩) (Kd.R_far (p := ⟨aA, 4, none⟩) (Kd.R_far (p := ⟨aA, 3, none⟩) (Kd.R_far (p := ⟨aA, 2, none⟩) (Kd.R_far (p := ⟨aA, 1, none⟩) (Kd.R_far (p := ⟨aA, 0, none⟩) (Kd.R_far (p := ⟨aJ, 1, none⟩) (Kd.R_far (p := ⟨aJ, 0, none⟩) (Kd.R_types (Kd.R_types cK.out aD.out (by decide)) aE.out (by decide)) (fun _ hk => hk.1.2) (.slice bX aV.length bY)) (fun _ hk => hk.1.2) (.slice bZ aW.length cA)) (fun _ hk => hk.2) (.slice cB aX.length cC)) (fun _ hk => hk.2) (.int .i64 aY)) (fun _ hk => hk.2) (.slice cD aZ.length cE)) (fun _ hk => hk.2) (.slice cF bA.length cG)) (fun _ hk => hk.2) (.int .i64 bB)) (fun _ hk => hk.2) (.int .i64 bC)) (fun _ hk => hk.1.1.1), by (with_reducible repeat (first | apply Kd.R_alloc | apply Kd.R_drewN | apply Kd.R_drew)); exact Kd.R_mono (Kd.R_far (p := ⟨aA, 5, none⟩) (Kd.R_far (p := ⟨aA, 4, none⟩) (Kd.R_far (p := ⟨aA, 3, none⟩) (Kd.R_far (p := ⟨aA, 2, none⟩) (Kd.R_far (p := ⟨aA, 1, none⟩) (Kd.R_far (p := ⟨aA, 0, none⟩) (Kd.R_far (p := ⟨aJ, 1, none⟩) (Kd.R_far (p := ⟨aJ, 0, none⟩) (Kd.R_types (Kd.R_types cL.out aD.out (by decide)) aE.out (by decide)) (fun _ hk => hk.1.2) (.slice bX aV.length bY)) (fun _ hk => hk.1.2) (.slice bZ aW.length cA)) (fun _ hk => hk.2) (.slice cB aX.length cC)) (fun _ hk => hk.2) (.int .i64 aY)) (fun _ hk => hk.2) (.slice cD aZ.length cE)) (fun _ hk => hk.2) (.slice cF bA.length cG)) (fun _ hk => hk.2) (.int .i64 bB)) (fun _ hk => hk.2) (.int .i64 bC)) (fun _ hk => hk.1.1.1), by (with_reducible repeat (first | apply Kd.V_alloc | apply Kd.V_drewN | apply Kd.V_drew)); exact Kd.V_mono (Kd.V_far (p := ⟨aA, 5, none⟩) (Kd.V_far (p := ⟨aA, 4, none⟩) (Kd.V_far (p := ⟨aA, 3, none⟩) (Kd.V_far (p := ⟨aA, 2, none⟩) (Kd.V_far (p := ⟨aA, 1, none⟩) (Kd.V_far (p := ⟨aA, 0, none⟩) (Kd.V_far (p := ⟨aJ, 1, none⟩) (Kd.V_far (p := ⟨aJ, 0, none⟩) (Kd.V_mono (Kd.V_mono cM.out (fun k_ hk => (⟨hk, hk.2.2.2.2.2.2.2.1⟩ : _ ∧ k_ ≠ aJ))) (fun k_ hk => (⟨hk, hk.1.2.2.2.2.2.2.2.2.1⟩ : _ ∧ k_ ≠ aA))) (fun _ hk => hk.1.2) (.slice bX aV.length bY)) (fun _ hk => hk.1.2) (.slice bZ aW.length cA)) (fun _ hk => hk.2) (.slice cB aX.length cC)) (fun _ hk => hk.2) (.int .i64 aY)) (fun _ hk => hk.2) (.slice cD aZ.length cE)) (fun _ hk => hk.2) (.slice cF bA.length cG)) (fun _ hk => hk.2) (.int .i64 bB)) (fun _ hk => hk.2) (.int .i64 bC)) (fun _ hk => ⟨hk.1.1.1, ⟨hk.1.1.2.1, ⟨hk.1.1.2.2.1, ⟨hk.1.1.2.2.2.1, hk.1.1.2.2.2.2.1⟩⟩⟩⟩), by (with_reducible repeat (first | apply Kd.R_alloc | apply Kd.R_drewN | apply Kd.R_drew)); exact Kd.R_mono (Kd.R_far (p := ⟨aA, 5, none⟩) (Kd.R_far (p := ⟨aA, 4, none⟩) (Kd.R_far (p := ⟨aA, 3, none⟩) (Kd.R_far (p := ⟨aA, 2, none⟩) (Kd.R_far (p := ⟨aA, 1, none⟩) (Kd.R_far (p := ⟨aA, 0, none⟩) (Kd.R_far (p := ⟨aJ, 1, none⟩) (Kd.R_far (p := ⟨aJ, 0, none⟩) (Kd.R_types (Kd.R_types cN.out aD.out (by decide)) aE.out (by decide)) (fun _ hk => hk.1.2) (.slice bX aV.length bY)) (fun _ hk => hk.1.2) (.slice bZ aW.length cA)) (fun _ hk => hk.2) (.slice cB aX.length cC)) (fun _ hk => hk.2) (.int .i64 aY)) (fun _ hk => hk.2) (.slice cD aZ.length cE)) (fun _ hk => hk.2) (.slice cF bA.length cG)) (fun _ hk => hk.2) (.int .i64 bB)) (fun _ hk => hk.2) (.int .i64 bC)) (fun _ hk => hk.1.1), by (with_reducible repeat (first | apply Kd.R_alloc | apply Kd.R_drewN | apply Kd.R_drew)); exact Kd.R_mono (Kd.R_far (p := ⟨aA, 5, none⟩) (Kd.R_far (p := ⟨aA, 4, none⟩) (Kd.R_far (p := ⟨aA, 3, none⟩) (Kd.R_far (p := ⟨aA, 2, none⟩) (Kd.R_far (p := ⟨aA, 1, none⟩) (Kd.R_far (p := ⟨aA, 0, none⟩) (Kd.R_far (p := ⟨aJ, 1, none⟩) (Kd.R_far (p := ⟨aJ, 0, none⟩) (Kd.R_types (Kd.R_types cO.out aD.out (by decide)) aE.out (by decide)) (fun _ hk => hk.1.2) (.slice bX aV.length bY)) (fun _ hk => hk.1.2) (.slice bZ aW.length cA)) (fun _ hk => hk.2) (.slice cB aX.length cC)) (fun _ hk => hk.2) (.int .i64 aY)) (fun _ hk => hk.2) (.slice cD aZ.length cE)) (fun _ hk => hk.2) (.slice cF bA.length cG)) (fun _ hk => hk.2) (.int .i64 bB)) (fun _ hk => hk.2) (.int .i64 bC)) (fun _ hk => hk.1.1), bl_ HB⟩
end
def exOk (r : List ByteArray × List S98 × List S65 × Int × List S122 × List (Nat × Nat) × Int × Int × Int) : Bool :=
 match mount_Mount.f r.1 r.2.1, mount_Mount.f (r.1.take 1) [], mount_Super.f 100000 r.1 r.2.1, mount_Check.f 100000 r.1 r.2.1 with
 | some m, some m2, some s, some c =>
  decide (r.1.length = 135) && decide (m.2.2.2.2.2.2 = 0) && decide (m.2.2.2.2.2.1 = 1) && decide (m.2.2.1.length = 0) && decide (m2.2.2.2.2.2.2 = 4) && decide (s.2.2.2 = 0) && decide (s.1 = 1) && decide (c.1 = 0) && decide (c.2 = 0) &&
   (assartref12_Same.f 10000 r.2.2.1 r.2.2.2.1 r.2.2.2.2.1 r.2.2.2.2.2.1 r.2.2.2.2.2.2.1 r.2.2.2.2.2.2.2.1 m.1 m.2.1 m.2.2.1 m.2.2.2.1 m.2.2.2.2.1 m.2.2.2.2.2.1 == some true) &&
   (mount_Right.f m.1 m.2.1 m.2.2.1 m.2.2.2.1 m.2.2.2.2.1 m.2.2.2.2.2.1 == some true) && (mount_Right.f [] 0 [] [] 0 0 == some false)
 | _, _, _, _ => false
def exF : Bool := match assartref15_Format.f 10000 135 2 with
 | some r => exOk r
 | none => false
theorem exF_true : exF = true := by decide +kernel
theorem ex_parts : ∃ r1 r2 r3 r4 r5 r6 r7 r8 r9, assartref15_Format.f 10000 135 2 = some (r1, r2, r3, r4, r5, r6, r7, r8, r9) ∧ exOk (r1, r2, r3, r4, r5, r6, r7, r8, r9) = true := by
 have h := exF_true
 unfold exF at h
 generalize assartref15_Format.f 10000 135 2 = F at h ⊢
 rcases F with _ | ⟨r1, r2, r3, r4, r5, r6, r7, r8, r9⟩
 ·cases h
 ·exact ⟨r1, r2, r3, r4, r5, r6, r7, r8, r9, rfl, h⟩
theorem ex_all {r1 : List ByteArray} {r2 : List S98} {r3 : List S65} {r4 : Int} {r5 : List S122} {r6 : List (Nat × Nat)} {r7 r8 r9 : Int} (h : exOk (r1, r2, r3, r4, r5, r6, r7, r8, r9) = true) :
  ∃ m1 m2 m3 m4 m5 n1 n2 n3 n4 n5 n6 s2 s3, r1.length = 135 ∧ mount_Mount.f r1 r2 = some (m1, m2, m3, m4, m5, 1, 0) ∧ m3.length = 0 ∧ mount_Mount.f (r1.take 1) [] = some (n1, n2, n3, n4, n5, n6, 4) ∧ mount_Super.f 100000 r1 r2 = some (1, s2, s3, 0) ∧ mount_Check.f 100000 r1 r2 = some (0, 0) ∧
   assartref12_Same.f 10000 r3 r4 r5 r6 r7 r8 m1 m2 m3 m4 m5 1 = some true ∧ mount_Right.f m1 m2 m3 m4 m5 1 = some true ∧ mount_Right.f [] 0 [] [] 0 0 = some false := by
 unfold exOk at h
 simp only at h
 generalize mount_Mount.f r1 r2 = M at h ⊢
 generalize mount_Mount.f (r1.take 1) [] = M2 at h ⊢
 generalize mount_Super.f 100000 r1 r2 = Su at h ⊢
 generalize mount_Check.f 100000 r1 r2 = Ck at h ⊢
 generalize mount_Right.f [] 0 [] [] 0 0 = R0 at h ⊢
 rcases M with _ | ⟨m1, m2, m3, m4, m5, m6, m7⟩
 ·cases h
 rcases M2 with _ | ⟨n1, n2, n3, n4, n5, n6, n7⟩
 ·cases h
 rcases Su with _ | ⟨s1, s2, s3, s4⟩
 ·cases h
 rcases Ck with _ | ⟨c1, c2⟩
 ·cases h
 simp only [Bool.and_eq_true, decide_eq_true_eq, beq_iff_eq] at h
 obtain ⟨⟨⟨⟨⟨⟨⟨⟨⟨⟨⟨h1, rfl⟩, rfl⟩, h4⟩, rfl⟩, rfl⟩, rfl⟩, rfl⟩, rfl⟩, h10⟩, h11⟩, rfl⟩ := h
 exact ⟨m1, m2, m3, m4, m5, n1, n2, n3, n4, n5, n6, s2, s3, h1, rfl, h4, rfl, rfl, rfl, h10, h11, rfl⟩
theorem shown_walk (w : World) : Calls Tryz.prog 4 #[] w fun e w' => e = .returned (.bool true) ∧ Below w.heap.size w w' := by
 obtain ⟨r1, r2, r3, r4, r5, r6, r7, r8, r9, hF, hE⟩ := ex_parts
 obtain ⟨m1, m2, m3, m4, m5, n1, n2, n3, n4, n5, n6, s2, s3, hlen, hM, hm3, hM2, hS, hC, hSa, hR, hR0⟩ := ex_all hE
 obtain rfl := List.eq_nil_of_length_eq_zero hm3
 have HF := Zk hF
 have HM := Zk hM
 have HM2 := Zk hM2
 have HS := Zk hS
 have HC := Zk hC
 have HSA := Zk hSa
 have HR := Zk hR
 have HR0 := Zk hR0
 have HLEN := Zk hlen
 have hu25 := Tryz.underlying25
 have hu34 := Tryz.underlying34
 have hu30 := Tryz.underlying30
 have hu40 := Tryz.underlying40
 clear hF hE hM hM2 hS hC hSa hR hR0 hlen hm3
 go_enter Tryz.func4, Tryz.ntmps4
 go_wp2_with fail
 refine (assartref15_Format.calls 10000 135 2 r1 r2 r3 r4 r5 r6 r7 r8 r9 w HF.out).mono ?_
 rintro e w2 ⟨v0, v1, v2, v4, v5, rfl, h0, h1, h2, h4, h5, hb2⟩
 obtain ⟨A0, c0, rfl⟩ := Kd.R_slice h0
 obtain ⟨A1, c1, rfl⟩ := Kd.R_slice h1
 obtain ⟨A2, c2, rfl⟩ := Kd.V_slice h2
 obtain ⟨A4, c4, rfl⟩ := Kd.R_slice h4
 obtain ⟨A5, c5, rfl⟩ := Kd.R_slice h5
 have C0 := Zk (Kd.R_reads' h0)
 have C1 := Zk (Kd.R_reads' h1)
 have C2 := Zk (Kd.V_reads' h2)
 have C4 := Zk (Kd.R_reads' h4)
 have C5 := Zk (Kd.R_reads' h5)
 obtain ⟨b1, hb1⟩ : ∃ b, w2.heap.size = b := ⟨_, rfl⟩
 obtain ⟨wz, hwz⟩ : ∃ W, (w2.alloc (.cells #[.slice none 0 0, .slice none 0 0] 25)).alloc (.cells #[.slice none 0 0, .int .i64 0, .slice none 0 0, .slice none 0 0, .int .i64 0, .int .i64 0] 34) = W := ⟨_, rfl⟩
 have Z1 := Zk (show wz.heap[b1]? = some (.cells #[.slice none 0 0, .slice none 0 0] 25 (0, 0)) by rw [← hwz, ← hb1]; exact blk_alloc (alloc_new w2 _) _)
 have Z2 := Zk (show wz.heap[b1 + 1]? = some (.cells zeroS 34 (0, 0)) by
  rw [← hwz, ← hb1]
  have := alloc_new (w2.alloc (.cells #[.slice none 0 0, .slice none 0 0] 25)) (.cells #[.slice none 0 0, .int .i64 0, .slice none 0 0, .slice none 0 0, .int .i64 0, .int .i64 0] 34)
  rwa [World.size_alloc] at this)
 have hbz : Below w2.heap.size w2 wz := by rw [← hwz]; exact ((Below.refl _ w2).alloc (Nat.le_refl _) _).alloc (by simp) _
 have HBZ := Zk hbz
 have HB2 := Zk hb2
 have z10 : wz.cell? ⟨b1, 0, none⟩ = some (.slice none 0 0) := (blk_cell Z1.out 0).trans rfl
 have y10 := blk_frozen Z1.out 0
 have z11 : wz.cell? ⟨b1, 1, none⟩ = some (.slice none 0 0) := (blk_cell Z1.out 1).trans rfl
 have y11 := blk_frozen Z1.out 1
 have z20 : wz.cell? ⟨b1 + 1, 0, none⟩ = some (.slice none 0 0) := (blk_cell Z2.out 0).trans rfl
 have y20 := blk_frozen Z2.out 0
 have z21 : wz.cell? ⟨b1 + 1, 1, none⟩ = some (.int .i64 0) := (blk_cell Z2.out 1).trans rfl
 have y21 := blk_frozen Z2.out 1
 have z22 : wz.cell? ⟨b1 + 1, 2, none⟩ = some (.slice none 0 0) := (blk_cell Z2.out 2).trans rfl
 have y22 := blk_frozen Z2.out 2
 have z23 : wz.cell? ⟨b1 + 1, 3, none⟩ = some (.slice none 0 0) := (blk_cell Z2.out 3).trans rfl
 have y23 := blk_frozen Z2.out 3
 have z24 : wz.cell? ⟨b1 + 1, 4, none⟩ = some (.int .i64 0) := (blk_cell Z2.out 4).trans rfl
 have y24 := blk_frozen Z2.out 4
 have z25 : wz.cell? ⟨b1 + 1, 5, none⟩ = some (.int .i64 0) := (blk_cell Z2.out 5).trans rfl
 have y25 := blk_frozen Z2.out 5
 have nb : b1 ≠ b1 + 1 := by omega
 have nb2 : b1 + 1 ≠ b1 := by omega
 obtain ⟨w3, hw3⟩ : ∃ W, ((((((((wz.setCell ⟨b1, 0, none⟩ (.slice A0 r1.length c0)).setCell ⟨b1, 1, none⟩ (.slice A1 r2.length c1)).setCell ⟨b1 + 1, 0, none⟩ (.slice A2 r3.length c2)).setCell ⟨b1 + 1, 1, none⟩ (.int .i64 r4)).setCell ⟨b1 + 1, 2, none⟩ (.slice A4 r5.length c4)).setCell ⟨b1 + 1, 3, none⟩ (.slice A5 r6.length c5)).setCell ⟨b1 + 1, 4, none⟩ (.int .i64 r7)).setCell ⟨b1 + 1, 5, none⟩ (.int .i64 r8)) = W := ⟨_, rfl⟩
 have X1 : Aside0 (w3.heap[b1]? = some (.cells #[.slice A0 r1.length c0, .slice A1 r2.length c1] 25 (0, 0))) := ⟨by
  rw [← hw3]
  exact (six_far _ _ _ _ _ _ nb).trans (blk_put (blk_put Z1.out 0 _ rfl) 1 _ rfl)⟩
 have X2 : Aside0 (w3.heap[b1 + 1]? = some (.cells #[.slice A2 r3.length c2, .int .i64 r4, .slice A4 r5.length c4, .slice A5 r6.length c5, .int .i64 r7, .int .i64 r8] 34 (0, 0))) := ⟨by
  rw [← hw3]
  exact six_at _ _ _ _ _ _ ((Below.heap_setCell _ _ _ _ nb2).trans ((Below.heap_setCell _ _ _ _ nb2).trans Z2.out))⟩
 have HB3 : Aside0 (Below w2.heap.size w2 w3) := ⟨by
  rw [← hw3]
  exact six_B _ _ _ _ _ _ ((HBZ.out.setCell (p := ⟨b1, 0, none⟩) (show w2.heap.size ≤ b1 by omega) _).setCell (p := ⟨b1, 1, none⟩) (show w2.heap.size ≤ b1 by omega) _) (show w2.heap.size ≤ b1 + 1 by omega)⟩
 obtain ⟨k0, k1, -, -⟩ := cf2_ X1
 clear h0 h1 h2 h4 h5 hb2 hbz
 go_wp2_with fail
 clear k0 k1 hw3 hwz z10 z11 y10 y11 z20 z21 z22 z23 z24 z25 y20 y21 y22 y23 y24 y25 Z1 Z2
 refine (mount_Mount.calls A0 c0 r1 A1 c1 r2 m1 m2 [] m4 m5 1 0 w3 (Kd.C_below C0.out.2.2 HB3.out) C0.out.2.1 (Kd.C_below C1.out.2.2 HB3.out) C1.out.2.1 HM.out).mono ?_
 rintro e w4 ⟨u0, u1, u2, rfl, g0, g1, g2, hb4⟩
 obtain ⟨B0, d0, rfl, -, -⟩ := Kd.S_reads g0
 obtain ⟨B1, d1, rfl, -, -⟩ := Kd.R_reads g1
 obtain ⟨B2, d2, rfl, -, -⟩ := Kd.R_reads g2
 have G0 := Zk (Kd.S_reads' g0)
 have G1 := Zk (Kd.R_reads' g1)
 have G2 := Zk (Kd.R_reads' g2)
 obtain ⟨b4, hb4e⟩ : ∃ b, w4.heap.size = b := ⟨_, rfl⟩
 obtain ⟨w5, hw5⟩ : ∃ W, w4.alloc (.cells #[.slice B0 m1.length d0, .int .i64 m2, .slice B1 0 d1, .slice B2 m4.length d2, .int .i64 m5, .int .i64 1] 34) = W := ⟨_, rfl⟩
 have X4 := Zk (show w5.heap[b4]? = some (.cells #[.slice B0 m1.length d0, .int .i64 m2, .slice B1 0 d1, .slice B2 m4.length d2, .int .i64 m5, .int .i64 1] 34 (0, 0)) by rw [← hw5, ← hb4e]; exact alloc_new _ _)
 have hb45 : Below w4.heap.size w4 w5 := by rw [← hw5]; exact (Below.refl _ w4).alloc (Nat.le_refl _) _
 have hb35 : Below w3.heap.size w3 w5 := hb4.trans (hb45.mono hb4.size)
 replace X1 := Zk ((hb35.block _ (blk_lt X1.out)).trans X1.out)
 replace X2 := Zk ((hb35.block _ (blk_lt X2.out)).trans X2.out)
 have HB5 := Zk (below_step HB3.out hb35)
 have HB45 := Zk hb45
 have k0 : w5.cell? ⟨b1, 0, none⟩ = some (.slice A0 r1.length c0) := (blk_cell X1.out 0).trans rfl
 obtain ⟨i0, hi0, hi1⟩ := Option.map_eq_some_iff.1 info9
 have hcut := cut_to (P := Tryz.prog) 22 9 .i64 Tryz.underlying22 hi0 A0 r1.length c0 1 (by omega) (by have := HLEN.out; omega) C0.out.2.1
 clear g0 g1 g2 hb4 hb45 hb35 hi0 hi1
 have ht1 : (r1.take 1).length = 1 := by rw [List.length_take, HLEN.out]; rfl
 have hmm := mount_Mount.calls A0 c0 (r1.take 1) none 0 [] n1 n2 n3 n4 n5 n6 4 w5 (Kd.C_take (Kd.C_below C0.out.2.2 HB5.out) (by have := HLEN.out; omega)) (by rw [ht1]; have := HLEN.out; have := C0.out.2.1; omega) (Kd.C_nil _ _) (Nat.le_refl _) HM2.out
 rw [ht1] at hmm
 have HMM := Zk hmm
 clear hmm ht1
 go_wp2_with fail
 refine HMM.out.mono ?_
 rintro e w6 ⟨u0, u1, u2, rfl, g0, g1, g2, hb6⟩
 obtain ⟨E0, f0, rfl, -, -⟩ := Kd.S_reads g0
 obtain ⟨E1, f1, rfl, -, -⟩ := Kd.R_reads g1
 obtain ⟨E2, f2, rfl, -, -⟩ := Kd.R_reads g2
 obtain ⟨w7, hw7⟩ : ∃ W, w6.alloc (.cells #[.slice E0 n1.length f0, .int .i64 n2, .slice E1 n3.length f1, .slice E2 n4.length f2, .int .i64 n5, .int .i64 n6] 34) = W := ⟨_, rfl⟩
 have hb67 : Below w6.heap.size w6 w7 := by rw [← hw7]; exact (Below.refl _ w6).alloc (Nat.le_refl _) _
 have hb57 : Below w5.heap.size w5 w7 := hb6.trans (hb67.mono hb6.size)
 replace X1 := Zk ((hb57.block _ (blk_lt X1.out)).trans X1.out)
 replace X2 := Zk ((hb57.block _ (blk_lt X2.out)).trans X2.out)
 replace X4 := Zk ((hb57.block _ (blk_lt X4.out)).trans X4.out)
 have HB7 := Zk (below_step HB5.out hb57)
 have HB47 := Zk (HB45.out.trans (hb57.mono HB45.out.size))
 clear k0 hcut g0 g1 g2 hb6 hb67 hb57 HMM hw5
 obtain ⟨k0, k1, -, -⟩ := cf2_ X1
 go_wp2_with fail
 refine (mount_Super.calls 100000 A0 c0 r1 A1 c1 r2 1 s2 s3 0 w7 (Kd.C_below C0.out.2.2 HB7.out) C0.out.2.1 (Kd.C_below C1.out.2.2 HB7.out) C1.out.2.1 HS.out).mono ?_
 rintro e w8 ⟨rfl, hb8⟩
 obtain ⟨b8, hb8e⟩ : ∃ b, w8.heap.size = b := ⟨_, rfl⟩
 obtain ⟨w9, hw9⟩ : ∃ W, w8.alloc (.cells #[.int .i64 1, .int .i64 s2, .int .i64 s3] 40) = W := ⟨_, rfl⟩
 have hb89 : Below w8.heap.size w8 w9 := by rw [← hw9]; exact (Below.refl _ w8).alloc (Nat.le_refl _) _
 have hb79 : Below w7.heap.size w7 w9 := hb8.trans (hb89.mono hb8.size)
 have X8 := Zk (show w9.heap[b8]? = some (.cells #[.int .i64 1, .int .i64 s2, .int .i64 s3] 40 (0, 0)) by rw [← hw9, ← hb8e]; exact alloc_new _ _)
 replace X1 := Zk ((hb79.block _ (blk_lt X1.out)).trans X1.out)
 replace X2 := Zk ((hb79.block _ (blk_lt X2.out)).trans X2.out)
 replace X4 := Zk ((hb79.block _ (blk_lt X4.out)).trans X4.out)
 have HB9 := Zk (below_step HB7.out hb79)
 have HB49 := Zk (HB47.out.trans (hb79.mono HB47.out.size))
 clear k0 k1 hb8 hb89 hb79 hw7
 obtain ⟨k0, k1, -, -⟩ := cf2_ X1
 go_wp2_with fail
 refine (mount_Check.calls 100000 A0 c0 r1 A1 c1 r2 0 0 w9 (Kd.C_below C0.out.2.2 HB9.out) C0.out.2.1 (Kd.C_below C1.out.2.2 HB9.out) C1.out.2.1 HC.out).mono ?_
 rintro e wa ⟨rfl, hba⟩
 replace X2 := Zk ((hba.block _ (blk_lt X2.out)).trans X2.out)
 replace X4 := Zk ((hba.block _ (blk_lt X4.out)).trans X4.out)
 replace X8 := Zk ((hba.block _ (blk_lt X8.out)).trans X8.out)
 have HBa := Zk (below_step HB9.out hba)
 have HB4a := Zk (HB49.out.trans (hba.mono HB49.out.size))
 clear k0 k1 hba hw9 X1
 obtain ⟨p0, p1, p2, p3, p4, p5, -, -, -, -, -, -⟩ := cf6_ X2
 obtain ⟨q0, q1, q2, q3, q4, q5, -, -, -, -, -, -⟩ := cf6_ X4
 go_wp2_with fail
 refine (assartref12_Same.calls 10000 A2 c2 r3 r4 A4 c4 r5 A5 c5 r6 r7 r8 B0 d0 m1 m2 B1 d1 [] B2 d2 m4 m5 1 true wa (Kd.C_below C2.out.2.2 HBa.out) C2.out.2.1 (Kd.C_below C4.out.2.2 HBa.out) C4.out.2.1 (Kd.C_below C5.out.2.2 HBa.out) C5.out.2.1 (Kd.C_below G0.out.2.2 HB4a.out) G0.out.2.1 (Kd.C_below G1.out.2.2 HB4a.out) G1.out.2.1 (Kd.C_below G2.out.2.2 HB4a.out) G2.out.2.1 HSA.out).mono ?_
 rintro e wb ⟨rfl, hbb0⟩
 have hbb : Below wa.heap.size wa wb := by first | exact hbb0 | exact hbb0.below
 replace X4 := Zk ((hbb.block _ (blk_lt X4.out)).trans X4.out)
 replace X8 := Zk ((hbb.block _ (blk_lt X8.out)).trans X8.out)
 have HBb := Zk (below_step HBa.out hbb)
 have HB4b := Zk (HB4a.out.trans (hbb.mono HB4a.out.size))
 clear p0 p1 p2 p3 p4 p5 q0 q1 q2 q3 q4 q5 hbb hbb0 X2
 obtain ⟨q0, q1, q2, q3, q4, q5, -, -, -, -, -, -⟩ := cf6_ X4
 have s0 : wb.cell? ⟨b8, 0, none⟩ = some (.int .i64 1) := (blk_cell X8.out 0).trans rfl
 go_wp2_with fail
 refine (mount_Right.calls B0 d0 m1 m2 B1 d1 [] B2 d2 m4 m5 1 true wb (Kd.C_below G0.out.2.2 HB4b.out) G0.out.2.1 (Kd.C_below G1.out.2.2 HB4b.out) G1.out.2.1 (Kd.C_below G2.out.2.2 HB4b.out) G2.out.2.1 HR.out).mono ?_
 rintro e wc ⟨rfl, hbc⟩
 have HBc := Zk (below_step HBb.out hbc)
 clear hbc q0 q1 q2 q3 q4 q5 s0
 go_wp2_with fail
 refine (mount_Right.calls none 0 [] 0 none 0 [] none 0 [] 0 0 false wc (Kd.C_nil _ _) (Nat.le_refl _) (Kd.C_nil _ _) (Nat.le_refl _) (Kd.C_nil _ _) (Nat.le_refl _) HR0.out).mono ?_
 rintro e wd ⟨rfl, hbd⟩
 go_wp2
 go_ret
 exact ⟨rfl, below_step HB2.out (below_step HBc.out hbd)⟩
theorem GoodD.inW {bs : List ByteArray} {ws : List S98} (h : GoodD bs ws) : inW bs.length ws := fun x hx => ⟨(h.wr x hx).1, (h.wr x hx).2.1⟩
theorem reads_walk (A0 : Option Addr) (c0 : Nat) (l0 : List ByteArray) (A1 : Option Addr) (c1 : Nat) (l1 : List S98) (a : Int) (w : World) (hr0 : Kd.C Kd.string w A0 l0.length l0) (hc0 : l0.length ≤ c0) (hr1 : Kd.C k98 w A1 l1.length l1) (hc1 : l1.length ≤ c1) (ha0 : 0 ≤ a) (ha1 : a < 256) :
  Calls Tryz.prog 3 #[.agg #[.slice A0 l0.length c0, .slice A1 l1.length c1], .int .u8 a] w fun e w' => e = .returned (.bool true) ∧ Below w.heap.size w w' := by
 have hu25 := Tryz.underlying25
 have hu34 := Tryz.underlying34
 have hu30 := Tryz.underlying30
 have hu40 := Tryz.underlying40
 obtain ⟨may, hmay, hgood⟩ := May_val l0 l1
 have HMAY := Zk hmay
 have HC0 := Zk hc0
 have HC1 := Zk hc1
 have HR0 := Zk hr0
 have HR1 := Zk hr1
 have HA0 := Zk ha0
 have HA1 := Zk ha1
 have HG := Zk hgood
 clear hmay hc0 hc1 hr0 hr1 ha0 ha1 hgood
 obtain ⟨b1, hb1⟩ : ∃ b, w.heap.size = b := ⟨_, rfl⟩
 obtain ⟨w1, hw1⟩ : ∃ W, w.alloc (.cells #[.slice A0 l0.length c0, .slice A1 l1.length c1] 25) = W := ⟨_, rfl⟩
 have hb : Below w.heap.size w w1 := by rw [← hw1]; exact (Below.refl _ w).alloc (Nat.le_refl _) _
 have X1 := Zk (show w1.heap[b1]? = some (.cells #[.slice A0 l0.length c0, .slice A1 l1.length c1] 25 (0, 0)) by rw [← hw1, ← hb1]; exact alloc_new _ _)
 have HB1 := Zk hb
 clear hb
 go_enter Tryz.func3, Tryz.ntmps3
 go_wp2_with fail
 refine (shown_walk w1).mono ?_
 rintro e w2 ⟨rfl, hb12⟩
 replace X1 := Zk ((hb12.block _ (blk_lt X1.out)).trans X1.out)
 have HB2 := Zk (below_step HB1.out hb12)
 clear hb12 hw1
 obtain ⟨k0, k1, -, -⟩ := cf2_ X1
 go_wp2_with fail
 refine (assartref14_May.calls 100000 A0 c0 l0 A1 c1 l1 may w2 (Kd.C_below HR0.out HB2.out) HC0.out (Kd.C_below HR1.out HB2.out) HC1.out HMAY.out).mono ?_
 rintro e w3 ⟨rfl, hb23⟩
 replace X1 := Zk ((hb23.block _ (blk_lt X1.out)).trans X1.out)
 have HB3 := Zk (below_step HB2.out hb23)
 clear hb23 k0 k1
 obtain ⟨k0, k1, -, -⟩ := cf2_ X1
 by_cases cm : may = true
 case neg =>
  obtain rfl : may = false := by simpa using cm
  go_wp2
  go_ret
  exact ⟨rfl, HB3.out⟩
 subst cm
 by_cases cl : (l0.length : Int) > 135
 case pos =>
  have clb : decide ((l0.length : Int) > 135) = true := decide_eq_true cl
  go_wp2
  go_ret
  exact ⟨rfl, HB3.out⟩
 have clb : decide ((l0.length : Int) > 135) = false := decide_eq_false cl
 have G := HG.out rfl
 go_wp2_with fail
 have hl135 : l0.length ≤ 135 := by omega
 obtain ⟨sg, ss, sm, se, ⟨m1, m2, m3, m4, m5, m6, m7⟩, hSu, hMo, hOk, hEr⟩ := mount_tot G
 have hwl := G.wfew
 have hFl := flush_val l0 l1 (by omega) (by omega) G.inW
 have hSu2 := (super_flush l0 l1 (by omega) G.inW 100000).trans hSu
 have hMo2 := (mount_flush l0 l1 (by omega) G.inW).trans hMo
 have HSU := Zk hSu
 have HMO := Zk hMo
 have HFL := Zk hFl
 have HSU2 := Zk hSu2
 have HMO2 := Zk hMo2
 have HOK := Zk hOk
 have HER := Zk hEr
 have HL := Zk hl135
 have HRI := Zk (fun h => hOk.er h)
 have HSS := Zk (state_same hOk)
 clear hSu hMo hFl hSu2 hMo2 hOk hEr hl135 hwl cl G
 refine (mount_Mount.calls A0 c0 l0 A1 c1 l1 m1 m2 m3 m4 m5 m6 m7 w3 (Kd.C_below HR0.out HB3.out) HC0.out (Kd.C_below HR1.out HB3.out) HC1.out HMO.out).mono ?_
 rintro e w4 ⟨u0, u1, u2, rfl, g0, g1, g2, hb4⟩
 obtain ⟨B0, d0, rfl, -, -⟩ := Kd.S_reads g0
 obtain ⟨B1, d1, rfl, -, -⟩ := Kd.R_reads g1
 obtain ⟨B2, d2, rfl, -, -⟩ := Kd.R_reads g2
 have G0 := Zk (Kd.S_reads' g0)
 have G1 := Zk (Kd.R_reads' g1)
 have G2 := Zk (Kd.R_reads' g2)
 obtain ⟨b6, hb6⟩ : ∃ b, w4.heap.size = b := ⟨_, rfl⟩
 obtain ⟨w5, hw5⟩ : ∃ W, w4.alloc (.cells #[.slice B0 m1.length d0, .int .i64 m2, .slice B1 m3.length d1, .slice B2 m4.length d2, .int .i64 m5, .int .i64 m6] 34) = W := ⟨_, rfl⟩
 have X6 := Zk (show w5.heap[b6]? = some (.cells #[.slice B0 m1.length d0, .int .i64 m2, .slice B1 m3.length d1, .slice B2 m4.length d2, .int .i64 m5, .int .i64 m6] 34 (0, 0)) by rw [← hw5, ← hb6]; exact alloc_new _ _)
 have hb45 : Below w4.heap.size w4 w5 := by rw [← hw5]; exact (Below.refl _ w4).alloc (Nat.le_refl _) _
 have hb35 : Below w3.heap.size w3 w5 := hb4.trans (hb45.mono hb4.size)
 replace X1 := Zk ((hb35.block _ (blk_lt X1.out)).trans X1.out)
 have HB5 := Zk (below_step HB3.out hb35)
 have HB45 := Zk hb45
 clear g0 g1 g2 hb4 hb45 hb35 k0 k1
 obtain ⟨k0, k1, -, -⟩ := cf2_ X1
 go_wp2_with fail
 refine (assartref02_Flush.calls 100000 A0 c0 l0 A1 c1 l1 (applyW l0 l1) [] w5 (Kd.C_below HR0.out HB5.out) HC0.out (Kd.C_below HR1.out HB5.out) HC1.out HFL.out).mono ?_
 rintro e w6 ⟨v0, v1, rfl, f0, f1, hb56⟩
 obtain ⟨D0, e0, rfl⟩ := Kd.R_slice f0
 obtain ⟨D1, e1, rfl⟩ := Kd.R_slice f1
 have F0 := Zk (Kd.R_reads' f0)
 have F1 := Zk (Kd.R_reads' f1)
 replace X1 := Zk ((hb56.block _ (blk_lt X1.out)).trans X1.out)
 replace X6 := Zk ((hb56.block _ (blk_lt X6.out)).trans X6.out)
 have HB6 := Zk (below_step HB5.out hb56)
 have HB46 := Zk (HB45.out.trans (hb56.mono HB45.out.size))
 clear f0 f1 hb56 k0 k1 hw5
 go_wp2_with fail
 refine (mount_Mount.calls D0 e0 (applyW l0 l1) D1 e1 [] m1 m2 m3 m4 m5 m6 m7 w6 F0.out.2.2 F0.out.2.1 F1.out.2.2 F1.out.2.1 HMO2.out).mono ?_
 rintro e w7 ⟨u0, u1, u2, rfl, g0, g1, g2, hb7⟩
 obtain ⟨E0, h0, rfl, -, -⟩ := Kd.S_reads g0
 obtain ⟨E1, h1, rfl, -, -⟩ := Kd.R_reads g1
 obtain ⟨E2, h2, rfl, -, -⟩ := Kd.R_reads g2
 have J0 := Zk (Kd.S_reads' g0)
 have J1 := Zk (Kd.R_reads' g1)
 have J2 := Zk (Kd.R_reads' g2)
 obtain ⟨b8, hb8⟩ : ∃ b, w7.heap.size = b := ⟨_, rfl⟩
 obtain ⟨w8, hw8⟩ : ∃ W, w7.alloc (.cells #[.slice E0 m1.length h0, .int .i64 m2, .slice E1 m3.length h1, .slice E2 m4.length h2, .int .i64 m5, .int .i64 m6] 34) = W := ⟨_, rfl⟩
 have X8 := Zk (show w8.heap[b8]? = some (.cells #[.slice E0 m1.length h0, .int .i64 m2, .slice E1 m3.length h1, .slice E2 m4.length h2, .int .i64 m5, .int .i64 m6] 34 (0, 0)) by rw [← hw8, ← hb8]; exact alloc_new _ _)
 have hb78 : Below w7.heap.size w7 w8 := by rw [← hw8]; exact (Below.refl _ w7).alloc (Nat.le_refl _) _
 have hb68 : Below w6.heap.size w6 w8 := hb7.trans (hb78.mono hb7.size)
 replace X1 := Zk ((hb68.block _ (blk_lt X1.out)).trans X1.out)
 replace X6 := Zk ((hb68.block _ (blk_lt X6.out)).trans X6.out)
 have HB8 := Zk (below_step HB6.out hb68)
 have HB48 := Zk (HB46.out.trans (hb68.mono HB46.out.size))
 have HB78 := Zk hb78
 clear g0 g1 g2 hb7 hb78 hb68
 obtain ⟨k0, k1, -, -⟩ := cf2_ X1
 go_wp2_with fail
 refine (mount_Super.calls 100000 A0 c0 l0 A1 c1 l1 sg ss sm se w8 (Kd.C_below HR0.out HB8.out) HC0.out (Kd.C_below HR1.out HB8.out) HC1.out HSU.out).mono ?_
 rintro e w9 ⟨rfl, hb9⟩
 obtain ⟨ba, hba⟩ : ∃ b, w9.heap.size = b := ⟨_, rfl⟩
 obtain ⟨wa, hwa⟩ : ∃ W, w9.alloc (.cells #[.int .i64 sg, .int .i64 ss, .int .i64 sm] 40) = W := ⟨_, rfl⟩
 have hb9a : Below w9.heap.size w9 wa := by rw [← hwa]; exact (Below.refl _ w9).alloc (Nat.le_refl _) _
 have hb8a : Below w8.heap.size w8 wa := hb9.trans (hb9a.mono hb9.size)
 have XA := Zk (show wa.heap[ba]? = some (.cells #[.int .i64 sg, .int .i64 ss, .int .i64 sm] 40 (0, 0)) by rw [← hwa, ← hba]; exact alloc_new _ _)
 replace X1 := Zk ((hb8a.block _ (blk_lt X1.out)).trans X1.out)
 replace X6 := Zk ((hb8a.block _ (blk_lt X6.out)).trans X6.out)
 replace X8 := Zk ((hb8a.block _ (blk_lt X8.out)).trans X8.out)
 have HBa := Zk (below_step HB8.out hb8a)
 have HB4a := Zk (HB48.out.trans (hb8a.mono HB48.out.size))
 have HB7a := Zk (HB78.out.trans (hb8a.mono HB78.out.size))
 clear hb9 hb9a hb8a k0 k1 hw8
 obtain ⟨k0, k1, -, -⟩ := cf2_ X1
 go_wp2_with fail
 refine (assartref02_Flush.calls 100000 A0 c0 l0 A1 c1 l1 (applyW l0 l1) [] wa (Kd.C_below HR0.out HBa.out) HC0.out (Kd.C_below HR1.out HBa.out) HC1.out HFL.out).mono ?_
 rintro e wb ⟨v0, v1, rfl, f0, f1, hbab⟩
 obtain ⟨D2, e2, rfl⟩ := Kd.R_slice f0
 obtain ⟨D3, e3, rfl⟩ := Kd.R_slice f1
 have F2 := Zk (Kd.R_reads' f0)
 have F3 := Zk (Kd.R_reads' f1)
 replace X6 := Zk ((hbab.block _ (blk_lt X6.out)).trans X6.out)
 replace X8 := Zk ((hbab.block _ (blk_lt X8.out)).trans X8.out)
 replace XA := Zk ((hbab.block _ (blk_lt XA.out)).trans XA.out)
 have HBb := Zk (below_step HBa.out hbab)
 have HB4b := Zk (HB4a.out.trans (hbab.mono HB4a.out.size))
 have HB7b := Zk (HB7a.out.trans (hbab.mono HB7a.out.size))
 clear f0 f1 hbab k0 k1 hwa X1
 go_wp2_with fail
 refine (mount_Super.calls 100000 D2 e2 (applyW l0 l1) D3 e3 [] sg ss sm se wb F2.out.2.2 F2.out.2.1 F3.out.2.2 F3.out.2.1 HSU2.out).mono ?_
 rintro e wc ⟨rfl, hbc⟩
 obtain ⟨bc, hbce⟩ : ∃ b, wc.heap.size = b := ⟨_, rfl⟩
 obtain ⟨wd, hwd⟩ : ∃ W, wc.alloc (.cells #[.int .i64 sg, .int .i64 ss, .int .i64 sm] 40) = W := ⟨_, rfl⟩
 have hbcd : Below wc.heap.size wc wd := by rw [← hwd]; exact (Below.refl _ wc).alloc (Nat.le_refl _) _
 have hbbd : Below wb.heap.size wb wd := hbc.trans (hbcd.mono hbc.size)
 have XC := Zk (show wd.heap[bc]? = some (.cells #[.int .i64 sg, .int .i64 ss, .int .i64 sm] 40 (0, 0)) by rw [← hwd, ← hbce]; exact alloc_new _ _)
 replace X6 := Zk ((hbbd.block _ (blk_lt X6.out)).trans X6.out)
 replace X8 := Zk ((hbbd.block _ (blk_lt X8.out)).trans X8.out)
 replace XA := Zk ((hbbd.block _ (blk_lt XA.out)).trans XA.out)
 have HBd := Zk (below_step HBb.out hbbd)
 have HB4d := Zk (HB4b.out.trans (hbbd.mono HB4b.out.size))
 have HB7d := Zk (HB7b.out.trans (hbbd.mono HB7b.out.size))
 clear hbc hbcd hbbd
 go_wp2_with fail
 obtain ⟨n, hn⟩ : ∃ n : Nat, 1 + a.toNat % 135 = n := ⟨_, rfl⟩
 have hn1 : 1 ≤ n := by omega
 have hn2 : n ≤ 135 := by omega
 have hnn : wrap64 (1 + (wrap64 a).tmod 135) = (n : Int) := by
  have h0 := HA0.out
  have h1 := HA1.out
  rw [w64 (x := a) (by omega) (by omega), Int.tmod_eq_emod_of_nonneg h0, w64 (by omega) (by omega)]
  omega
 rw [hnn]
 clear hnn hn
 refine (assartref02_New.calls 100000 (n : Int) (List.replicate n zs) [] 0 wd (new_val n hn1 hn2)).mono ?_
 rintro e we ⟨v0, v1, rfl, f0, f1, hbde⟩
 obtain ⟨N0, i0, rfl⟩ := Kd.R_slice f0
 obtain ⟨N1, i1, rfl⟩ := Kd.R_slice f1
 have N2 := Zk (Kd.R_reads' f0)
 have N3 := Zk (Kd.R_reads' f1)
 obtain ⟨be, hbe⟩ : ∃ b, we.heap.size = b := ⟨_, rfl⟩
 obtain ⟨wf, hwf⟩ : ∃ W, we.alloc (.cells #[.slice N0 n i0, .slice N1 0 i1] 25) = W := ⟨_, rfl⟩
 have hbef : Below we.heap.size we wf := by rw [← hwf]; exact (Below.refl _ we).alloc (Nat.le_refl _) _
 have hbdf : Below wd.heap.size wd wf := hbde.trans (hbef.mono hbde.size)
 have XE := Zk (show wf.heap[be]? = some (.cells #[.slice N0 n i0, .slice N1 0 i1] 25 (0, 0)) by rw [← hwf, ← hbe]; exact alloc_new _ _)
 replace X6 := Zk ((hbdf.block _ (blk_lt X6.out)).trans X6.out)
 replace X8 := Zk ((hbdf.block _ (blk_lt X8.out)).trans X8.out)
 replace XA := Zk ((hbdf.block _ (blk_lt XA.out)).trans XA.out)
 replace XC := Zk ((hbdf.block _ (blk_lt XC.out)).trans XC.out)
 have HBf := Zk (below_step HBd.out hbdf)
 have HB4f := Zk (HB4d.out.trans (hbdf.mono HB4d.out.size))
 have HB7f := Zk (HB7d.out.trans (hbdf.mono HB7d.out.size))
 have HBef := Zk hbef
 have HN1 := Zk hn1
 have HN2 := Zk hn2
 clear f0 f1 hbde hbef hbdf hwd hn1 hn2
 obtain ⟨k0, k1, -, -⟩ := cf2_ XE
 go_wp2_with fail
 have hmm := mount_Mount.calls N0 i0 (List.replicate n zs) N1 i1 [] [] 0 [] [] 0 0 4 wf (Kd.C_below N2.out.2.2 HBef.out) N2.out.2.1 (Kd.C_below N3.out.2.2 HBef.out) N3.out.2.1 (new_mount n HN2.out)
 rw [List.length_replicate] at hmm
 refine hmm.mono ?_
 clear hmm
 rintro e wg ⟨u0, u1, u2, rfl, g0, g1, g2, hbfg⟩
 obtain ⟨P0, j0, rfl, -, -⟩ := Kd.S_reads g0
 obtain ⟨P1, j1, rfl, -, -⟩ := Kd.R_reads g1
 obtain ⟨P2, j2, rfl, -, -⟩ := Kd.R_reads g2
 obtain ⟨bg, hbg⟩ : ∃ b, wg.heap.size = b := ⟨_, rfl⟩
 obtain ⟨wh, hwh⟩ : ∃ W, wg.alloc (.cells #[.slice P0 0 j0, .int .i64 0, .slice P1 0 j1, .slice P2 0 j2, .int .i64 0, .int .i64 0] 34) = W := ⟨_, rfl⟩
 have XG := Zk (show wh.heap[bg]? = some (.cells #[.slice P0 0 j0, .int .i64 0, .slice P1 0 j1, .slice P2 0 j2, .int .i64 0, .int .i64 0] 34 (0, 0)) by rw [← hwh, ← hbg]; exact alloc_new _ _)
 have hbgh : Below wg.heap.size wg wh := by rw [← hwh]; exact (Below.refl _ wg).alloc (Nat.le_refl _) _
 have hbfh : Below wf.heap.size wf wh := hbfg.trans (hbgh.mono hbfg.size)
 replace XE := Zk ((hbfh.block _ (blk_lt XE.out)).trans XE.out)
 replace X6 := Zk ((hbfh.block _ (blk_lt X6.out)).trans X6.out)
 replace X8 := Zk ((hbfh.block _ (blk_lt X8.out)).trans X8.out)
 replace XA := Zk ((hbfh.block _ (blk_lt XA.out)).trans XA.out)
 replace XC := Zk ((hbfh.block _ (blk_lt XC.out)).trans XC.out)
 have HBh := Zk (below_step HBf.out hbfh)
 have HB4h := Zk (HB4f.out.trans (hbfh.mono HB4f.out.size))
 have HB7h := Zk (HB7f.out.trans (hbfh.mono HB7f.out.size))
 have HBeh := Zk (HBef.out.trans (hbfh.mono HBef.out.size))
 clear g0 g1 g2 hbfg hbgh hbfh k0 k1 hwf
 have HWH := Zk hwh
 obtain ⟨k0, k1, -, -⟩ := cf2_ XE
 rw [← hwh] at k0 k1
 clear hwh
 go_wp2_with fail
 rw [HWH.out]
 have hck := mount_Check.calls 100000 N0 i0 (List.replicate n zs) N1 i1 [] 0 4 wh (Kd.C_below N2.out.2.2 HBeh.out) N2.out.2.1 (Kd.C_below N3.out.2.2 HBeh.out) N3.out.2.1 (new_check n HN2.out)
 rw [List.length_replicate] at hck
 refine hck.mono ?_
 clear hck
 rintro e wi ⟨rfl, hbhi⟩
 replace X6 := Zk ((hbhi.block _ (blk_lt X6.out)).trans X6.out)
 replace X8 := Zk ((hbhi.block _ (blk_lt X8.out)).trans X8.out)
 replace XA := Zk ((hbhi.block _ (blk_lt XA.out)).trans XA.out)
 replace XC := Zk ((hbhi.block _ (blk_lt XC.out)).trans XC.out)
 have HBi := Zk (below_step HBh.out hbhi)
 have HB4i := Zk (HB4h.out.trans (hbhi.mono HB4h.out.size))
 have HB7i := Zk (HB7h.out.trans (hbhi.mono HB7h.out.size))
 clear hbhi k0 k1 HWH XE
 obtain ⟨q0, q1, q2, q3, q4, q5, -, -, -, -, -, -⟩ := cf6_ X6
 obtain ⟨r0, r1, r2, r3, r4, r5, -, -, -, -, -, -⟩ := cf6_ X8
 go_wp2_with fail
 have q : (m7 == m7) = true := beq_self_eq_true _
 have qs : (se == se) = true := beq_self_eq_true _
 refine (assartref12_Same.calls 100000 B0 d0 m1 m2 B1 d1 m3 B2 d2 m4 m5 m6 E0 h0 m1 m2 E1 h1 m3 E2 h2 m4 m5 m6 true wi (Kd.C_below G0.out.2.2 HB4i.out) G0.out.2.1 (Kd.C_below G1.out.2.2 HB4i.out) G1.out.2.1 (Kd.C_below G2.out.2.2 HB4i.out) G2.out.2.1 (Kd.C_below J0.out.2.2 HB7i.out) J0.out.2.1 (Kd.C_below J1.out.2.2 HB7i.out) J1.out.2.1 (Kd.C_below J2.out.2.2 HB7i.out) J2.out.2.1 HSS.out).mono ?_
 rintro e wj ⟨rfl, hbij⟩
 replace X6 := Zk ((hbij.block _ (blk_lt X6.out)).trans X6.out)
 replace XA := Zk ((hbij.block _ (blk_lt XA.out)).trans XA.out)
 replace XC := Zk ((hbij.block _ (blk_lt XC.out)).trans XC.out)
 have HBj := Zk (below_step HBi.out hbij)
 have HB4j := Zk (HB4i.out.trans (hbij.mono HB4i.out.size))
 clear hbij q0 q1 q2 q3 q4 q5 r0 r1 r2 r3 r4 r5 X8
 obtain ⟨q0, q1, q2, q3, q4, q5, -, -, -, -, -, -⟩ := cf6_ X6
 obtain ⟨s0, s1, s2, -, -, -⟩ := cf3_ XA
 obtain ⟨t0, t1, t2, -, -, -⟩ := cf3_ XC
 by_cases c7 : m7 = 0
 case neg =>
  have z1 : (m7 == 0) = false := by rw [← Bool.not_eq_true, beq_iff_eq]; exact c7
  have z2 : (m7 != 0) = true := by rw [bne, z1]; rfl
  clear c7
  go_wp2
  go_ret
  exact ⟨rfl, HBj.out⟩
 have z1 : (m7 == 0) = true := beq_iff_eq.2 c7
 have z2 : (m7 != 0) = false := by rw [bne, z1]; rfl
 have HGE := Zk (HER.out c7).2
 have HR := Zk (HRI.out c7)
 clear c7
 go_wp2_with fail
 refine (mount_Right.calls B0 d0 m1 m2 B1 d1 m3 B2 d2 m4 m5 m6 true wj (Kd.C_below G0.out.2.2 HB4j.out) G0.out.2.1 (Kd.C_below G1.out.2.2 HB4j.out) G1.out.2.1 (Kd.C_below G2.out.2.2 HB4j.out) G2.out.2.1 HR.out).mono ?_
 rintro e wk ⟨rfl, hbjk⟩
 replace X6 := Zk ((hbjk.block _ (blk_lt X6.out)).trans X6.out)
 replace XA := Zk ((hbjk.block _ (blk_lt XA.out)).trans XA.out)
 have HBk := Zk (below_step HBj.out hbjk)
 clear hbjk q0 q1 q2 q3 q4 q5 s0 s1 s2 t0 t1 t2
 have q5 : wk.cell? ⟨b6, 5, none⟩ = some (.int .i64 m6) := (blk_cell X6.out 5).trans rfl
 have s0 : wk.cell? ⟨ba, 0, none⟩ = some (.int .i64 sg) := (blk_cell XA.out 0).trans rfl
 have z3 : (m6 == sg) = true := beq_iff_eq.2 HGE.out
 go_wp2
 go_ret
 exact ⟨rfl, HBk.out⟩
structure Opens {α : Type} (P : Program) (t : TypeId) (d : Kd α) (ok : α → Prop) : Prop where
 sz : P.cellsOf t = d.sz
 op : ∀ {H : Type} {enc : TypeId × Value → H} {W : World} {base : Nat} {spare : Nat → Bool} {held : Bool} {fuel : Nat} {cs : List Value} {y : DataW H × List MemPlace}, DataW.trod enc P W base spare held fuel t cs = some y → (DataW.weights P t y.1).all (· ≤ reachBytes) = true → ∃ x, d.K W x cs ∧ ok x
theorem Opens.int {P : Program} {t : TypeId} {k : IntKind} (h : P.underlying t = some (.int k)) (hs : P.cellsOf t = 1) : Opens P t (Kd.int k) (fun n => (Lit.int k n).wf = true) :=
 ⟨hs, fun hy _ => by
  obtain ⟨n, rfl, _, hw⟩ := DataW.trod_int h hy
  exact ⟨n, rfl, hw⟩⟩
theorem Opens.bool {P : Program} {t : TypeId} (h : P.underlying t = some .bool) (hs : P.cellsOf t = 1) : Opens P t Kd.bool (fun _ => True) :=
 ⟨hs, fun hy _ => by
  obtain ⟨b, rfl, _⟩ := DataW.trod_bool h hy
  exact ⟨b, rfl, trivial⟩⟩
theorem Opens.string {P : Program} {t : TypeId} (h : P.underlying t = some .string) (hs : P.cellsOf t = 1) : Opens P t Kd.string (fun s => s.size ≤ 140737488351232) :=
 ⟨hs, fun hy hw => by
  obtain ⟨s, rfl, rfl, _⟩ := DataW.trod_string h hy
  refine ⟨s, rfl, ?_⟩
  have := hw
  simp [DataW.weights, reachBytes] at this
  exact of_decide_eq_true this⟩
theorem choose_row {α : Type} {R : Nat → α → Prop} : ∀ n, (∀ i, i < n → ∃ x, R i x) → ∃ xs : List α, xs.length = n ∧ ∀ i x, xs[i]? = some x → R i x
 | 0, _ => ⟨[], rfl, fun i x h => by simp at h⟩
 | n + 1, h => by
  obtain ⟨xs, hl, hx⟩ := choose_row n (fun i hi => h i (by omega))
  obtain ⟨x, hr⟩ := h n (by omega)
  refine ⟨xs ++ [x], by simp [hl], fun i z hz => ?_⟩
  by_cases hi : i < n
  case pos =>
   rw [List.getElem?_append_left (by omega)] at hz
   exact hx i z hz
  rw [List.getElem?_append_right (by omega)] at hz
  have : i - xs.length = 0 := by
   rcases Nat.eq_zero_or_pos (i - xs.length) with h0 | h0
   ·exact h0
   ·rw [List.getElem?_eq_none (by simp; omega)] at hz; cases hz
  rw [this] at hz
  simp at hz
  subst hz
  have : i = n := by omega
  rw [this]; exact hr
theorem weightsAll_mem {H : Type} {P : Program} {e : TypeId} : ∀ {ds : List (DataW H)}, (DataW.weightsAll P e ds).all (· ≤ reachBytes) = true → ∀ d ∈ ds, (DataW.weights P e d).all (· ≤ reachBytes) = true
 | [], _, d, hd => by cases hd
 | a :: ds, h, d, hd => by
  simp only [DataW.weightsAll, List.all_append, Bool.and_eq_true] at h
  rcases List.mem_cons.1 hd with rfl | hd
  ·exact h.1
  ·exact weightsAll_mem h.2 d hd
theorem Opens.slice {α : Type} {P : Program} {t e : TypeId} {d : Kd α} {ok : α → Prop} {B : Nat} (h : P.underlying t = some (.slice e)) (hs : P.cellsOf t = 1) (hB : P.bytesOf e = B) (he : Opens P e d ok) : Opens P t (Kd.slice e d) (fun xs => xs.length * B ≤ 140737488351232 ∧ ∀ x ∈ xs, ok x) :=
 ⟨hs, fun {H enc W base spare held fuel cs y} hy hw => by
  rcases DataW.trod_slice h hy with ⟨rfl, rfl⟩ | ⟨a, len, cap, elems, rest, n, rfl, rfl, rfl, hb, hl, hc, hel, hi, _, _⟩
  ·exact ⟨[], ⟨none, 0, rfl, Nat.le_refl _, Kd.C_nil _ _⟩, by simp⟩
  ·unfold DataW.weights at hw
   rw [h] at hw
   simp only [List.all_cons, List.all_append, Bool.and_eq_true, decide_eq_true_eq, hB, List.length_map] at hw
   obtain ⟨hw0, hw1, _⟩ := hw
   have hx : ∀ i, i < len → ∃ x, ok x ∧ ∃ c, c.length = d.sz ∧ d.K W x c ∧ W.cells? base (a.add (i * d.sz)) d.sz = some c := by
    intro i hlt
    have h1 := hi i hlt
    rw [List.getElem?_eq_getElem (by omega)] at h1
    obtain ⟨c, hc1, hc2⟩ := Option.bind_eq_some_iff.1 h1
    obtain ⟨x, hK, hok⟩ := he.op hc2 (weightsAll_mem hw1 _ (List.mem_map_of_mem (List.getElem_mem _)))
    rw [he.sz] at hc1
    exact ⟨x, hok, c, d.K_len hK, hK, hc1⟩
   obtain ⟨xs, hxl, hxs⟩ := choose_row len hx
   refine ⟨xs, ⟨some a, cap, by rw [hxl], by omega, rfl, ?_, fun hpos => ⟨a, rfl, fun j p hj => ?_⟩⟩, ?_, ?_⟩
   ·simp only [maxLen] at hc; omega
   ·obtain ⟨_, c, hcl, hK, hcc⟩ := hxs j p hj
    refine ⟨c, hcl, hK, fun i u hu => ?_⟩
    obtain ⟨_, _, hcell⟩ := World.cells?_some hcc
    have hi : i < d.sz := by rw [← hcl]; exact (List.getElem?_eq_some_iff.1 hu).1
    have := hcell i hi
    rw [Addr.add_add] at this
    rw [this, hu]
   ·rw [hxl, ← hel]
    refine Nat.le_trans (Nat.mul_le_mul_right _ (Nat.le_add_right _ _)) hw0
   ·intro x hx
    obtain ⟨i, hlt, rfl⟩ := List.getElem_of_mem hx
    exact (hxs i _ (List.getElem?_eq_getElem hlt)).1⟩
theorem weights_at {H : Type} {P : Program} : ∀ {ts : List TypeId} {ds : List (DataW H)} {j : Nat} {t : TypeId} {d : DataW H}, (DataW.weightsEach P ts ds).all (· ≤ reachBytes) = true → ts[j]? = some t → ds[j]? = some d → (DataW.weights P t d).all (· ≤ reachBytes) = true
 | [], _, _, _, _, _, ht, _ => by simp at ht
 | _ :: _, [], _, _, _, _, _, hd => by simp at hd
 | t0 :: ts, d0 :: ds, 0, _, _, h, ht, hd => by
  simp only [List.getElem?_cons_zero, Option.some.injEq] at ht hd
  subst ht; subst hd
  simp only [DataW.weightsEach, List.all_append, Bool.and_eq_true] at h
  exact h.1
 | t0 :: ts, d0 :: ds, j + 1, _, _, h, ht, hd => by
  simp only [List.getElem?_cons_succ] at ht hd
  simp only [DataW.weightsEach, List.all_append, Bool.and_eq_true] at h
  exact weights_at h.2 ht hd
structure OpensFs {α : Type} (P : Program) (fs : List Field) (off : Nat) (d : Kd α) (ok : α → Prop) : Prop where
 op : ∀ {H : Type} {enc : TypeId × Value → H} {W : World} {base : Nat} {spare : Nat → Bool} {held : Bool} {fuel : Nat} {cs : List Value} {ys : List (DataW H × List MemPlace)},
  (∀ (i : Nat) (f : Field), fs[i]? = some f → DataW.trod enc P W base spare held fuel f.type ((cs.drop f.offset).take (P.cellsOf f.type)) = ys[i]?) → ys.length = fs.length →
  (DataW.weightsEach P (fs.map (·.type)) (ys.map (·.1))).all (· ≤ reachBytes) = true → cs.length = off + d.sz → ∃ x, d.K W x (cs.drop off) ∧ ok x
theorem OpensFs.one {α : Type} {P : Program} {f : Field} {t : TypeId} {off : Nat} {d : Kd α} {ok : α → Prop} (ht : f.type = t) (hoff : f.offset = off) (h : Opens P t d ok) : OpensFs P [f] off d ok :=
 ⟨fun {H enc W base spare held fuel cs ys} hy hl hw hcs => by
  obtain ⟨y, rfl⟩ : ∃ y, ys = [y] := by
   cases ys with
   | nil => simp at hl
   | cons y ys => cases ys with
    | nil => exact ⟨y, rfl⟩
    | cons => simp at hl
  have h0 := hy 0 f rfl
  simp only [List.getElem?_cons_zero] at h0
  simp only [List.map_cons, List.map_nil, DataW.weightsEach, List.append_nil] at hw
  rw [ht] at h0 hw
  obtain ⟨x, hK, hok⟩ := h.op h0 hw
  rw [hoff, List.take_of_length_le (by rw [List.length_drop, h.sz]; omega)] at hK
  exact ⟨x, hK, hok⟩⟩
theorem OpensFs.cons {α β : Type} {P : Program} {f : Field} {fs : List Field} {t : TypeId} {off n : Nat} {d : Kd α} {d' : Kd β} {ok : α → Prop} {ok' : β → Prop} (ht : f.type = t) (hoff : f.offset = off) (h : Opens P t d ok) (hn : off + d.sz = n) (hr : OpensFs P fs n d' ok') :
  OpensFs P (f :: fs) off (Kd.pair d d') (fun x => ok x.1 ∧ ok' x.2) :=
 ⟨fun {H enc W base spare held fuel cs ys} hy hl hw hcs => by
  cases ys with
  | nil => simp at hl
  | cons y ys =>
   have h0 := hy 0 f rfl
   simp only [List.getElem?_cons_zero] at h0
   simp only [List.map_cons, DataW.weightsEach, List.all_append, Bool.and_eq_true] at hw
   have hw0 := hw.1
   rw [ht] at h0 hw0
   obtain ⟨x, hK, hok⟩ := h.op h0 hw0
   have hsz : (Kd.pair d d').sz = d.sz + d'.sz := rfl
   rw [hsz] at hcs
   obtain ⟨x', hK', hok'⟩ := hr.op (fun i g hg => hy (i + 1) g (by simpa using hg)) (by simpa using hl) hw.2 (by omega)
   refine ⟨(x, x'), ⟨_, _, ?_, hK, hK'⟩, hok, hok'⟩
   rw [hoff, h.sz, ← hn, ← List.drop_drop]
   exact (List.take_append_drop _ _).symm⟩
theorem Opens.struct {α β : Type} {P : Program} {t : TypeId} {fs : Array Field} {fl : List Field} {d : Kd α} {ok : α → Prop} (f : β → α) (g : α → β) (hfg : ∀ x, f (g x) = x) (h : P.underlying t = some (.struct fs)) (hfl : fs.toList = fl) (hs : P.cellsOf t = d.sz) (ho : OpensFs P fl 0 d ok) :
  Opens P t (Kd.iso d f) (fun x => ok (f x)) :=
 ⟨hs, fun {H enc W base spare held fuel cs y} hy hw => by
  obtain ⟨xs, n, rfl, rfl, hcl, hxl, hx⟩ := DataW.trod_struct h hy
  unfold DataW.weights at hw
  rw [h] at hw
  simp only [hfl] at hw
  subst hfl
  obtain ⟨x, hK, hok⟩ := ho.op (ys := xs) (fun i f hf => hx i f (by simpa using hf)) (by simpa using hxl) hw (by omega)
  rw [List.drop_zero] at hK
  refine ⟨g x, ?_, ?_⟩
  ·show d.K W (f (g x)) cs
   rw [hfg]; exact hK
  ·rw [hfg]; exact hok⟩
end Go.Proofs.YtfmjepmgcdoelaaGreat.P
section
namespace Go.Proofs.YtfmjepmgcdoelaaGreat.mountReads
open Go.ChangeShapes Go.WideShapes Go.ChangeAt Go.RowKit Go.Proofs.YtfmjepmgcdoelaaGreat.P Go.Proofs.YtfmjepmgcdoelaaGreatW.PrintWords Go.Proofs.YtfmjepmgcdoelaaGreatW.PrintLast Go.Proofs.YtfmjepmgcdoelaaGreatW.PrintMore
open Go.ChangeMaps (open_string shut_string)
set_option linter.unusedVariables false
set_option linter.unusedSimpArgs false
def ok98 (x : S98) : Prop := (fun x => (Lit.int .i64 x).wf = true) x.f0 ∧ (fun x => x.size ≤ 140737488351232) x.f1
theorem opens98 : Opens Tryz.prog 98 k98 ok98 := Opens.struct (fs := _) (fun x : S98 => (x.f0, x.f1)) (fun p => ⟨p.1, p.2⟩) (fun _ => rfl) Tryz.underlying98 rfl (by kernel_rfl) (OpensFs.cons rfl rfl (Opens.int Tryz.underlying3 (by kernel_rfl)) rfl (OpensFs.one rfl rfl (Opens.string Tryz.underlying9 (by kernel_rfl))))
theorem own : ownKnob Tryz.prog.godebug = none := by kernel_rfl
theorem laidOut : laidOutB Tryz.prog = true := by kernel_rfl
theorem lifted (os : Os) (started : os.Started) (H : Type) (enc : TypeId × Value → H) :
  ReturnsInHanded {} Tryz.checked os 3 .any (Rows.mountReadsSpec.pre6 enc Tryz.prog Tryz.f3 Rows.mountReadsRow.domain false) (Rows.mountReadsSpec.post enc Tryz.prog Tryz.f3 false true false false) := by
 refine returnsInHanded_of_change_sized (C := Tryz.checked) own started (by kernel_rfl) Tryz.func3
  (ChangeSpec.witness6 (enc := enc) (C := Tryz.checked) false ⟨#[], #[.agg #[.slice none 0 0, .slice none 0 0], .int .u8 0], []⟩ 8 (by kernel_rfl) (by kernel_rfl) (by kernel_rfl) (by kernel_rfl)) ?_
 intro W base args ds gs before hval0 hW hcnd hsz0 _
 have hsz : (DataW.weightsEach Tryz.prog (Tryz.f3.params.toList ++ Rows.mountReadsSpec.plain.varTypes Tryz.prog) (ds ++ gs)).all (· ≤ reachBytes) = true := hsz0
 have hval : ∀ (j : Nat) t v, Tryz.f3.params[j]? = some t → args[j]? = some v → Value.okWide Tryz.prog W .any base t v := hval0
 have hW' := hW
 obtain ⟨p, q, hA0, hV, rfl, hfz, hnd⟩ := hW
 have hA : DataW.TrodAll enc Tryz.prog W 0 (fun _ => true) true Tryz.f3.params.toList args.toList ds p := hA0
 rw [Tryz.params3] at hA hval hsz
 obtain ⟨v0, vs0, d0, ds0, p0, q0, hargs, rfl, rfl, h0, r0⟩ := trodAll_cons hA
 obtain ⟨v1, vs1, d1, ds1, p1, q1, rfl, rfl, rfl, h1, r1⟩ := trodAll_cons r0
 obtain ⟨rfl, rfl, rfl⟩ := trodAll_nil r1
 obtain rfl : args = #[v0, v1] := by cases args; simp_all
 obtain ⟨rfl, rfl⟩ := trodVars_none hV
 have k0 := h0
 have lt0 : ∀ x ∈ p0, x.block < W.heap.size := by obtain ⟨m, hm⟩ := k0; exact DataW.trod_lt m _ _ _ hm
 have wt0 := weights_at hsz (j := 0) (t := 25) (d := d0) rfl rfl
 have k1 := h1
 have lt1 : ∀ x ∈ p1, x.block < W.heap.size := by obtain ⟨m, hm⟩ := k1; exact DataW.trod_lt m _ _ _ hm
 obtain ⟨a1, rfl, _, _, o1⟩ := open_int Tryz.underlying5 (hval 1 5 v1 rfl rfl) h1
 obtain ⟨fuel0, hf0⟩ := h0
 obtain ⟨x0, hK0, hok0⟩ := (Opens.struct (f := id) (g := id) (fun _ => rfl) Tryz.underlying25 rfl (by kernel_rfl) (OpensFs.cons rfl rfl (Opens.slice (B := 16) Tryz.underlying22 (by kernel_rfl) (by kernel_rfl) (Opens.string Tryz.underlying9 (by kernel_rfl))) rfl (OpensFs.one rfl rfl (Opens.slice (B := 24) Tryz.underlying23 (by kernel_rfl) (by kernel_rfl) opens98)))).op hf0 wt0
 obtain ⟨cs0, rfl, hsz0⟩ := okWide_struct Tryz.underlying25 (hval 0 25 v0 rfl rfl)
 obtain ⟨l0_0, l0_1⟩ := x0
 obtain ⟨L0, hL0⟩ : ∃ L, (Value.agg cs0).cells.toList = L := ⟨_, rfl⟩
 rw [hL0] at hK0
 obtain ⟨_, _, rfl, ⟨aA, aB, rfl, aC, aD⟩, ⟨aE, aF, rfl, aG, aH⟩⟩ := hK0
 obtain rfl : cs0 = #[.slice aA l0_0.length aB, .slice aE l0_1.length aF] := by have h := hL0; simp [Value.cells] at h; cases cs0; simp_all
 clear hA0 hval0 hsz0 hsz
 refine (reads_walk aA aB l0_0 aE aF l0_1 a1 W aD aC aH aG (by have := (of_decide_eq_true ((Bool.and_eq_true _ _ ▸ o1 : _ ∧ _).1) : (0 : Int) ≤ a1); exact this) (by have := (of_decide_eq_true ((Bool.and_eq_true _ _ ▸ o1 : _ ∧ _).2) : a1 ≤ (255 : Int)); omega)).mono fun e W' ⟨he, bel0⟩ => ?_
 have bel := bel0
 subst he
 exact ⟨_, rfl, _, _, _, [], _, [], hW', trodAll_mk1 (shut_bool Tryz.underlying4 _), (trodAll_cons_mk (Below.trod laidOut (by kernel_rfl) (of_decide_eq_true (by kernel_rfl)) k0 bel lt0) (trodAll_cons_mk (Below.trod laidOut (by kernel_rfl) (of_decide_eq_true (by kernel_rfl)) k1 bel lt1) trodAll_mk0)), rfl, bel.frame _, fun h => by cases h⟩
theorem over : Rows.mountReadsRow.holds Tryz.pinned (OpenSpec.ofChange Rows.mountReadsSpec) :=
 OpenClaim.holds_of_wide 3 Tryz.f3 rfl rfl rfl rfl rfl rfl rfl ⟨rfl, rfl, rfl, rfl, rfl⟩ rfl rfl rfl rfl rfl (by kernel_rfl) Tryz.func3 (by kernel_rfl)
  (of_decide_eq_true (by kernel_rfl)) (by unfold Func.isWrapper; first | (rw [if_pos (by decide +kernel)]; kernel_rfl) | (rw [if_neg (by decide +kernel)]; exact ⟨rfl, rfl⟩))
  (fun os started H enc _ => lifted os started H enc)
theorem proved : Rows.MountReadsSaid := over
#print axioms proved
end Go.Proofs.YtfmjepmgcdoelaaGreat.mountReads
namespace Go.Proofs.YtfmjepmgcdoelaaGreat
theorem mountReads_holds : Rows.MountReadsSaid := mountReads.proved
end Go.Proofs.YtfmjepmgcdoelaaGreat
end
