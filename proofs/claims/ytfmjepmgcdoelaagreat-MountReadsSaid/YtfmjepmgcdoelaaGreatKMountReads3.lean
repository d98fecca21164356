/- Texts of this claim's proof put together: HPlan, HSeal, HBytes, HOpen, PText, HConcat, F84, F125, F118, F122, F113, F116, PSeal, F58, PNodeB, HRight, HSPrint, F108, F86, HSParse, F24, PSlot, F8, PSuper, PTodo, HLoop, HNodes, HCells, HMount. -/
import Derived.Test.YtfmjepmgcdoelaaGreatKMountReads2
namespace Foot
end Foot
namespace Go.Proofs.YtfmjepmgcdoelaaGreat
end Go.Proofs.YtfmjepmgcdoelaaGreat
namespace Go.Proofs.YtfmjepmgcdoelaaGreat.P
end Go.Proofs.YtfmjepmgcdoelaaGreat.P
namespace Go.Proofs.YtfmjepmgcdoelaaGreat.mountReads
end Go.Proofs.YtfmjepmgcdoelaaGreat.mountReads
namespace Go.Proofs.YtfmjepmgcdoelaaGreatW.PrintLast
end Go.Proofs.YtfmjepmgcdoelaaGreatW.PrintLast
namespace Go.Proofs.YtfmjepmgcdoelaaGreatW.PrintMore
end Go.Proofs.YtfmjepmgcdoelaaGreatW.PrintMore
namespace Go.Proofs.YtfmjepmgcdoelaaGreatW.PrintWords
end Go.Proofs.YtfmjepmgcdoelaaGreatW.PrintWords
namespace Kd
end Kd
set_option linter.unusedVariables false
set_option linter.unusedSimpArgs false
set_option maxHeartbeats 8000000
set_option maxRecDepth 100000
namespace Go.Proofs.YtfmjepmgcdoelaaGreat.P
open Go.RowKit Go.Proofs.YtfmjepmgcdoelaaGreatW.PrintWords Go.Proofs.YtfmjepmgcdoelaaGreatW.PrintLast Go.Proofs.YtfmjepmgcdoelaaGreatW.PrintMore
def areaN (n : Nat) : Nat := (1670 + 2 * n) / 40
def baseN (n : Nat) : Nat := 2 + 2 * areaN n
theorem area_walk (n : Nat) (hn : n < 1000000) (w : World) : Calls Tryz.prog 18 #[.int .i64 n] w fun e w' => e = .returned (.int .i64 (areaN n : Nat)) ∧ w' = w := by
 have h0 : (0 : Int) ≤ 1631 + 2 * (n : Int) + 40 - 1 := by omega
 go_enter Tryz.func18, Tryz.ntmps18
 go_wp2
 go_ret
 refine ⟨congrArg (fun z => Ending.returned (.int .i64 z)) ?_, rfl⟩
 unfold areaN
 omega
theorem base_walk (n : Nat) (hn : n < 1000000) (w : World) : Calls Tryz.prog 50 #[.int .i64 n] w fun e w' => e = .returned (.int .i64 (baseN n : Nat)) ∧ w' = w := by
 have hA := area_walk n hn w
 have hb : areaN n < 1000000 := by unfold areaN; omega
 have e : (baseN n : Int) = 2 + 2 * (areaN n : Int) := by unfold baseN; omega
 rw [e]
 clear e
 generalize areaN n = a at hA hb ⊢
 go_enter Tryz.func50, Tryz.ntmps50
 go_wp2_with fail
 refine hA.mono ?_
 rintro e w' ⟨rfl, hw⟩
 obtain rfl := hw.symm
 go_wp2
 go_ret
 exact ⟨rfl, rfl⟩
theorem cut_at {n : Nat} {p : Nat → Bool} (i : Nat) (hi : i ≤ n) (h0 : ∀ t, t < i → p t = false) (h1 : ∀ t, i ≤ t → t < n → p t = true) : (List.range n).countP (fun t => !p t) = i := by
 have e : List.range n = List.range i ++ (List.range (n - i)).map (i + ·) := by
  apply List.ext_getElem
  ·simp
   omega
  ·intro j h1 h2
   rw [List.getElem_append]
   split
   ·simp
   ·rename_i h3
    rw [List.length_range] at h3
    simp
    omega
 rw [e, List.countP_append]
 have a : (List.range i).countP (fun t => !p t) = i := by
  have : (List.range i).countP (fun t => !p t) = (List.range i).length := List.countP_eq_length.2 fun t ht => by simp [h0 t (List.mem_range.1 ht)]
  rw [this, List.length_range]
 have b : ((List.range (n - i)).map (i + ·)).countP (fun t => !p t) = 0 := List.countP_eq_zero.2 fun t ht => by
  obtain ⟨u, hu, rfl⟩ := List.mem_map.1 ht
  have := List.mem_range.1 hu
  simp [h1 (i + u) (by omega) (by omega)]
 omega
theorem search_walk (cb : Array Value) (n : Nat) (p : Nat → Bool) (w : World) (hsz : n < 1000000)
  (hf : ∀ (m i : Nat), i < n → Calls Tryz.prog 49 (#[.int .i64 i] ++ cb) (w.drewN m) fun e w' => e = .returned (.bool (p i)) ∧ ∃ q, w' = (w.drewN m).drewN q)
  (hmono : ∀ a b, a ≤ b → b < n → p a = true → p b = true) :
  Calls Tryz.prog 48 #[.int .i64 n, .func (.func 49) #[] cb] w fun e w' => e = .returned (.int .i64 ((List.range n).countP (fun i => !p i) : Nat)) ∧ ∃ q, w' = w.drewN q := by
 have HF := Zk hf
 have M := Zk hmono
 have mixed : Tryz.prog.follows .mixedOrders = true := by kernel_rfl
 clear hf hmono
 generalize hcnt : (List.range n).countP (fun i => !p i) = cnt
 have CN := Zk hcnt
 clear hcnt
 go_enter Tryz.func48, Tryz.ntmps48
 go_wp2
 go_loopg [5, 6] n (fun kx s5 s6 wr => ∃ (lo hi q : Nat), s5 = .int .i64 lo ∧ s6 = .int .i64 hi ∧ lo ≤ hi ∧ hi ≤ n ∧ hi - lo ≤ kx ∧ wr = w.drewN q ∧
  Aside0 ((∀ t, t < lo → p t = false) ∧ (∀ t, hi ≤ t → t < n → p t = true)))
 case atStart => exact ⟨0, n, 0, rfl, rfl, Nat.zero_le _, Nat.le_refl _, by omega, rfl, ⟨fun t ht => absurd ht (Nat.not_lt_zero _), fun t h1 h2 => by omega⟩⟩
 case round =>
  obtain ⟨lo, hi, q, rfl, rfl, hlh, hin, hg, rfl, I⟩ := hrel
  by_cases hlt : lo < hi
  case neg =>
   obtain rfl : hi = lo := by omega
   have ecnt : cnt = hi := by rw [← CN.out]; exact cut_at hi hin I.out.1 I.out.2
   subst ecnt
   go_wp2
   go_ret
   exact ⟨rfl, q, rfl⟩
  have hc := HF.out q ((lo + hi) / 2) (by omega)
  rw [show (((lo + hi) / 2 : Nat) : Int) = ((lo : Int) + (hi : Int)) / 2 by omega] at hc
  cases hp : p ((lo + hi) / 2) <;> rw [hp] at hc
  ·have HP := Zk hp
   clear hp
   go_wp2_with fail
   refine hc.mono ?_
   rintro e w' ⟨rfl, nq, rfl⟩
   go_wp2
   go_roundg (hi - ((lo + hi) / 2 + 1))
   case measure => omega
   case rel =>
    have I2 : Aside0 ((∀ t, t < (lo + hi) / 2 + 1 → p t = false) ∧ (∀ t, hi ≤ t → t < n → p t = true)) := ⟨fun t ht => (by
     cases h : p t with
     | false => rfl
     | true => have := M.out t ((lo + hi) / 2) (by omega) (by omega) h; rw [HP.out] at this; cases this), I.out.2⟩
    exact ⟨(lo + hi) / 2 + 1, hi, q + nq, by rw [show ((lo : Int) + (hi : Int)) / 2 + 1 = (((lo + hi) / 2 + 1 : Nat) : Int) by omega], rfl, by omega, hin, Nat.le_refl _, rfl, I2⟩
  ·have HP := Zk hp
   clear hp
   go_wp2_with fail
   refine hc.mono ?_
   rintro e w' ⟨rfl, nq, rfl⟩
   go_wp2
   go_roundg ((lo + hi) / 2 - lo)
   case measure => omega
   case rel =>
    have I2 : Aside0 ((∀ t, t < lo → p t = false) ∧ (∀ t, (lo + hi) / 2 ≤ t → t < n → p t = true)) := ⟨I.out.1, fun t ht htn => M.out ((lo + hi) / 2) t ht htn HP.out⟩
    exact ⟨lo, (lo + hi) / 2, q + nq, rfl, by rw [show ((lo : Int) + (hi : Int)) / 2 = (((lo + hi) / 2 : Nat) : Int) by omega], by omega, by omega, Nat.le_refl _, rfl, I2⟩
def pastB (blocks : Int) (i : Nat) : Bool := decide ((baseN (i + 1) : Int) + i + 1 > blocks)
theorem cells1_walk (g : Nat) (blocks : Int) (i : Nat) (W : World) (hi : i < 2000) (h1 : W.cell? ⟨g, 0, none⟩ = some (.int .i64 blocks)) :
  Calls Tryz.prog 49 #[.int .i64 i, .pointer (some ⟨g, 0, none⟩)] W fun e w' => e = .returned (.bool (pastB blocks i)) ∧ ∃ q, w' = W.drewN q := by
 have hB := fun m => base_walk (i + 1) (by omega) (W.drewN m)
 have hb : baseN (i + 1) < 1000000 := by unfold baseN areaN; omega
 unfold pastB
 generalize baseN (i + 1) = b at hB hb ⊢
 rw [show ((i + 1 : Nat) : Int) = (i : Int) + 1 by omega] at hB
 have HBB := Zk hB
 have hw1 : IntKind.i64.wrap ((i : Int) + 1) = (i : Int) + 1 := IntWalk.i64_in _ (by omega)
 have hw2 : IntKind.i64.wrap ((b : Int) + i) = (b : Int) + i := IntWalk.i64_in _ (by omega)
 have hw3 : IntKind.i64.wrap ((b : Int) + i + 1) = (b : Int) + i + 1 := IntWalk.i64_in _ (by omega)
 clear hB
 go_enter Tryz.func49, Tryz.ntmps49
 go_wp2
 go_quiet (first | (go_at_call 50; refine Calls.quiet_of_same (HBB.out _)))
 clear hw1 hw2 hw3
 go_wp2
 go_ret
 exact ⟨rfl, nq, rfl⟩
theorem pastB_mono (blocks : Int) (a b : Nat) (h : a ≤ b) (hp : pastB blocks a = true) : pastB blocks b = true := by
 unfold pastB baseN areaN at *
 have := of_decide_eq_true hp
 exact decide_eq_true (by omega)
def cellsN (blocks : Int) : Nat := (List.range 2000).countP fun i => !pastB blocks i
def plan_Cells.f (a0 : Int) : Option Int := some (cellsN a0)
theorem plan_Cells.calls (a0 : Int) (r : Int) (w : World) (h : plan_Cells.f a0 = some r) : Calls Tryz.prog 16 #[.int .i64 a0] w fun e w' => e = .returned (.int .i64 r) ∧ Below w.heap.size w w' := by
 obtain rfl := Option.some.inj h
 have hc : (w.alloc (.cells #[.int .i64 a0] 3)).cell? ⟨w.heap.size, 0, none⟩ = some (.int .i64 a0) := (blk_cell (alloc_new w _) 0).trans rfl
 have hS : Calls Tryz.prog 48 #[.int .i64 2000, .func (.func 49) #[] #[.pointer (some ⟨w.heap.size, 0, none⟩)]] (w.alloc (.cells #[.int .i64 a0] 3)) fun e w' => e = .returned (.int .i64 (cellsN a0 : Nat)) ∧ ∃ q, w' = (w.alloc (.cells #[.int .i64 a0] 3)).drewN q :=
  search_walk #[.pointer (some ⟨w.heap.size, 0, none⟩)] 2000 (pastB a0) _ (by decide) (fun m i hi => cells1_walk w.heap.size a0 i _ hi hc) (fun a b h _ hp => pastB_mono a0 a b h hp)
 have HS := Zk hS
 generalize cellsN a0 = cnt at HS ⊢
 clear hS hc
 go_enter Tryz.func16, Tryz.ntmps16
 go_wp2_with fail
 refine HS.out.mono ?_
 rintro e w' ⟨rfl, q, rfl⟩
 go_wp2
 go_ret
 exact ⟨rfl, pw_below_drewN ((Below.refl _ w).alloc (Nat.le_refl _) _) _⟩
def crc (l : List Int) : Int := wrap64 (Go.bits .xor .u32 IntKind.u32.max (regI l))
def pad (l : List Int) : List Int := l ++ List.replicate (36 - l.length) 0
def zs40 : List Value := List.replicate 40 (.int .u8 0)
theorem splice_pad (l0 : List Int) (h : l0.length ≤ 36) : (splice zs40 0 (encs (Value.int .u8) l0)).take 36 = encs (Value.int .u8) (pad l0) := by
 simp only [splice, List.take_zero, List.nil_append, Nat.zero_add, zs40, encs, pad, List.length_map, List.drop_replicate, List.map_append, List.map_replicate]
 rw [List.take_append, List.length_map, List.take_of_length_le (by simpa using h), List.take_replicate]
 congr 2
 omega
theorem crc_bd (l : List Int) : 0 ≤ crc l ∧ crc l < 4294967296 := by
 unfold crc
 have := xor_bd IntKind.u32.max (regI l)
 rw [w64 (by omega) (by omega)]
 exact this
def num_Seal.f (l0 : List Int) : Option (ByteArray × Int) := if 36 < l0.length then some (⟨#[]⟩, 1) else some (strOfNums (pad l0 ++ le (crc (pad l0)) 4), 0)
theorem num_Seal.calls (A0 : Option Addr) (c0 : Nat) (l0 : List Int) (r1 : ByteArray) (r2 : Int) (w : World) (hr0 : Kd.C (Kd.int .u8) w A0 l0.length l0) (hc0 : l0.length ≤ c0) (h : num_Seal.f l0 = some (r1, r2)) :
  Calls Tryz.prog 107 #[.slice A0 l0.length c0] w fun e w' => e = .returned (.tuple #[.string r1, .int .i64 r2]) ∧ Below w.heap.size w w' := by
 have HR0 := Zk hr0
 have HC0 := Zk hc0
 have HH := Zk h
 clear hr0 hc0 h
 by_cases hl : 36 < l0.length
 case pos =>
  go_enter Tryz.func107, Tryz.ntmps107
  go_wp2
  go_ret2
  have H := HH.out
  simp [num_Seal.f, hl] at H
  obtain ⟨rfl, rfl⟩ := H
  exact ⟨rfl, Below.refl _ _⟩
 have hmk : ∀ w, (Instr.makeSlice 54 (.int .i64 36) (.int .i64 40)).run Tryz.prog w = .ok (.slice (some ⟨w.heap.size, 0, none⟩) 36 40) (w.alloc (.cells zs40.toArray 5)) := fun _ => by kernel_rfl
 have hlz : zs40.length = 40 := rfl
 go_enter Tryz.func107, Tryz.ntmps107
 go_wp2_with (with_reducible refine wpList_copy_splice rfl (.tmp 9) (.tmp 10) 54 54 rfl 5 Tryz.underlying54 (by kernel_rfl) _ _ 36 40 l0.length c0 rfl rfl w.heap.size 0 zs40 5 ?c1 (encs (Value.int .u8) l0) ?c2 ?c3 ?c4 ?c5 w.heap.size w ?c6 (Nat.le_refl _) ?_)
 case c1 =>
  show (w.heap.push (.cells zs40.toArray 5))[w.heap.size]? = _
  simp
 case c2 =>
  show _ = min l0.length 36
  simp [encs]
  omega
 case c3 =>
  intro hp
  have hp2 : 0 < l0.length := by simpa [encs] using hp
  have hp' : (0 : Int) < l0.length := by omega
  obtain ⟨ad, hA, _⟩ := Kd.at_int HR0.out 0 (by omega) hp'
  refine ⟨ad, hA, fun j v hv => ?_⟩
  have hj : j < l0.length := by have := (List.getElem?_eq_some_iff.1 hv).1; simpa [encs] using this
  obtain ⟨ad', hA', hc⟩ := Kd.at_int HR0.out j (by omega) (by omega)
  rw [hA] at hA'
  injection hA' with hA'
  subst hA'
  rw [Int.toNat_natCast] at hc
  have he := encs_get (enc := Value.int .u8) (d := (0 : Int)) l0 j hj
  rw [he] at hv
  injection hv with hv
  rw [← hv]
  have hlt := World.block_lt_of_cell? w _ hc
  rw [World.cell?_alloc_lt _ _ _ hlt, hc]
  simp [rd]
 case c4 => rw [hlz]; simp [encs]; omega
 case c5 => intro v hv; simp [encs] at hv; obtain ⟨a, _, rfl⟩ := hv; rfl
 case c6 => exact (Below.refl _ _).alloc (Nat.le_refl _) _
 intro w1 hg1 hb1
 have HB1 := Zk hb1
 have HO : Aside0 (Kd.R (Kd.int .u8) 5 w1 w.heap.size (fun _ => True) (.slice (some ⟨w.heap.size, 0, none⟩) 36 40) (pad l0)) := by
  refine ⟨?_⟩
  have hp : (pad l0).length = 36 := by simp [pad]; omega
  refine Kd.R_of_own ?_ (fun _ _ => trivial)
  rw [hp]
  refine ⟨by simp [encs, hp], .inr ⟨w.heap.size, 40, _, rfl, Nat.le_refl _, hg1.out, by omega, by simp [maxLen], ?_, ?_⟩⟩
  ·simp [length_splice, splice, zs40, encs]; omega
  ·rw [Nat.mul_one]
   exact splice_pad l0 (by omega)
 clear hg1 hb1
 have hpl : (pad l0).length = 36 := by simp [pad]; omega
 obtain ⟨A1, c1, hv1, hc1, hC1⟩ := Kd.R_reads HO.out
 rw [hpl] at hv1 hC1 hc1
 injection hv1 with hA1 _ hcc1
 subst hA1; subst hcc1
 have hs := sum_walk (some ⟨w.heap.size, 0, none⟩) 40 (pad l0) w1 (by rw [hpl]; exact hC1) (by omega) (by omega)
 rw [hpl] at hs
 go_wp2_with fail
 refine hs.mono ?_
 rintro e w2 ⟨rfl, ⟨nd, rfl⟩⟩
 have hcb := crc_bd (pad l0)
 have hput := num_Put.calls 6 (crc (pad l0)) 4 _ (w1.drewN nd) (Put_val 0 _ 4 (by omega) (by omega) hcb.1 (by simpa using hcb.2))
 go_wp2_with fail
 refine hput.mono ?_
 rintro e w3 ⟨v3, rfl, hR3, hb3⟩
 obtain ⟨A3, c3, rfl, hc3, hC3⟩ := Kd.R_reads hR3
 have HR3 := Zk hR3
 have HB3 := Zk hb3
 have HC3 := Zk hC3
 have HO3 := Zk (Kd.R_below (Kd.R_drewN HO.out nd) hb3)
 clear hR3 hb3 hC3 hcb hput hs
 have hll : (le (crc (pad l0)) 4).length = 4 := rfl
 go_wp2_with (at_builtin; refine Kd.R_append_rows (Kd.int .u8) (w0 := w) w.heap.size rfl (.tmp 12) (.tmp 15) 54 5 (.int .u8 0) 1 rfl Tryz.underlying54 info5 rfl (by decide) (by omega) (.slice (some ⟨w.heap.size, 0, none⟩) 36 40) (pad l0) (le (crc (pad l0)) 4) A3 (le (crc (pad l0)) 4).length c3 (fun _ => True) (fun _ => False) rfl rfl ?aO ?aR (fun _ _ h => h) (fun _ h => h.elim) (fun _ _ => trivial) ?aB ?aS ?aL ?_)
 case aO => exact HO3.out
 case aR => exact HC3.out
 case aB => exact (HB1.out.trans (pw_below_drewN (Below.refl _ _) nd)).trans (HB3.out.mono HB1.out.size)
 case aS => exact Nat.le_trans HB1.out.size HB3.out.size
 case aL => rw [hpl, hll]; omega
 intro v4 w4 hR4 hB4 hg4 hv4
 obtain ⟨L, hL⟩ : ∃ L, pad l0 ++ le (crc (pad l0)) 4 = L := ⟨_, rfl⟩
 rw [hL] at hR4
 have HL := Zk hL
 clear hL
 obtain ⟨A4, c4, rfl, hc4, hC4⟩ := Kd.R_reads hR4
 have hcv := Kd.C_string (P := Tryz.prog) (A := A4) (c := c4) Tryz.underlying54 Tryz.underlying5 Tryz.underlying9 hC4
 have HB4 := Zk hB4
 clear hR4 hg4 hv4 hB4 hC4
 go_wp2
 go_ret2
 have H := HH.out
 simp only [num_Seal.f, if_neg hl, Option.some.injEq, Prod.mk.injEq] at H
 obtain ⟨rfl, rfl⟩ := H
 exact ⟨by rw [HL.out]; rfl, HB4.out⟩
section
section
variable {P : Program} {ops : Array Oper} {rest : List Oper} {o : Oper} {a : Act} {Q : Exit → Act → World → Prop}
theorem bytes_below {base : Nat} {w0 W : World} (e : TypeId) (s : ByteArray) (HB : Below base w0 W) (hbase : base ≤ W.heap.size) : Below base w0 (Lib.bytesWorld W e s) :=
 HB.trans ⟨by simp [Lib.bytesWorld, World.freeze]; rfl, by simp [Lib.bytesWorld, World.freeze], by simp [Lib.bytesWorld, World.freeze]; rfl, by rw [Lib.bytesWorld_size]; omega, fun k hk => Lib.bytesWorld_at_old W e s k (by omega)⟩
theorem bytes_foot (W : World) (e : TypeId) (s : ByteArray) (hm : s.size ≤ 9223372036854775807) : Kd.F (Kd.int .u8) (Lib.bytesWorld W e s) (fun k => W.heap.size ≤ k) (some ⟨W.heap.size, 0, none⟩) (bytesOf s).length (bytesOf s) := by
 intro W' hW'
 have hb := hW' W.heap.size (Nat.le_refl _) (by rw [Lib.bytesWorld_size]; omega)
 refine Kd.C_of_reads (d := (0 : Int)) ?_
 refine ⟨rfl, by rw [bytesOf_length]; exact hm, fun h => ⟨⟨W.heap.size, 0, none⟩, rfl, fun j hj => ?_⟩⟩
 rw [bytesOf_length] at hj
 rw [add_plain]
 have h1 : W'.cell? ⟨W.heap.size, j, none⟩ = (Lib.bytesWorld W e s).cell? ⟨W.heap.size, j, none⟩ := World.cell?_of_block (a := ⟨W.heap.size, j, none⟩) hb
 rw [h1, Lib.bytesWorld_cell W e s j hj]
 have hj' : j < s.data.toList.length := by rw [data_length]; exact hj
 have hj2 : j < s.data.size := hj
 simp [bytesOf, List.getD_eq_getElem?_getD]
 rw [Array.getElem?_eq_getElem hj2]
 rfl
theorem V_conv {w0 W : World} (base : Nat) (hgd : o.guard = none) (src dst e : TypeId) (x : Operand) (ho : o.op = .convert src dst x) (s : ByteArray) (hx : a.eval x = .string s) {u : TypeDesc}
  (hs : P.underlying src = some u) (hd : P.underlying dst = some (.slice e)) (he : P.underlying e = some (.int .u8)) (hm : s.size ≤ 9223372036854775807) (HB : Below base w0 W) (hbase : base ≤ W.heap.size)
  (h : ∀ v1 w1, Kd.V (Kd.int .u8) e w1 base (fun k => W.heap.size ≤ k) v1 (bytesOf s) → Below base w0 w1 → W.grownBy w1 none → wpList P ops Q rest (a.put o.dst v1) w1) : wpList P ops Q (o :: rest) a W := by
 refine Go.Proofs.YtfmjepmgcdoelaaGreatW.PrintWords.Kd.event_run (w1 := Lib.bytesWorld W e s) (v := .slice (some ⟨W.heap.size, 0, none⟩) (bytesOf s).length (grownCap W s.size 0 e)) hgd ?_ (h _ _ ?_ (bytes_below e s HB hbase) ?_)
 ·rw [bytesOf_length]
  simp [execOp, ho, hx, Lib.run_convert_string_bytes W src dst e s hs hd he]
 ·exact Kd.V_mk (by rw [bytesOf_length]; exact grownCap_ge _ _ _ _) (bytes_foot W e s hm)
 ·have := bytes_below (base := W.heap.size) e s (Below.refl _ W) (Nat.le_refl _)
  exact ⟨this.os, this.tape, this.output, this.size, fun k hk _ => this.block k hk⟩
end
end
def isSealed (b : List Int) : Bool := decide (b.length = 40) && decide (lev b 36 4 = crc (b.take 36))
def num_Open.f (a0 : ByteArray) : Option (List Int × Int) := if isSealed (bytesOf a0) = true then some ((bytesOf a0).take 36, 0) else some ([], 2)
theorem bytesOf_bd (s : ByteArray) : ∀ x ∈ bytesOf s, 0 ≤ x ∧ x < 256 := by
 intro x hx
 simp only [bytesOf, List.mem_map] at hx
 obtain ⟨b, _, rfl⟩ := hx
 have := b.toNat_lt
 omega
theorem num_Open.calls (a0 : ByteArray) (r1 : List Int) (r2 : Int) (w : World) (h : num_Open.f a0 = some (r1, r2)) :
  Calls Tryz.prog 83 #[.string a0] w fun e w' => ∃ v0_ : Value, e = .returned (.tuple #[v0_, .int .i64 r2]) ∧ Kd.V (Kd.int .u8) 5 w' w.heap.size (fun k_ => w.heap.size ≤ k_) v0_ r1 ∧ Below w.heap.size w w' := by
 have HH := Zk h
 clear h
 by_cases h40 : a0.size = 40
 case neg =>
  have h40b : ((a0.size : Int) != 40) = true := by rw [bne_iff_ne]; omega
  go_enter Tryz.func83, Tryz.ntmps83
  go_wp2
  have H := HH.out
  have hns : isSealed (bytesOf a0) = false := by simp [isSealed, bytesOf_length, h40]
  simp only [num_Open.f, hns, Bool.false_eq_true, if_false, Option.some.injEq, Prod.mk.injEq] at H
  obtain ⟨rfl, rfl⟩ := H
  go_ret2
  exact ⟨_, rfl, Kd.V_nil _ _ _ _ _, Below.refl _ _⟩
 have hb : (bytesOf a0).length = 40 := by rw [bytesOf_length]; exact h40
 have h40b : ((a0.size : Int) != 40) = false := by rw [h40]; rfl
 go_enter Tryz.func83, Tryz.ntmps83
 go_wp2_with ((with_reducible refine gate_dst (N := 12) rfl ?_); refine V_conv (w0 := w) w.heap.size rfl 9 54 5 (.tmp 11) rfl a0 rfl Tryz.underlying9 Tryz.underlying54 Tryz.underlying5 (by omega) (Below.refl _ _) (Nat.le_refl _) ?_)
 intro v1 w1 hV hB hg
 clear hg
 obtain ⟨A1, c1, rfl, hc1, hF⟩ := hV
 have HF := Zk hF
 have HB := Zk hB
 clear hF hB
 rw [hb] at hc1
 have HC := Zk (Kd.F_now HF.out)
 have hbd := bytesOf_bd a0
 have htk := num_Take.calls 6 A1 c1 (bytesOf a0) 36 4 _ _ _ w1 HC.out (by omega) (Take_val 0 _ 36 4 (by omega) hbd (by omega) (by omega) (by omega) (by omega))
 obtain ⟨x, hx⟩ : ∃ x, lev (bytesOf a0) 36 4 = x := ⟨_, rfl⟩
 rw [hx] at htk
 have HX := Zk hx
 clear hx hbd
 rw [hb]
 rw [hb] at htk
 go_wp2_with fail
 refine htk.mono ?_
 rintro e w2 ⟨rfl, ⟨nd, rfl⟩⟩
 clear htk
 have hlt : ((bytesOf a0).take 36).length = 36 := by rw [List.length_take, hb]; rfl
 have hsm := sum_walk A1 c1 ((bytesOf a0).take 36) (w1.drewN nd) (Kd.C_drewN (Kd.C_take HC.out (by omega)) nd) (by omega) (by omega)
 rw [hlt] at hsm
 obtain ⟨y, hy⟩ : ∃ y, crc ((bytesOf a0).take 36) = y := ⟨_, rfl⟩
 have HY := Zk hy
 have hsm' : Calls Tryz.prog 20 #[.slice A1 36 c1] (w1.drewN nd) fun e w' => e = .returned (.int .i64 y) ∧ Drawn0 (w1.drewN nd) w' := by rw [← hy]; exact hsm
 clear hsm hy hlt hb
 go_wp2_with fail
 refine hsm'.mono ?_
 rintro e w2 ⟨rfl, ⟨nd2, rfl⟩⟩
 clear hsm'
 by_cases hxy : x = y
 case neg =>
  have hxb : (x != y) = true := by rw [bne_iff_ne]; exact hxy
  have HXY := Zk hxy
  clear hxy
  go_wp2
  have H := HH.out
  have hns : isSealed (bytesOf a0) = false := by simp [isSealed, HX.out, HY.out, HXY.out]
  simp only [num_Open.f, hns, Bool.false_eq_true, if_false, Option.some.injEq, Prod.mk.injEq] at H
  obtain ⟨rfl, rfl⟩ := H
  go_ret2
  exact ⟨_, rfl, Kd.V_nil _ _ _ _ _, pw_below_drewN HB.out _⟩
 have hxb : (x != y) = false := by rw [hxy]; simp
 have HXY := Zk hxy
 clear hxy
 go_wp2
 have H := HH.out
 have hb : (bytesOf a0).length = 40 := by rw [bytesOf_length]; exact h40
 have hlt : ((bytesOf a0).take 36).length = 36 := by rw [List.length_take, hb]; rfl
 have hns : isSealed (bytesOf a0) = true := by simp [isSealed, HX.out, HY.out, HXY.out, hb]
 simp only [num_Open.f, hns, if_true, Option.some.injEq, Prod.mk.injEq] at H
 obtain ⟨rfl, rfl⟩ := H
 have hV : Kd.V (Kd.int .u8) 5 w1 w.heap.size (fun k_ => w.heap.size ≤ k_) (.slice A1 ((bytesOf a0).take 36).length 36) ((bytesOf a0).take 36) := Kd.V_mk (by omega) (Kd.F_take HF.out (by omega))
 rw [hlt] at hV
 go_ret2
 exact ⟨_, rfl, Kd.V_drewN hV _, pw_below_drewN HB.out _⟩
theorem read_size {bs : List ByteArray} {ws : List S98} (h : GoodD bs ws) (a : Int) (h0 : 0 ≤ a) (h1 : a < (bs.length : Int)) : (readB bs ws a).1.size = 40 := by
 unfold readB
 rw [if_neg (by omega)]
 cases hl : lastW ws a with
 | none =>
  show (rdOf ByteArray.empty bs a).size = 40
  obtain ⟨n, rfl⟩ : ∃ n : Nat, a = n := ⟨a.toNat, by omega⟩
  have hn : n < bs.length := by omega
  have : rdOf ByteArray.empty bs (n : Nat) = bs[n] := by simp [rdOf, hn]
  rw [this]
  exact h.size _ (List.getElem_mem hn)
 | some v =>
  show v.size = 40
  unfold lastW at hl
  obtain ⟨x, hx, rfl⟩ := Option.map_eq_some_iff.1 hl
  exact (h.wr x (List.mem_reverse.1 (List.mem_of_find?_eq_some hx))).2.2
theorem bytesOf_len (s : ByteArray) : (bytesOf s).length = s.size := by
 unfold bytesOf
 rw [List.length_map]
 rfl
theorem text_val (l0 : List ByteArray) (l1 : List S98) (size : Int) (hs : 0 ≤ size) (hs2 : size ≤ 100000) : ∀ (d k : Nat) (b : List Int) (i : Int), size - (b.length : Int) ≤ 40 * d → d + 1 ≤ k → 0 ≤ i → i + d < 1000000 → (∀ t : Int, i ≤ t → t < i + d → (readB l0 l1 t).1.size = 40) → (∀ x ∈ b, 0 ≤ x ∧ x < 256) →
  ∃ r, textF l0 l1 size k b i = some r ∧ r.length ≤ 100000 ∧ ∀ x ∈ r, 0 ≤ x ∧ x < 256 := by
 intro d
 induction d with
 | zero =>
  intro k b i hd hk hi hid hr hb
  obtain ⟨k, rfl⟩ : ∃ k', k = k' + 1 := ⟨k - 1, by omega⟩
  rw [textF, if_neg (by omega)]
  exact ⟨_, rfl, by rw [List.length_take]; omega, fun x hx => hb x (List.mem_of_mem_take hx)⟩
 | succ d ih =>
  intro k b i hd hk hi hid hr hb
  obtain ⟨k, rfl⟩ : ∃ k', k = k' + 1 := ⟨k - 1, by omega⟩
  rw [textF]
  by_cases h : (b.length : Int) < size
  case neg =>
   rw [if_neg h]
   exact ⟨_, rfl, by rw [List.length_take]; omega, fun x hx => hb x (List.mem_of_mem_take hx)⟩
  have h40 := hr i (by omega) (by omega)
  rw [if_pos h, if_pos ⟨by rw [h40]; omega, by omega, by omega⟩]
  refine ih k _ (i + 1) (by rw [List.length_append, bytesOf_len, h40]; omega) (by omega) (by omega) (by omega) (fun t h1 h2 => hr t (by omega) (by omega)) (fun x hx => ?_)
  rcases List.mem_append.1 hx with hx | hx
  ·exact hb x hx
  ·exact bytesOf_bd _ x hx
theorem cells_fits (blocks : Int) (n : Nat) (hn : cellsN blocks = n) (h0 : n ≠ 0) : (baseN n : Int) + n ≤ blocks := by
 have hle : n ≤ 2000 := by
  rw [← hn]; unfold cellsN
  exact Nat.le_trans List.countP_le_length (by simp)
 apply Classical.byContradiction
 intro hc
 have hp : pastB blocks (n - 1) = true := by
  unfold pastB
  rw [decide_eq_true_eq, show n - 1 + 1 = n by omega]
  omega
 have hcut := cut_at (n := 2000) (p := fun t => pastB blocks t) (n - 1)
 have hcount : (List.range 2000).countP (fun i => !pastB blocks i) ≤ n - 1 := by
  have : ∀ m, m ≤ 2000 → (List.range m).countP (fun i => !pastB blocks i) ≤ n - 1 := by
   intro m
   induction m with
   | zero => intro _; simp
   | succ m ih =>
    intro hm
    rw [List.range_succ, List.countP_append]
    by_cases hm1 : n - 1 ≤ m
    case pos =>
     have := pastB_mono blocks (n - 1) m hm1 hp
     have h1 := ih (by omega)
     simp [this]
     exact h1
    have h1 : (List.range m).countP (fun i => !pastB blocks i) ≤ m := Nat.le_trans List.countP_le_length (by simp)
    have h2 : [m].countP (fun i => !pastB blocks i) ≤ 1 := Nat.le_trans List.countP_le_length (by simp)
    omega
  exact this 2000 (Nat.le_refl _)
 unfold cellsN at hn
 omega
theorem mtext_val {bs : List ByteArray} {ws : List S98} (h : GoodD bs ws) (n : Nat) (hn : cellsN (bs.length : Int) = n) (h0 : n ≠ 0) (gen len : Int) (hl0 : 0 ≤ len) (hl : len ≤ 1631 + 2 * (n : Int)) :
  ∃ r, mount_text.f bs ws (2 + gen % 2 * (areaN n : Nat)) len = some r ∧ r.length ≤ 100000 ∧ ∀ x ∈ r, 0 ≤ x ∧ x < 256 := by
 have hfit := cells_fits _ n hn h0
 have hle : n ≤ 2000 := by
  rw [← hn]; unfold cellsN
  exact Nat.le_trans List.countP_le_length (by simp)
 have hw := h.wfew
 unfold mount_text.f
 rw [if_pos ⟨hl0, by omega, by omega⟩]
 have hb : (baseN n : Int) = 2 + 2 * (areaN n : Nat) := by unfold baseN; push_cast; rfl
 have ha : 40 * (areaN n : Int) + 39 ≥ 1670 + 2 * n := by unfold areaN; omega
 have ha2 : areaN n ≤ 200 := by unfold areaN; omega
 obtain ⟨g, hg⟩ : ∃ g, gen % 2 = g := ⟨_, rfl⟩
 have hg2 : g = 0 ∨ g = 1 := by omega
 rw [hg]
 have hfew := h.few
 exact text_val bs ws len hl0 (by omega) (areaN n) 1000 [] _ (by simp only [List.length_nil]; omega) (by rcases hg2 with rfl | rfl <;> omega) (by rcases hg2 with rfl | rfl <;> omega) (by rcases hg2 with rfl | rfl <;> omega)
  (fun t h1 h2 => read_size h t (by rcases hg2 with rfl | rfl <;> omega) (by rcases hg2 with rfl | rfl <;> omega)) (by simp)
theorem w64_id {n : Int} (h0 : 0 ≤ n) (h1 : n ≤ 1000000) : wrap64 n = n := by unfold wrap64; omega
theorem w64_succ {k n : Nat} (h : k < n) (hn : n ≤ 1000000) : wrap64 ((k : Int) + 1) = ((k + 1 : Nat) : Int) := by unfold wrap64; omega
theorem meas_ {n k : Nat} (h : k < n) (hk : wrap64 ((k : Int) + 1) = ((k + 1 : Nat) : Int)) : n - (intOf (Value.int .i64 (wrap64 ((k : Int) + 1)))).toNat < n - (intOf (Value.int .i64 (k : Int))).toNat := by
 rw [hk]
 show n - (k + 1) < n - k
 omega
theorem w64_add {x y z : Nat} (h : z = x + y) (hz : z ≤ 1000000) : wrap64 ((x : Int) + (y : Int)) = (z : Int) := by unfold wrap64; omega
theorem GrowB.nil_ (n : Int) (w : World) (h0 : 0 ≤ n) (h1 : n ≤ 1000000) :
  Calls Tryz.prog 121 #[.slice none 0 0, .int .i64 n] w fun e w' => ∃ v : Value, e = .returned v ∧ Kd.R (Kd.int .u8) 5 w' w.heap.size (fun _ => True) v [] ∧ Below w.heap.size w w' := by
 have hd : decide (n < 0) = false := decide_eq_false (by omega)
 have hw : wrap64 n = n := w64_id h0 h1
 by_cases hz : n = 0
 case pos =>
  subst hz
  clear h0 h1 hd hw
  go_enter Tryz.func121, Tryz.ntmps121
  go_wp2
  go_ret
  exact ⟨_, rfl, Kd.R_nil _ _ _ _ _, Below.refl _ _⟩
 have hd2 : decide (0 < wrap64 n) = true := by rw [hw]; exact decide_eq_true (by omega)
 have HN : Aside0 (wrap64 n ≤ 1000000) := ⟨by rw [hw]; exact h1⟩
 have HN0 : Aside0 (0 ≤ wrap64 n) := ⟨by rw [hw]; exact h0⟩
 clear h1 h0 hz hw
 go_enter Tryz.func121, Tryz.ntmps121
 go_wp2_with ((with_reducible refine gate_builtin (b := .append) (xs := #[.tmp 20, .tmp 21]) rfl ?_); at_builtin; refine Kd.R_append_zeros (Kd.int .u8) (w0 := w) w.heap.size rfl (.tmp 20) (.tmp 21) 54 3 5 (.int .u8 0) 1 rfl Tryz.underlying54 Tryz.underlying3 info5 rfl (by decide) (by omega) (.slice none 0 0) [] (0 : Int) (wrap64 n) (fun _ => True) rfl rfl ?aZ (fun _ _ => trivial) ?aO HN0.out ?aB ?aS ?aL ?_)
 case aZ => exact rfl
 case aO => exact Kd.R_nil _ _ _ _ _
 case aB => exact Below.refl _ _
 case aS => exact Nat.le_refl _
 case aL => have := HN.out; have := HN0.out; simp only [List.length_nil]; omega
 intro v1 w1 hR hB hg hv
 obtain ⟨A, c, rfl, hc, hC⟩ := Kd.R_reads hR
 have HR := Zk (Kd.R_take (m := 0) hR (Nat.zero_le _))
 have HB := Zk hB
 obtain ⟨i0, hi0, _⟩ := Option.map_eq_some_iff.1 info5
 have hcut := cut_to (P := Tryz.prog) 54 5 .i64 Tryz.underlying54 hi0 A _ c 0 (by omega) (by omega) hc
 clear hR hB hg hv hc hC hi0
 go_wp2
 go_ret
 exact ⟨_, rfl, HR.out, HB.out⟩
def slices_Concat_byte_byte.f (l : List (List Int)) : Option (List Int) := if l.flatten.length ≤ 1000000 ∧ l.length ≤ 1000000 then some l.flatten else none
theorem flat_takeB (l : List (List Int)) (k : Nat) (h : k < l.length) : (l.take (k + 1)).flatten = (l.take k).flatten ++ l[k] := by
 rw [List.take_succ_eq_append_getElem h, List.flatten_append]
 simp
theorem flat_leB (l : List (List Int)) (k : Nat) : (l.take k).flatten.length ≤ l.flatten.length := by
 conv => rhs; rw [← List.take_append_drop k l, List.flatten_append, List.length_append]
 omega
theorem rows_atB {e : Nat} {w : World} {A : Option Addr} {xs : List (List Int)} (h : Kd.C (Kd.slice e (Kd.int .u8)) w A xs.length xs) (k : Nat) (hk : k < xs.length) : ∃ ad A' c', A = some ad ∧ w.cell? (ad.add k) = some (.slice A' xs[k].length c') ∧ xs[k].length ≤ c' ∧ (Kd.int .u8).C w A' xs[k].length xs[k] := by
 obtain ⟨ad, c, e, _, hK, hc0⟩ := Kd.C_get h ([] : List Int) (k : Int) (by omega) (by omega)
 have hc : ∀ j u, c[j]? = some u → w.cell? (ad.add ((k : Int).toNat * 1 + j)) = some u := hc0
 rw [Int.toNat_natCast] at hK hc
 have hd : xs.getD k ([] : List Int) = xs[k] := by simp [hk]
 rw [hd] at hK
 obtain ⟨A0, c0, rfl, l0, g0⟩ := hK
 exact ⟨ad, A0, c0, e, by have hq := hc 0 _ rfl; rwa [Nat.mul_one, Nat.add_zero] at hq, l0, g0⟩
theorem slices_Concat_byte_byte.calls (A0 : Option Addr) (c0 : Nat) (l0 : List (List Int)) (r : List Int) (w : World) (hr0 : Kd.C (Kd.slice 5 (Kd.int .u8)) w A0 l0.length l0) (hc0 : l0.length ≤ c0) (h : slices_Concat_byte_byte.f l0 = some r) :
  Calls Tryz.prog 105 #[.slice A0 l0.length c0] w fun e w' => ∃ v0_ : Value, e = .returned (v0_) ∧ Kd.R (Kd.int .u8) 5 w' w.heap.size (fun _ => True) v0_ r ∧ Below w.heap.size w w' := by
 unfold slices_Concat_byte_byte.f at h
 have hlt : l0.flatten.length ≤ 1000000 ∧ l0.length ≤ 1000000 := by
  by_cases hlt : l0.flatten.length ≤ 1000000 ∧ l0.length ≤ 1000000
  case pos => exact hlt
  rw [if_neg hlt] at h
  cases h
 rw [if_pos hlt] at h
 obtain rfl := Option.some.inj h
 clear h
 obtain ⟨hF, hL⟩ := hlt
 have HF := Zk hF
 have HL := Zk hL
 have HR0 := Zk hr0
 clear hF hL hr0 hc0
 go_enter Tryz.func105, Tryz.ntmps105
 go_wp2
 go_loopw [3, 11] (fun s i wr => ∃ k : Nat, k ≤ l0.length ∧ i = .int .i64 k ∧ w = wr ∧ ∃ x : Nat, Aside0 (x = (l0.take k).flatten.length) ∧ s = .int .i64 x) (fun _ i _ => l0.length - (intOf i).toNat)
 case atStart => exact ⟨0, Nat.zero_le _, rfl, rfl, 0, ⟨rfl⟩, rfl⟩
 case round =>
  obtain ⟨k, hk, rfl, rfl, x, HXX, rfl⟩ := hrel
  by_cases hlt : k < l0.length
  case pos =>
   have p1 : (0 : Int) ≤ k := by omega
   have q1 : (k : Int) < l0.length := by omega
   have HK1 : Aside0 (wrap64 ((k : Int) + 1) = ((k + 1 : Nat) : Int)) := ⟨w64_succ hlt HL.out⟩
   have hx2 := flat_takeB l0 k hlt
   have hx3 := flat_leB l0 (k + 1)
   obtain ⟨ad, A', c', rfl, hx, _, _⟩ := rows_atB HR0.out k hlt
   obtain ⟨y, hy⟩ : ∃ y : Nat, y = (l0.take (k + 1)).flatten.length := ⟨_, rfl⟩
   have hs : wrap64 ((x : Int) + (l0[k].length : Int)) = (y : Int) := by
    have h2 := HXX.out
    rw [hx2, List.length_append, ← h2] at hy
    exact w64_add hy (by rw [hy, h2, ← List.length_append, ← hx2]; exact Nat.le_trans hx3 HF.out)
   have hneg : decide ((y : Int) < 0) = false := decide_eq_false (by omega)
   have HY := Zk hy
   clear hx2 hx3 hy
   go_wp2
   refine ⟨⟨k + 1, by omega, congrArg (Value.int .i64) HK1.out, trivial, y, HY, congrArg (Value.int .i64) hs⟩, ?_⟩
   exact meas_ hlt HK1.out
  obtain rfl : k = l0.length := by omega
  have HFI : Aside0 ((x : Int) ≤ 1000000) := ⟨by have := HF.out; have := HXX.out; rw [List.take_length] at this; omega⟩
  clear hk hlt
  go_wp2_with fail
  refine (GrowB.nil_ _ _ (by omega) HFI.out).mono ?_
  rintro e wg ⟨v, rfl, hr, hb⟩
  have HRg := Zk hr
  have HBg := Zk hb
  clear hr hb
  go_wp2_with fail
  go_loopw [6, 27] (fun v6 i wr => ∃ k : Nat, k ≤ l0.length ∧ i = .int .i64 k ∧ Aside0 (Kd.R (Kd.int .u8) 5 wr w.heap.size (fun _ => True) v6 (l0.take k).flatten) ∧ Aside0 (Below w.heap.size w wr)) (fun _ i _ => l0.length - (intOf i).toNat)
  case atStart => exact ⟨0, Nat.zero_le _, rfl, HRg, HBg⟩
  case round =>
   obtain ⟨k, hk, rfl, HRk, HBk⟩ := hrel
   by_cases hlt : k < l0.length
   case neg =>
    obtain rfl : k = l0.length := by omega
    rw [List.take_length] at HRk
    go_wp2
    go_ret
    exact ⟨_, rfl, HRk.out, HBk.out⟩
   have p1 : (0 : Int) ≤ k := by omega
   have q1 : (k : Int) < l0.length := by omega
   have HK1 : Aside0 (wrap64 ((k : Int) + 1) = ((k + 1 : Nat) : Int)) := ⟨w64_succ hlt HL.out⟩
   have HX2 := Zk (flat_takeB l0 k hlt)
   have HX3 := Zk (flat_leB l0 (k + 1))
   obtain ⟨ad, A', c', rfl, hx, _, hC⟩ := rows_atB (Kd.C_below HR0.out HBk.out) k hlt
   have HC := Zk hC
   clear hC
   go_wp2_with ((with_reducible refine gate_builtin (b := .append) (xs := #[.tmp 31, .tmp 32]) rfl ?_); at_builtin; refine Kd.R_append_rows (Kd.int .u8) (w0 := w) w.heap.size rfl (.tmp 31) (.tmp 32) 54 5 (.int .u8 0) 1 rfl Tryz.underlying54 info5 rfl (by decide) (by omega) _ (l0.take k).flatten l0[k] A' l0[k].length c' (fun _ => True) (fun _ => False) rfl rfl ?aO ?aR (fun _ _ h => h) (fun _ h => h.elim) (fun _ _ => trivial) ?aB ?aS ?aL ?_)
   case aO => exact HRk.out
   case aR => exact HC.out
   case aB => exact HBk.out
   case aS => exact HBk.out.size
   case aL =>
    have h1 := HX2.out
    have h2 := HX3.out
    have h3 := HF.out
    rw [h1, List.length_append] at h2
    omega
   intro v1 w1 hR hB hg hv
   rw [← HX2.out] at hR
   have HR1 := Zk hR
   have HB1 := Zk hB
   clear hR hB hg hv HC
   go_wp2
   refine ⟨⟨k + 1, by omega, congrArg (Value.int .i64) HK1.out, HR1, HB1⟩, ?_⟩
   exact meas_ hlt HK1.out
section
attribute [local go_sem] max2_int min2_int max_two min_two max_three min_three max_four min_four
mutual
def node_Print.j0 : Nat → List Int → Bool → List (S84) → Option (ByteArray × Int)
 | 0, _, _, _ => none
 | k + 1, x4, aB, aA => node_Print.l0 k x4 aA (aA.length : Int) 0
def node_Print.l0 : Nat → List Int → List (S84) → Int → Int → Option (ByteArray × Int)
 | 0, _, _, _, _ => none
 | k + 1, x4, x20, x21, x22 => if x22 < x21 then (if 0 ≤ x22 then (if x22 < (x20.length : Int) then ((num_Put.f k ((rd_T84 x20 x22).f0) 4).bind fun aC => ((num_Put.f k ((rd_T84 x20 x22).f1) 4).bind fun aD => ((slices_Concat_byte_byte.f (([x4, aC, aD] : List (List Int)))).bind fun aE => (node_Print.l0 k aE x20 x21 (wrap64 (x22 + 1)))))) else (none)) else (none)) else ((num_Seal.f x4).bind fun bt724 => (some (bt724.1, bt724.2)))
end
def node_Print.f (k : Nat) (a0_0 : Bool) (l0_1 : List (S84)) : Option (ByteArray × Int) := (node_Right.f k a0_0 l0_1).bind fun aB => (if aB = true then ((some (([2, ((l0_1.length : Int)) % 256] : List Int) : List Int)).bind fun aA => (if a0_0 = true then (if 0 < (aA.length : Int) then (node_Print.j0 k (aA.set (0 : Int).toNat 1) a0_0 l0_1) else (none)) else (node_Print.j0 k aA a0_0 l0_1))) else (some ((⟨#[]⟩ : ByteArray), 1)))
def node_Print.T9 : Bool × List (List Nat × List Nat) := (true, [([], []), ([], []), ([1], [1]), ([2], [2]), ([], []), ([4], [4]), ([5, 3], [5]), ([0, 3, 6], [0, 3, 6]), ([7, 6], [7]), ([8, 8, 0, 1, 2, 3, 4, 5, 6, 7, 8], [0, 8])])
def node_Print.B9 : List Nat := [0, 0, 2, 6, 0, 16, 62, 127, 255, 511]
theorem node_Print.tab9 : rtab .any (opsOf Tryz.f84 9) = node_Print.T9 := by kernel_rfl
theorem node_Print.bits9 : waitsOk node_Print.T9.2 node_Print.B9 = true := by kernel_rfl
theorem node_Print.calls (k : Nat) (a0_0 : Bool) (A0_1 : Option Addr) (c0_1 : Nat) (l0_1 : List (S84)) (r1 : ByteArray) (r2 : Int) (w : World) (hr0_1 : Kd.C k84 w A0_1 l0_1.length l0_1) (hc0_1 : l0_1.length ≤ c0_1) (h : node_Print.f k a0_0 l0_1 = some (r1, r2)) :
  Calls Tryz.prog 84 #[.agg #[.bool a0_0, .slice A0_1 l0_1.length c0_1]] w fun e w' => e = .returned (.tuple #[.string r1, .int .i64 r2]) ∧ Below w.heap.size w w' := by
 have hu63 := Tryz.underlying63
 have hu84 := Tryz.underlying84
 have aX := Zk hr0_1
 have aZ := Zk hc0_1
 clear hr0_1 hc0_1
 have HB := Zk (Below.refl w.heap.size w)
 have H : ((node_Right.f k a0_0 l0_1).bind fun bE => (if bE = true then ((some (([2, ((l0_1.length : Int)) % 256] : List Int) : List Int)).bind fun aG => (if a0_0 = true then (if 0 < (aG.length : Int) then (node_Print.j0 k (aG.set (0 : Int).toNat 1) a0_0 l0_1) else (none)) else (node_Print.j0 k aG a0_0 l0_1))) else (some ((⟨#[]⟩ : ByteArray), 1)))) = some (r1, r2) := h
 clear h
 replace H := Option.bind_eq_some_iff.mp H
 obtain ⟨bE, A20, H⟩ := H
 (try dsimp only at H)
 have A2 := Zk A20
 clear A20
 by_cases c3 : bE = true
 case neg =>
  replace c3 := Bool.eq_false_iff.mpr c3
  subst c3
  rw [if_neg (show ¬ (false = true) by decide)] at H
  simp only [Option.some.injEq, Prod.mk.injEq] at H
  obtain ⟨rfl, rfl⟩ := H
  go_enter Tryz.func84, Tryz.ntmps84
  go_wp2_with (first | (refine gd_ 1 ?_; refine bx_ 1 #[.bool a0_0, .slice A0_1 l0_1.length c0_1] 63 ?_; intro aF hg w41 hbox hb; have aA := Zk (hbox); have bH := gw_ HB hg; replace HB := al_ HB hb; clear hb hbox hg; obtain ⟨cE, cF, cG, cH⟩ := cf2_ aA) | (refine gc_ 63 ?_; refine gl_ 63 (some 8) #[.agg #[.bool a0_0, .slice A0_1 l0_1.length c0_1]] Tryz.func63 ?_; (with_reducible refine (node_Right.calls k a0_0 _ _ l0_1 false _ (cb_ aX HB) aZ.out A2.out).mono ?_); rintro e w43 ⟨rfl, hb⟩; refine ⟨_, rfl, ?_⟩; replace aA := ab_ aA hb; replace HB := al_ HB hb; (try clear hb)))
  go_ret2
  exact ⟨e_, bl_ HB⟩
 subst c3
 rw [if_pos rfl] at H
 obtain ⟨aG, aM⟩ : ∃ y_ : List Int, y_ = (([2, ((l0_1.length : Int)) % 256] : List Int)) := ⟨_, rfl⟩
 first | replace H := bnd_ aM H | rw [← aM] at H
 have bA := Zk aM
 clear aM
 have HC4 := Zk H
 clear H
 go_enter Tryz.func84, Tryz.ntmps84
 go_upto_if 16 with (first | (refine gd_ 1 ?_; refine bx_ 1 #[.bool a0_0, .slice A0_1 l0_1.length c0_1] 63 ?_; intro aF hg w5 hbox hb; have aA := Zk (hbox); have bH := gw_ HB hg; replace HB := al_ HB hb; clear hb hbox hg; obtain ⟨cU, cV, cW, cX⟩ := cf2_ aA) | (refine gc_ 63 ?_; refine gl_ 63 (some 8) #[.agg #[.bool a0_0, .slice A0_1 l0_1.length c0_1]] Tryz.func63 ?_; (with_reducible refine (node_Right.calls k a0_0 _ _ l0_1 true _ (cb_ aX HB) aZ.out A2.out).mono ?_); rintro e w7 ⟨rfl, hb⟩; refine ⟨_, rfl, ?_⟩; replace aA := ab_ aA hb; replace HB := al_ HB hb; (try clear hb); obtain ⟨cY, cZ, dA, dB⟩ := cf2_ aA) | (refine gd_ 14 ?_; refine Kd.R_lit (Kd.int .u8) _ 5 ?hg (N := 14) ?hd (xs := ([2, ((l0_1.length : Int)) % 256] : List Int)) (inner := [.int .u8 2, .int .u8 (((l0_1.length : Int)) % 256)]) (ok := fun _ => True) (okp := fun _ => True) ?hr ?hp (fun _ hk => hk) trivial (Below.refl _ _) (Nat.le_refl _) (by simp) ?_; (case hd => rfl); (case hg => rfl); (case hr => first | (go_simp; done) | (go_simp; rfl)); (case hp => exact (Reps.one (show Kd.M (Kd.int .u8) _ _ _ 2 [.int .u8 2] from rfl) (Reps.one (show Kd.M (Kd.int .u8) _ _ _ (((l0_1.length : Int)) % 256) [.int .u8 (((l0_1.length : Int)) % 256)] from rfl) (Reps.none _ _)))); intro dC w9 ho10 hb hg_ hnew_; clear hg_ hnew_; (first | rw [← bA.out] at ho10 | (simp only [Int.reduceToNat] at ho10; rw [← bA.out] at ho10)); have aH := Zk (Kd.R_lower ho10 (below_size (bl_ HB))); replace aA := ab_ aA hb; replace HB := al_ HB hb; clear hb ho10; obtain ⟨cI, cJ, cK, cL⟩ := cf2_ aA))
 (try simp only [Act.put, List.setIfInBounds_toArray, List.set_cons_zero, List.set_cons_succ])
 go_cut [] (fun wc => ∃ (kq : Nat) (aY : List Int), Aside0 (node_Print.j0 kq aY a0_0 l0_1 = some (r1, r2)) ∧ Aside0 (kq ≤ k) ∧ Aside0 (Kd.R (Kd.int .u8) 5 wc w.heap.size (fun _ => True) dC aY) ∧ Aside0 (wc.heap[aF]? = some (.cells #[.bool a0_0, (.slice A0_1 l0_1.length c0_1)] 63 (0, 0))) ∧ Aside0 (Below w.heap.size w wc))
 case first =>
  have H := HC4.out
  clear HC4
  by_cases c12 : a0_0 = true
  case neg =>
   replace c12 := Bool.eq_false_iff.mpr c12
   subst c12
   rw [if_neg (show ¬ (false = true) by decide)] at H
   have H' := Zk H
   clear H
   go_wp2
   go_meet
   case rel => exact ⟨_, (aG), H', ⟨by first | omega | exact Nat.le_refl _⟩, ⟨r_ aH⟩, ⟨bk_ aA⟩, ⟨bl_ HB⟩⟩
  subst c12
  rw [if_pos rfl] at H
  by_cases c13 : 0 < (aG.length : Int)
  case neg => exact no_ c13 H
  rw [if_pos c13] at H
  have aN := decide_eq_true c13
  have bB : decide (0 < aG.length) = true := decide_eq_true (by omega)
  clear c13
  (first | rw [aN] | (simp only [i64_w, i32_w]; rw [aN]) | skip)
  obtain ⟨bI, aO⟩ : ∃ y_ : List Int, y_ = (aG.set (0 : Int).toNat 1) := ⟨_, rfl⟩
  first | replace H := bnd_ aO H | rw [← aO] at H
  have bJ := Zk aO
  clear aO
  have H' := Zk H
  clear H
  have p14 : 0 ≤ (0 : Int) := (by omega)
  have q14 : (0 : Int) < ((aG.length : Int) : Int) := of_decide_eq_true as_
  have qi14 : (0 < aG.length) = True := eq_true (by omega)
  obtain ⟨go14, dD, bK, bL, gl14, cl14, HG14⟩ := Kd.R_form aH.out (by omega)
  (first | cases bK | (injection bK with ea_ en_ ec_; (first | subst ea_ | (injection ea_ with ea_; subst ea_)); subst ec_; clear en_))
  have GB14 := Zk bL
  have GG14 := Zk HG14
  clear bL gl14 HG14
  obtain ⟨aK, hf14_0⟩ := Kd.R_celln 0 aH.out (0 : Int) p14 q14
  (try rw [show ((0 : Int)).toNat = 0 from rfl] at aK)
  (try simp only [Nat.reduceMul, Nat.zero_mul, Nat.zero_add, Nat.reduceAdd] at aK)
  (try rw [show ((0 : Int)).toNat = 0 from rfl] at hf14_0)
  (try simp only [Nat.reduceMul, Nat.zero_mul, Nat.zero_add, Nat.reduceAdd] at hf14_0)
  replace p14 := eq_true p14
  replace q14 := eq_true q14
  have HP15 := Kd.R_putg aH.out (0 : Int) 1
  go_wp2_with (first | ((with_reducible refine gate_store (t := 5) (p := 18) rfl ?_); refine store_event (t := 5) (p := 18) (v := ?vo_w16) (w1 := (w9.setCell ⟨go14, (0 : Int).toNat, none⟩ (.int .u8 1))) ?hg ?ho ?hn ?hr ?_; (case ho => rfl); (case hg => rfl); (case hn => rfl); (case hr => first | (go_simp; done) | (go_simp; rfl)); intro w16 hw; have hg : w9.grownBy w16 (some go14) := (by rw [hw]; exact HP15.2); have hp_ : Kd.R (Kd.int .u8) 5 w16 w.heap.size (fun _ => True) (.slice (some ⟨go14, 0, none⟩) aG.length dD) bI := (by rw [hw, bJ.out]; exact HP15.1); clear HP15; replace aA := Zk (blk_grown (g := aF) (o := .cells #[.bool true, .slice A0_1 l0_1.length c0_1] 63 (0, 0)) (bk_ aA) hg (Kd.R_ne aH.out aA.out (by decide))); replace aH := Zk (hp_); replace HB := Zk ((by rw [hw]; exact below_set (HB.out) GB14.out : Below w.heap.size w w16)); clear hg hw hp_))
  go_meet
  case rel => exact ⟨_, (bI), H', ⟨by first | omega | exact Nat.le_refl _⟩, ⟨r_ aH⟩, ⟨bk_ aA⟩, ⟨bl_ HB⟩⟩
 case rest =>
  clear HC4
  try clear q1
  try clear hx1
  try clear qi1
  try clear hf1
  try clear aN
  try clear bB
  try clear q14
  try clear dE
  try clear qi14
  try clear hf14
  try clear aK
  try clear q14
  obtain ⟨kq, aY, HA, HJ3, aE, aA, HB⟩ := hcut
  cases kq with
  | zero => exact absurd HA.out (by simp [node_Print.j0])
  | succ kj3 =>
   have H := HA.out
   clear HA
   simp only [node_Print.j0] at H
   have H' := Zk H
   clear H
   obtain ⟨cM, cN, cO, cP⟩ := cf2_ aA
   go_wp2
   go_loopg [4, 22] kj3 (fun kq v4 v22 w' => ∃ (aI : List Int) (aC : Int), v22 = .int .i64 aC ∧ Aside0 (node_Print.l0 kq aI l0_1 (l0_1.length : Int) aC = some (r1, r2)) ∧ Aside0 (kq ≤ kj3) ∧ Aside0 (Kd.R (Kd.int .u8) 5 w' w.heap.size (fun _ => True) v4 aI) ∧ Aside0 (w'.heap[aF]? = some (.cells #[.bool a0_0, (.slice A0_1 l0_1.length c0_1)] 63 (0, 0))) ∧ Aside0 (Below w.heap.size w w'))
   case atStart => exact ⟨(aY), (0), q_, H', ⟨Nat.le_refl _⟩, ⟨r_ aE⟩, ⟨bk_ aA⟩, ⟨bl_ HB⟩⟩
   case round =>
    clear H'
    try clear q1
    try clear hx1
    try clear qi1
    try clear hf1
    try clear aN
    try clear bB
    try clear q14
    try clear dE
    try clear qi14
    try clear hf14
    try clear aK
    try clear q1
    try clear q14
    obtain ⟨aI, aC, rfl, HA, HK2, aE, aA, HB⟩ := hrel
    cases gk with
    | zero => exact absurd HA.out (by simp [node_Print.l0])
    | succ k2 =>
     have H := HA.out
     clear HA
     simp only [node_Print.l0] at H
     by_cases c18 : aC < (l0_1.length : Int)
     case neg =>
      rw [if_neg c18] at H
      have bM : decide (aC < (l0_1.length : Int)) = false := decide_eq_false c18
      clear c18
      replace H := Option.bind_eq_some_iff.mp H
      obtain ⟨⟨dF, dG⟩, bN, H⟩ := H
      (try dsimp only at H)
      have A38 := Zk bN
      clear bN
      simp only [Option.some.injEq, Prod.mk.injEq] at H
      obtain ⟨rfl, rfl⟩ := H
      obtain ⟨dH, dI, dJ⟩ := Kd.R_slice aE.out
      subst dJ
      go_wp2_with (first | (refine gc_ 107 ?_; refine gl_ 107 (some 37) #[.slice dH aI.length dI] Tryz.func107 ?_; (with_reducible refine (num_Seal.calls _ _ aI dF dG _ (ct_ (Kd.R_reads' aE.out).2.2) ((Kd.R_reads' aE.out).2.1) A38.out).mono ?_); rintro e w40 ⟨rfl, hb⟩; refine ⟨_, rfl, ?_⟩; replace aE := ar_ aE hb; replace aA := ab_ aA hb; replace HB := al_ HB hb; (try clear hb)))
      go_ret2
      exact ⟨e_, bl_ HB⟩
     rw [if_pos c18] at H
     have bM := decide_eq_true c18
     clear c18
     by_cases c19 : 0 ≤ aC
     case neg => exact no_ c19 H
     rw [if_pos c19] at H
     have dN := decide_eq_true c19
     clear c19
     by_cases c20 : aC < (l0_1.length : Int)
     case neg => exact no_ c20 H
     rw [if_pos c20] at H
     have dO := decide_eq_true c20
     clear c20
     replace H := Option.bind_eq_some_iff.mp H
     obtain ⟨aT, bO, H⟩ := H
     (try dsimp only at H)
     have A21 := Zk bO
     clear bO
     replace H := Option.bind_eq_some_iff.mp H
     obtain ⟨aU, bP, H⟩ := H
     (try dsimp only at H)
     have A22 := Zk bP
     clear bP
     obtain ⟨bQ, aP⟩ : ∃ y_ : List (List Int), y_ = (([aI, aT, aU] : List (List Int))) := ⟨_, rfl⟩
     first | replace H := bnd_ aP H | rw [← aP] at H
     have bC := Zk aP
     clear aP
     replace H := Option.bind_eq_some_iff.mp H
     obtain ⟨bR, bS, H⟩ := H
     (try dsimp only at H)
     have A23 := Zk bS
     clear bS
     have H' := Zk H
     clear H
     have bF : 0 ≤ (aC : Int) := of_decide_eq_true as_
     have bG : aC < (l0_1.length : Int) := of_decide_eq_true as_
     obtain ⟨bD, dK, aQ, aR⟩ := at_T84 aX.out aC bF bG
     cases dK
     replace aQ := hx_ HB aQ
     replace aR := hx_ HB aR
     replace bF := eq_true bF
     replace bG := eq_true bG
     try go_wp2_with (first | (refine gd_ 6 ?_; refine bx_ 6 #[.int .i64 0, .int .i64 0] 84 ?_; intro aD hg w24 hbox hb; replace aE := ar_ aE hb; have aB := Zk (hbox); have dP := gw_ HB hg; replace HB := al_ HB hb; have aV := n1_ aA hg; have aW := n2_ aA hg; replace aA := ab_ aA hb; clear hb hbox hg; obtain ⟨dQ, dR⟩ := nn_ aW aV; obtain ⟨cQ, cR, cS, cT⟩ := cf2_ aB))
     have n0_ : Aside0 (Kd.R (Kd.int .u8) 5 ((w24.setCell ⟨aD, 0, none⟩ (.int .i64 ((rd_T84 l0_1 aC).f0))).setCell ⟨aD, 1, none⟩ (.int .i64 ((rd_T84 l0_1 aC).f1))) w.heap.size (fun _ => True) u4 aI) := ⟨rg_ (Kd.R_types aE.out aB.out (by decide)) (fun _ hk => trivial)⟩
     have n1_ : Aside0 (((w24.setCell ⟨aD, 0, none⟩ (.int .i64 ((rd_T84 l0_1 aC).f0))).setCell ⟨aD, 1, none⟩ (.int .i64 ((rd_T84 l0_1 aC).f1))).heap[aF]? = some (.cells #[.bool a0_0, .slice (some bD) l0_1.length c0_1] 63 (0, 0))) := ⟨bk_ aA⟩
     have n2_ : Aside0 (((w24.setCell ⟨aD, 0, none⟩ (.int .i64 ((rd_T84 l0_1 aC).f0))).setCell ⟨aD, 1, none⟩ (.int .i64 ((rd_T84 l0_1 aC).f1))).heap[aD]? = some (.cells #[.int .i64 ((rd_T84 l0_1 aC).f0), .int .i64 ((rd_T84 l0_1 aC).f1)] 84 (0, 0))) := ⟨bp_ aB⟩
     have n3_ : Aside0 (Below w.heap.size w ((w24.setCell ⟨aD, 0, none⟩ (.int .i64 ((rd_T84 l0_1 aC).f0))).setCell ⟨aD, 1, none⟩ (.int .i64 ((rd_T84 l0_1 aC).f1)))) := ⟨bl_ HB⟩
     (try clear aE)
     (try clear aA)
     (try clear aB)
     (try clear HB)
     generalize ((w24.setCell ⟨aD, 0, none⟩ (.int .i64 ((rd_T84 l0_1 aC).f0))).setCell ⟨aD, 1, none⟩ (.int .i64 ((rd_T84 l0_1 aC).f1))) = w27 at n0_ n1_ n2_ n3_ ⊢
     have aE := n0_
     have aA := n1_
     have aB := n2_
     have HB := n3_
     clear n0_ n1_ n2_ n3_
     replace aE := Zk (Kd.R_drew aE.out)
     replace aA := Zk (blk_drew aA.out)
     replace aB := Zk (blk_drew aB.out)
     replace HB := Zk (below_drew1 HB.out)
     refine start_ (n := 10) (S := fun w' => w'.cell? ⟨aD, 0, none⟩ = some (.int .i64 ((rd_T84 l0_1 aC).f0)) ∧ w'.cell? ⟨aD, 1, none⟩ = some (.int .i64 ((rd_T84 l0_1 aC).f1))) (ds := []) #[false, false, false, false, false, false, false, false, false, false] (by kernel_rfl) rfl rfl ⟨(blk_cell aB.out 0).trans rfl, (blk_cell aB.out 1).trans rfl⟩ (fun hHeld => ?_); refine with_tabW node_Print.tab9 node_Print.bits9 (fun HT_ HW_ => ?_)
     generalize w27.drew = w28 at aE aA aB HB hHeld ⊢
     refine pu_ 0 26 ?_
     refine pu_ 1 27 ?_
     refine pu_ 4 30 ?_
     refine tk_ 2 28 ?_
     refine tk_ 5 31 ?_
     refine one_ (i := 3) (N := some 29) #[true, true, true, true, true, true, false, false, false, false] rfl rfl (one_of HT_.out (by kernel_rfl)) (by decide) (fun K hK => ?_)
     refine goes_ Tryz.func106 (by kernel_rfl) rfl #[.int .i64 ((rd_T84 l0_1 aC).f0), .int .i64 4] (by rfl) rfl rfl (by (try simp only [List.map_toArray, List.map_cons, List.map_nil]); first | done | rfl | (simp only [List.length_drop, List.length_take]; rfl)) ?_
     with_reducible refine (num_Put.calls k2 ((rd_T84 l0_1 aC).f0) 4 aT _ A21.out).mono ?_
     rintro e w29 ⟨dS, rfl, ho0, hb⟩
     refine ⟨_, rfl, ?_⟩
     have aJ := Zk (Kd.R_lower (Kd.R_new' ho0 (Kd.R_lt (r_ aE))) (below_size (bl_ HB)))
     replace aE := Zk (Kd.R_elder' (r_ aE) (Kd.R_base ho0) hb)
     replace aA := ab_ aA hb
     replace aB := ab_ aB hb
     replace HB := al_ HB hb
     (try clear hb)
     (try clear hb2)
     (try clear hk)
     (try clear hi)
     (try clear ho0)
     refine hK.out _ _ ⟨(blk_cell aB.out 0).trans rfl, (blk_cell aB.out 1).trans rfl⟩ (fun hHeld => ?_)
     clear hK K
     refine norm_ (a' := ?_) ?_ ?_
     rotate_left
     ·show Act.put _ (some 29) _ = _
      simp only [Act.put, List.setIfInBounds_toArray, List.set_cons_zero, List.set_cons_succ, i64_w, i32_w]
      rfl
     refine one_ (i := 6) (N := some 32) #[true, true, true, true, true, true, true, false, false, false] rfl rfl (one_of HT_.out (by kernel_rfl)) (by decide) (fun K hK => ?_)
     refine goes_ Tryz.func106 (by kernel_rfl) rfl #[.int .i64 ((rd_T84 l0_1 aC).f1), .int .i64 4] (by rfl) rfl rfl (by (try simp only [List.map_toArray, List.map_cons, List.map_nil]); first | done | rfl | (simp only [List.length_drop, List.length_take]; rfl)) ?_
     with_reducible refine (num_Put.calls k2 ((rd_T84 l0_1 aC).f1) 4 aU _ A22.out).mono ?_
     rintro e w30 ⟨dT, rfl, ho0, hb⟩
     refine ⟨_, rfl, ?_⟩
     have aS := Zk (Kd.R_lower (Kd.R_new' (Kd.R_new' ho0 (Kd.R_lt (r_ aE))) (Kd.R_lt (r_ aJ))) (below_size (bl_ HB)))
     replace aE := Zk (Kd.R_elder' (r_ aE) (Kd.R_base ho0) hb)
     replace aJ := Zk (Kd.R_elder' (r_ aJ) (Kd.R_base ho0) hb)
     replace aA := ab_ aA hb
     replace aB := ab_ aB hb
     replace HB := al_ HB hb
     (try clear hb)
     (try clear hb2)
     (try clear hk)
     (try clear hi)
     (try clear ho0)
     obtain ⟨bT, bU, bV⟩ := Kd.R_slice aE.out
     (first | subst bV | (injection bV with f1_ f2_ f3_; have f4_ := f1_.symm; have f5_ := f3_.symm; clear f1_ f2_ f3_; subst f4_; subst f5_))
     obtain ⟨bW, bX, bY⟩ := Kd.R_slice aJ.out
     (first | subst bY | (injection bY with f1_ f2_ f3_; have f4_ := f1_.symm; have f5_ := f3_.symm; clear f1_ f2_ f3_; subst f4_; subst f5_))
     obtain ⟨bZ, cA, cB⟩ := Kd.R_slice aS.out
     (first | subst cB | (injection cB with f1_ f2_ f3_; have f4_ := f1_.symm; have f5_ := f3_.symm; clear f1_ f2_ f3_; subst f4_; subst f5_))
     refine hK.out _ _ ⟨(blk_cell aB.out 0).trans rfl, (blk_cell aB.out 1).trans rfl⟩ (fun hHeld => ?_)
     clear hK K
     refine norm_ (a' := ?_) ?_ ?_
     rotate_left
     ·show Act.put _ (some 32) _ = _
      simp only [Act.put, List.setIfInBounds_toArray, List.set_cons_zero, List.set_cons_succ, i64_w, i32_w]
      rfl
     refine one_ (i := 7) (N := some 33) #[true, true, true, true, true, true, true, true, false, false] rfl rfl (one_of HT_.out (by kernel_rfl)) (by decide) (fun K hK => ?_)
     refine Kd.N_lit_step (Kd.slice 5 (Kd.int .u8)) _ 54 ?hg (N' := 33) ?hd (xs := ([aI, aT, aU] : List (List Int))) (inner := [.slice bT aI.length bU, .slice bW aT.length bX, .slice bZ aU.length cA]) (ok := (fun k_ => k_ ≠ aF ∧ k_ ≠ aD)) (okp := (fun k_ => k_ ≠ aF ∧ k_ ≠ aD)) ?hr ?hp (fun _ hk => hk) ((show ∀ k_, w30.heap.size ≤ k_ → (fun k_ => k_ ≠ aF ∧ k_ ≠ aD) k_ from fun k_ hk => ⟨Kd.freshB (g := aF) (o := .cells #[.bool a0_0, .slice (some bD) l0_1.length c0_1] 63 (0, 0)) (bk_ aA) k_ hk, Kd.freshB (g := aD) (o := .cells #[.int .i64 ((rd_T84 l0_1 aC).f0), .int .i64 ((rd_T84 l0_1 aC).f1)] 84 (0, 0)) (bk_ aB) k_ hk⟩) _ (Nat.le_refl _)) (Below.refl _ _) (Nat.le_refl _) (by simp) ?_; (case hd => rfl); (case hg => rfl); (case hr => first | (go_simp; done) | (go_simp; rfl)); (case hp => exact (Reps.one (show Kd.FK (Kd.slice 5 (Kd.int .u8)) _ _ aI [.slice bT aI.length bU] from (Kd.FK_slice_mk (Kd.R_reads' (Kd.R_mono (ok' := (fun k_ => k_ ≠ aF ∧ k_ ≠ aD)) (Kd.R_types (Kd.R_types (aE.out) aA.out (by decide)) aB.out (by decide)) (fun k_ hk => ⟨hk.1.2, hk.2⟩))).2.1 (Kd.R_F (Kd.R_mono (ok' := (fun k_ => k_ ≠ aF ∧ k_ ≠ aD)) (Kd.R_types (Kd.R_types (aE.out) aA.out (by decide)) aB.out (by decide)) (fun k_ hk => ⟨hk.1.2, hk.2⟩))))) (Reps.one (show Kd.FK (Kd.slice 5 (Kd.int .u8)) _ _ aT [.slice bW aT.length bX] from (Kd.FK_slice_mk (Kd.R_reads' (Kd.R_mono (ok' := (fun k_ => k_ ≠ aF ∧ k_ ≠ aD)) (Kd.R_types (Kd.R_types (aJ.out) aA.out (by decide)) aB.out (by decide)) (fun k_ hk => ⟨hk.1.2, hk.2⟩))).2.1 (Kd.R_F (Kd.R_mono (ok' := (fun k_ => k_ ≠ aF ∧ k_ ≠ aD)) (Kd.R_types (Kd.R_types (aJ.out) aA.out (by decide)) aB.out (by decide)) (fun k_ hk => ⟨hk.1.2, hk.2⟩))))) (Reps.one (show Kd.FK (Kd.slice 5 (Kd.int .u8)) _ _ aU [.slice bZ aU.length cA] from (Kd.FK_slice_mk (Kd.R_reads' (Kd.R_mono (ok' := (fun k_ => k_ ≠ aF ∧ k_ ≠ aD)) (Kd.R_types (Kd.R_types (aS.out) aA.out (by decide)) aB.out (by decide)) (fun k_ hk => ⟨hk.1.2, hk.2⟩))).2.1 (Kd.R_F (Kd.R_mono (ok' := (fun k_ => k_ ≠ aF ∧ k_ ≠ aD)) (Kd.R_types (Kd.R_types (aS.out) aA.out (by decide)) aB.out (by decide)) (fun k_ hk => ⟨hk.1.2, hk.2⟩))))) (Reps.none _ _)))))
     intro dU w34 ho35 hb hg_ hnew_
     clear hg_ hnew_
     (first | rw [← bC.out] at ho35 | (simp only [Int.reduceToNat] at ho35; rw [← bC.out] at ho35))
     have aL := Zk (Kd.N_lower ho35 (below_size (bl_ HB)))
     replace aA := ab_ aA hb
     replace aB := ab_ aB hb
     replace HB := al_ HB hb
     clear aJ
     clear aS
     clear aE
     clear hb ho35
     obtain ⟨dL, dM, cC⟩ := Kd.N_slice aL.out
     (first | subst cC | (injection cC with f1_ f2_ f3_; have f4_ := f1_.symm; have f5_ := f3_.symm; clear f1_ f2_ f3_; subst f4_; subst f5_))
     refine hK.out _ _ ⟨(blk_cell aB.out 0).trans rfl, (blk_cell aB.out 1).trans rfl⟩ (fun hHeld => ?_)
     clear hK K
     refine norm_ (a' := ?_) ?_ ?_
     rotate_left
     ·show Act.put _ (some 33) _ = _
      simp only [Act.put, List.setIfInBounds_toArray, List.set_cons_zero, List.set_cons_succ, i64_w, i32_w]
      rfl
     refine one_ (i := 8) (N := some 34) #[true, true, true, true, true, true, true, true, true, false] rfl rfl (one_of HT_.out (by kernel_rfl)) (by decide) (fun K hK => ?_)
     refine goes_ Tryz.func105 (by kernel_rfl) rfl #[.slice dL bQ.length dM] (by rfl) rfl rfl (by (try simp only [List.map_toArray, List.map_cons, List.map_nil]); first | done | rfl | (simp only [List.length_drop, List.length_take]; rfl)) ?_
     with_reducible refine (slices_Concat_byte_byte.calls _ _ bQ bR _ ?side1 ?side2 A23.out).mono ?_
     (case side1 => repeat (first | exact (Kd.N_reads' aL.out).2.2 | (with_reducible refine Kd.C_alloc ?_ _) | (with_reducible refine Kd.C_drewN ?_ _) | (with_reducible refine Kd.C_drew ?_)))
     (case side2 => exact (Kd.N_reads' aL.out).2.1)
     rintro e w37 ⟨dV, rfl, ho0, hb⟩
     refine ⟨_, rfl, ?_⟩
     replace aL := Zk (Kd.N_elder' (by (with_reducible repeat (first | apply Kd.N_alloc | apply Kd.N_drewN | apply Kd.N_drew)); exact aL.out) (Kd.R_base ho0) hb)
     have cD := Zk (Kd.R_lower ho0 (below_size (bl_ HB)))
     replace aA := ab_ aA hb
     replace aB := ab_ aB hb
     replace HB := al_ HB hb
     (try clear hb)
     (try clear hb2)
     (try clear hk)
     (try clear hi)
     (try clear ho0)
     refine hK.out _ _ ⟨(blk_cell aB.out 0).trans rfl, (blk_cell aB.out 1).trans rfl⟩ (fun hHeld => ?_)
     clear hK K
     refine norm_ (a' := ?_) ?_ ?_
     rotate_left
     ·show Act.put _ (some 34) _ = _
      simp only [Act.put, List.setIfInBounds_toArray, List.set_cons_zero, List.set_cons_succ, i64_w, i32_w]
      rfl
     refine pu_ 9 4 ?_
     refine done_ (done_of HT_.out (by kernel_rfl)) ?_
     try go_wp2
     go_roundg k2
     case measure => have := HJ3.out; have := HK2.out; omega
     case rel => exact ⟨(bR), (wrap64 (aC + 1)), q_, H', ⟨by have := HJ3.out; have := HK2.out; omega⟩, ⟨r_ cD⟩, ⟨bk_ aA⟩, ⟨bl_ HB⟩⟩
end
section
attribute [local go_sem] max2_int min2_int max_two min_two max_three min_three max_four min_four
def assartref01_xor.f (a0 : Int) (a1 : Int) : Option (Int) := some (wrap64 (Go.bits .xor .u32 ((a0) % 4294967296) ((a1) % 4294967296)))
theorem assartref01_xor.calls (a0 : Int) (a1 : Int) (r : Int) (w : World) (h : assartref01_xor.f a0 a1 = some r) :
  Calls Tryz.prog 125 #[.int .i64 a0, .int .i64 a1] w fun e w' => e = .returned (.int .i64 r) ∧ Drawn0 w w' := by
 have H : (some (wrap64 (Go.bits .xor .u32 ((a0) % 4294967296) ((a1) % 4294967296)))) = some r := h
 clear h
 obtain rfl := Option.some.inj H
 go_enter Tryz.func125, Tryz.ntmps125
 go_wp2
 go_ret
 exact ⟨q_, by repeat (first | exact Drawn0.refl _ | apply Drawn0.step)⟩
end
section
attribute [local go_sem] max2_int min2_int max_two min_two max_three min_three max_four min_four
mutual
def assartref01_Sum.l0 : Nat → List Int → Int → Int → Option (Int)
 | 0, _, _, _ => none
 | k + 1, x0, x3, x4 => if x4 < (x0.length : Int) then (if 0 ≤ x4 then ((assartref01_xor.f x3 (wrap64 (rd x0 x4))).bind fun aA => (assartref01_Sum.l1 k x0 aA x4 0)) else (none)) else ((assartref01_xor.f x3 4294967295).bind fun aB => (some aB))
def assartref01_Sum.l1 : Nat → List Int → Int → Int → Int → Option (Int)
 | 0, _, _, _, _ => none
 | k + 1, x0, x3, x4, x5 => if x5 < 8 then (if (Int.tmod x3 2) = 1 then ((assartref01_xor.f (wrap64 (Int.tdiv x3 2)) 3988292384).bind fun aC => (assartref01_Sum.l1 k x0 aC x4 (wrap64 (x5 + 1)))) else (assartref01_Sum.l1 k x0 (wrap64 (Int.tdiv x3 2)) x4 (wrap64 (x5 + 1)))) else (assartref01_Sum.l0 k x0 x3 (wrap64 (x4 + 1)))
end
def assartref01_Sum.f (k : Nat) (l0 : List Int) : Option (Int) := assartref01_Sum.l0 k l0 4294967295 0
theorem assartref01_Sum.calls (k : Nat) (A0 : Option Addr) (c0 : Nat) (l0 : List Int) (r : Int) (w : World) (hr0 : Kd.C (Kd.int .u8) w A0 l0.length l0) (hc0 : l0.length ≤ c0) (h : assartref01_Sum.f k l0 = some r) :
  Calls Tryz.prog 118 #[.slice A0 l0.length c0] w fun e w' => e = .returned (.int .i64 r) ∧ Drawn0 w w' := by
 have HR0 := Zk hr0
 have HC0 := Zk hc0
 clear hr0 hc0
 have H : (assartref01_Sum.l0 k l0 4294967295 0) = some r := h
 clear h
 have H' := Zk H
 clear H
 go_enter Tryz.func118, Tryz.ntmps118
 go_wp2
 go_loopg [3, 4] k (fun kq v3 v4 w' => ∃ (aC : Int) (aA : Int), v3 = .int .i64 aC ∧ v4 = .int .i64 aA ∧ Aside0 (assartref01_Sum.l0 kq l0 aC aA = some r) ∧ Aside0 (kq ≤ k) ∧ Drawn0 w w')
 case atStart => exact ⟨(4294967295), (0), q_, q_, H', ⟨Nat.le_refl _⟩, by repeat (first | exact Drawn0.refl _ | apply Drawn0.step)⟩
 case round =>
  clear H'
  obtain ⟨aC, aA, rfl, rfl, HA, HK1, ⟨m1, rfl⟩⟩ := hrel
  cases gk with
  | zero => exact absurd HA.out (by simp [assartref01_Sum.l0])
  | succ k1 =>
   have H := HA.out
   clear HA
   simp only [assartref01_Sum.l0] at H
   by_cases c2 : aA < (l0.length : Int)
   case neg =>
    rw [if_neg c2] at H
    have aH : decide (aA < (l0.length : Int)) = false := decide_eq_false c2
    clear c2
    replace H := Option.bind_eq_some_iff.mp H
    obtain ⟨aK, A80, H⟩ := H
    (try dsimp only at H)
    have A8 := Zk A80
    clear A80
    obtain rfl := Option.some.inj H
    go_wp2_with (first | (refine gc_ 125 ?_; refine gl_ 125 (some 33) #[.int .i64 aC, .int .i64 4294967295] Tryz.func125 ?_; (with_reducible refine (assartref01_xor.calls aC 4294967295 aK _ A8.out).mono ?_); rintro e w' ⟨rfl, ⟨nd, rfl⟩⟩; refine ⟨_, rfl, ?_⟩))
    go_ret
    exact ⟨q_, by repeat (first | exact Drawn0.refl _ | apply Drawn0.step)⟩
   rw [if_pos c2] at H
   have aH := decide_eq_true c2
   clear c2
   by_cases c3 : 0 ≤ aA
   case neg => exact no_ c3 H
   rw [if_pos c3] at H
   have aL := decide_eq_true c3
   clear c3
   replace H := Option.bind_eq_some_iff.mp H
   obtain ⟨aI, A40, H⟩ := H
   (try dsimp only at H)
   have A4 := Zk A40
   clear A40
   have H' := Zk H
   clear H
   have aG : 0 ≤ (aA : Int) := of_decide_eq_true as_
   have aE : aA < (l0.length : Int) := of_decide_eq_true as_
   obtain ⟨aQ, aM, aF⟩ := Kd.at_int HR0.out aA aG aE
   cases aM
   replace aG := eq_true aG
   replace aE := eq_true aE
   go_wp2_with (first | (refine gc_ 125 ?_; refine gl_ 125 (some 19) #[.int .i64 aC, .int .i64 (wrap64 (rd l0 aA))] Tryz.func125 ?_; (with_reducible refine (assartref01_xor.calls aC (wrap64 (rd l0 aA)) aI _ A4.out).mono ?_); rintro e w' ⟨rfl, ⟨nd, rfl⟩⟩; refine ⟨_, rfl, ?_⟩))
   go_loopg [3, 5] k1 (fun kq v3 v5 w' => ∃ (aB : Int) (aD : Int), v3 = .int .i64 aB ∧ v5 = .int .i64 aD ∧ Aside0 (assartref01_Sum.l1 kq l0 aB aA aD = some r) ∧ Aside0 (kq ≤ k1) ∧ Drawn0 w w')
   case atStart => exact ⟨(aI), (0), q_, q_, H', ⟨Nat.le_refl _⟩, by repeat (first | exact Drawn0.refl _ | apply Drawn0.step)⟩
   case round =>
    clear H'
    try clear aH
    try clear aL
    try clear q3
    try clear hx3
    try clear aF
    try clear aE
    obtain ⟨aB, aD, rfl, rfl, HA, HK2, ⟨m2, rfl⟩⟩ := hrel
    cases gk with
    | zero => exact absurd HA.out (by simp [assartref01_Sum.l1])
    | succ k2 =>
     have H := HA.out
     clear HA
     simp only [assartref01_Sum.l1] at H
     by_cases c5 : aD < 8
     case neg =>
      rw [if_neg c5] at H
      have aN := decide_eq_false c5
      clear c5
      have H' := Zk H
      clear H
      go_wp2
      go_roundg k2
      case measure => have := HK1.out; have := HK2.out; omega
      case rel => exact ⟨(aB), (wrap64 (aA + 1)), q_, q_, H', ⟨by have := HK1.out; have := HK2.out; omega⟩, by repeat (first | exact Drawn0.refl _ | apply Drawn0.step)⟩
     rw [if_pos c5] at H
     have aN := decide_eq_true c5
     clear c5
     by_cases c6 : (Int.tmod aB 2) = 1
     case neg =>
      rw [if_neg c6] at H
      have aO := beq_eq_false_iff_ne.mpr c6
      have aP := bne_iff_ne.mpr c6
      have H' := Zk H
      clear H
      go_wp2
      go_roundg k2
      case measure => have := HK1.out; have := HK2.out; omega
      case rel => exact ⟨(wrap64 (Int.tdiv aB 2)), (wrap64 (aD + 1)), q_, q_, H', ⟨by have := HK1.out; have := HK2.out; omega⟩, by repeat (first | exact Drawn0.refl _ | apply Drawn0.step)⟩
     rw [if_pos c6] at H
     have aO := beq_iff_eq.mpr c6
     have aP := bne_eq_false_iff_eq.mpr c6
     clear c6
     replace H := Option.bind_eq_some_iff.mp H
     obtain ⟨aJ, A70, H⟩ := H
     (try dsimp only at H)
     have A7 := Zk A70
     clear A70
     have H' := Zk H
     clear H
     go_wp2_with (first | (refine gc_ 125 ?_; refine gl_ 125 (some 31) #[.int .i64 (wrap64 (Int.tdiv aB 2)), .int .i64 3988292384] Tryz.func125 ?_; (with_reducible refine (assartref01_xor.calls (wrap64 (Int.tdiv aB 2)) 3988292384 aJ _ A7.out).mono ?_); rintro e w' ⟨rfl, ⟨nd, rfl⟩⟩; refine ⟨_, rfl, ?_⟩))
     go_roundg k2
     case measure => have := HK1.out; have := HK2.out; omega
     case rel => exact ⟨(aJ), (wrap64 (aD + 1)), q_, q_, H', ⟨by have := HK1.out; have := HK2.out; omega⟩, by repeat (first | exact Drawn0.refl _ | apply Drawn0.step)⟩
end
section
attribute [local go_sem] max2_int min2_int max_two min_two max_three min_three max_four min_four
def assartref01_limit.l0 : Nat → Int → Int → Int → Option (Int)
 | 0, _, _, _ => none
 | k + 1, x0, x3, x4 => if x4 < x0 then (assartref01_limit.l0 k x0 (wrap64 (x3 * 256)) (wrap64 (x4 + 1))) else (some x3)
def assartref01_limit.f (k : Nat) (a0 : Int) : Option (Int) := assartref01_limit.l0 k a0 1 0
theorem assartref01_limit.calls (k : Nat) (a0 : Int) (r : Int) (w : World) (h : assartref01_limit.f k a0 = some r) :
  Calls Tryz.prog 122 #[.int .i64 a0] w fun e w' => e = .returned (.int .i64 r) ∧ Drawn0 w w' := by
 have H : (assartref01_limit.l0 k a0 1 0) = some r := h
 clear h
 have H' := Zk H
 clear H
 go_enter Tryz.func122, Tryz.ntmps122
 go_wp2
 go_loopg [3, 4] k (fun kq v3 v4 w' => ∃ (aB : Int) (aA : Int), v3 = .int .i64 aB ∧ v4 = .int .i64 aA ∧ Aside0 (assartref01_limit.l0 kq a0 aB aA = some r) ∧ Aside0 (kq ≤ k) ∧ Drawn0 w w')
 case atStart => exact ⟨(1), (0), q_, q_, H', ⟨Nat.le_refl _⟩, by repeat (first | exact Drawn0.refl _ | apply Drawn0.step)⟩
 case round =>
  clear H'
  obtain ⟨aB, aA, rfl, rfl, HA, HK1, ⟨m1, rfl⟩⟩ := hrel
  cases gk with
  | zero => exact absurd HA.out (by simp [assartref01_limit.l0])
  | succ k1 =>
   have H := HA.out
   clear HA
   simp only [assartref01_limit.l0] at H
   by_cases c2 : aA < a0
   case neg =>
    rw [if_neg c2] at H
    have aC := decide_eq_false c2
    clear c2
    obtain rfl := Option.some.inj H
    go_wp2
    go_ret
    exact ⟨q_, by repeat (first | exact Drawn0.refl _ | apply Drawn0.step)⟩
   rw [if_pos c2] at H
   have aC := decide_eq_true c2
   clear c2
   have H' := Zk H
   clear H
   go_wp2
   go_roundg k1
   case measure => have := HK1.out; omega
   case rel => exact ⟨(wrap64 (aB * 256)), (wrap64 (aA + 1)), q_, q_, H', ⟨by have := HK1.out; omega⟩, by repeat (first | exact Drawn0.refl _ | apply Drawn0.step)⟩
end
section
attribute [local go_sem] max2_int min2_int max_two min_two max_three min_three max_four min_four
def assartref01_Put.l0 : Nat → Int → Int → List Int → Int → Option (List Int)
 | 0, _, _, _, _ => none
 | k + 1, x0, x1, x5, x6 => if x6 < x1 then (if x5.length < 140737488355328 then (assartref01_Put.l0 k (wrap64 (Int.tdiv x0 256)) x1 (x5 ++ [(Int.tmod x0 256) % 256]) (wrap64 (x6 + 1))) else (none)) else (some x5)
def assartref01_Put.f (k : Nat) (a0 : Int) (a1 : Int) : Option (List Int) := if a1 < 1 then (none) else (if a1 > 4 then (none) else (if a0 < 0 then (none) else ((assartref01_limit.f k a1).bind fun aA => (if a0 ≥ aA then (some ([] : List Int)) else (assartref01_Put.l0 k a0 a1 ([] : List Int) 0)))))
theorem assartref01_Put.calls (k : Nat) (a0 : Int) (a1 : Int) (r : List Int) (w : World) (h : assartref01_Put.f k a0 a1 = some r) :
  Calls Tryz.prog 113 #[.int .i64 a0, .int .i64 a1] w fun e w' => ∃ v0_ : Value, e = .returned (v0_) ∧ Kd.R (Kd.int .u8) 5 w' w.heap.size (fun _ => True) v0_ r ∧ Below w.heap.size w w' := by
 have HB := Zk (Below.refl w.heap.size w)
 have H : (if a1 < 1 then (none) else (if a1 > 4 then (none) else (if a0 < 0 then (none) else ((assartref01_limit.f k a1).bind fun aA => (if a0 ≥ aA then (some ([] : List Int)) else (assartref01_Put.l0 k a0 a1 ([] : List Int) 0)))))) = some r := h
 clear h
 by_cases c3 : a1 < 1
 case pos =>
  rw [if_pos c3] at H
  exact absurd H (by simp)
 rw [if_neg c3] at H
 have aM := decide_eq_false c3
 clear c3
 by_cases c4 : a1 > 4
 case pos =>
  rw [if_pos c4] at H
  exact absurd H (by simp)
 rw [if_neg c4] at H
 have aN : decide (4 < a1) = false := decide_eq_false c4
 clear c4
 by_cases c5 : a0 < 0
 case pos =>
  rw [if_pos c5] at H
  exact absurd H (by simp)
 rw [if_neg c5] at H
 have aQ := decide_eq_false c5
 clear c5
 replace H := Option.bind_eq_some_iff.mp H
 obtain ⟨aA, A60, H⟩ := H
 (try dsimp only at H)
 have A6 := Zk A60
 clear A60
 by_cases c7 : a0 ≥ aA
 case pos =>
  rw [if_pos c7] at H
  have aI : decide (aA ≤ a0) = true := decide_eq_true c7
  clear c7
  obtain rfl := Option.some.inj H
  go_enter Tryz.func113, Tryz.ntmps113
  go_wp2_with (first | (go_at_call 122; (with_reducible refine (assartref01_limit.calls k a1 aA _ A6.out).mono ?_); rintro e w' ⟨rfl, ⟨nd, rfl⟩⟩))
  go_ret
  exact ⟨_, e_, by first | exact Kd.R_nil _ _ _ _ _ | exact Kd.N_nil _ _ _ _ _ | exact Kd.V_nil _ _ _ _ _ | exact Kd.Q_nil _ _ _ _ _ | exact Kd.S_nil _ _ _ _ _, bl_ HB⟩
 rw [if_neg c7] at H
 have aI : decide (aA ≤ a0) = false := decide_eq_false c7
 clear c7
 have H' := Zk H
 clear H
 go_enter Tryz.func113, Tryz.ntmps113
 go_wp2_with (first | (go_at_call 122; (with_reducible refine (assartref01_limit.calls k a1 aA _ A6.out).mono ?_); rintro e w' ⟨rfl, ⟨nd, rfl⟩⟩))
 go_loopg [0, 5, 6] k (fun kq v0 v5 v6 w' => ∃ (aC : Int) (aE : List Int) (aG : Int), v0 = .int .i64 aC ∧ v6 = .int .i64 aG ∧ Aside0 (assartref01_Put.l0 kq aC a1 aE aG = some r) ∧ Aside0 (kq ≤ k) ∧ Aside0 (Kd.R (Kd.int .u8) 5 w' w.heap.size (fun _ => True) v5 aE) ∧ Aside0 (Below w.heap.size w w'))
 case atStart => exact ⟨(a0), (([] : List Int)), (0), q_, q_, H', ⟨Nat.le_refl _⟩, ⟨by first | exact Kd.R_nil _ _ _ _ _ | exact Kd.N_nil _ _ _ _ _ | exact Kd.V_nil _ _ _ _ _ | exact Kd.Q_nil _ _ _ _ _ | exact Kd.S_nil _ _ _ _ _⟩, ⟨bl_ HB⟩⟩
 case round =>
  clear H'
  try clear aM
  try clear aN
  try clear aQ
  try clear aI
  obtain ⟨aC, aE, aG, rfl, rfl, HA, HK1, aH, HB⟩ := hrel
  cases gk with
  | zero => exact absurd HA.out (by simp [assartref01_Put.l0])
  | succ k1 =>
   have H := HA.out
   clear HA
   simp only [assartref01_Put.l0] at H
   by_cases c8 : aG < a1
   case neg =>
    rw [if_neg c8] at H
    have aR := decide_eq_false c8
    clear c8
    obtain rfl := Option.some.inj H
    go_wp2
    go_ret
    exact ⟨_, e_, r_ aH, bl_ HB⟩
   rw [if_pos c8] at H
   have aR := decide_eq_true c8
   clear c8
   by_cases c9 : aE.length < 140737488355328
   case neg => exact no_ c9 H
   rw [if_pos c9] at H
   have LMc9 := Zk c9
   clear c9
   obtain ⟨aT, aD⟩ : ∃ y_ : List Int, y_ = (aE ++ [(Int.tmod aC 256) % 256]) := ⟨_, rfl⟩
   first | replace H := bnd_ aD H | rw [← aD] at H
   have aJ := Zk aD
   clear aD
   have H' := Zk H
   clear H
   go_wp2_with (first | ((with_reducible refine gate_builtin (b := .append) (xs := #[.tmp 28, .tmp 32]) rfl ?_); at_builtin; refine Kd.R_append (Kd.int .u8) (w0 := w) w.heap.size rfl (.tmp 28) (.tmp 32) 54 5 (.int .u8 0) 1 rfl Tryz.underlying54 info5 rfl (by decide) (by omega) u5 aE ((Int.tmod aC 256) % 256) [.int .u8 ((Int.tmod aC 256) % 256)] (fun _ => True) (fun _ => False) rfl rfl ?aP (fun _ hk => hk.elim) ?aF ?aO ?aB ?aS ?aL ?_; (case aP => exact rfl); (case aB => exact (bl_ HB)); (case aF => exact (fun _ _ => trivial)); (case aO => exact (r_ aH)); (case aS => exact (below_size (bl_ HB))); (case aL => have := LMc9.out; omega); intro aU w10 ho hb hg hat; rw [← aJ.out] at ho; replace HB := Zk (hb); have aK := Zk (ho); clear aH; clear ho hb hg hat))
   go_roundg k1
   case measure => have := HK1.out; omega
   case rel => exact ⟨(wrap64 (Int.tdiv aC 256)), (aT), (wrap64 (aG + 1)), q_, q_, H', ⟨by have := HK1.out; omega⟩, ⟨r_ aK⟩, ⟨bl_ HB⟩⟩
end
section
attribute [local go_sem] max2_int min2_int max_two min_two max_three min_three max_four min_four
def assartref01_Seal.l0 : Nat → List Int → Option (ByteArray × Int)
 | 0, _ => none
 | k + 1, x4 => if (x4.length : Int) < 36 then (if x4.length < 140737488355328 then (assartref01_Seal.l0 k (x4 ++ [0])) else (none)) else ((assartref01_Sum.f k x4).bind fun aB => ((assartref01_Put.f k aB 4).bind fun aA => (if x4.length + aA.length < 140737488355328 then (some (strOfNums (x4 ++ aA), 0)) else (none))))
def assartref01_Seal.f (k : Nat) (l0 : List Int) : Option (ByteArray × Int) := if (l0.length : Int) > 36 then (none) else ((some (([] : List Int) : List Int)).bind fun aA => (if aA.length + l0.length < 140737488355328 then (assartref01_Seal.l0 k (aA ++ l0)) else (none)))
theorem assartref01_Seal.calls (k : Nat) (A0 : Option Addr) (c0 : Nat) (l0 : List Int) (r1 : ByteArray) (r2 : Int) (w : World) (hr0 : Kd.C (Kd.int .u8) w A0 l0.length l0) (hc0 : l0.length ≤ c0) (h : assartref01_Seal.f k l0 = some (r1, r2)) :
  Calls Tryz.prog 116 #[.slice A0 l0.length c0] w fun e w' => e = .returned (.tuple #[.string r1, .int .i64 r2]) ∧ Below w.heap.size w w' := by
 have HR0 := Zk hr0
 have HC0 := Zk hc0
 clear hr0 hc0
 have HB := Zk (Below.refl w.heap.size w)
 have H : (if (l0.length : Int) > 36 then (none) else ((some (([] : List Int) : List Int)).bind fun aJ => (if aJ.length + l0.length < 140737488355328 then (assartref01_Seal.l0 k (aJ ++ l0)) else (none)))) = some (r1, r2) := h
 clear h
 by_cases c2 : (l0.length : Int) > 36
 case pos =>
  rw [if_pos c2] at H
  exact absurd H (by simp)
 rw [if_neg c2] at H
 have bD : decide (36 < (l0.length : Int)) = false := decide_eq_false c2
 have bE : decide (36 < l0.length) = false := decide_eq_false (by omega)
 clear c2
 obtain ⟨aJ, aE⟩ : ∃ y_ : List Int, y_ = (([] : List Int)) := ⟨_, rfl⟩
 first | replace H := bnd_ aE H | rw [← aE] at H
 have aM := Zk aE
 clear aE
 by_cases c3 : aJ.length + l0.length < 140737488355328
 case neg => exact no_ c3 H
 rw [if_pos c3] at H
 have LMc3 := Zk c3
 clear c3
 obtain ⟨bF, aG⟩ : ∃ y_ : List Int, y_ = (aJ ++ l0) := ⟨_, rfl⟩
 first | replace H := bnd_ aG H | rw [← aG] at H
 have aT := Zk aG
 clear aG
 have H' := Zk H
 clear H
 go_enter Tryz.func116, Tryz.ntmps116
 go_wp2_with (first | (refine gd_ 8 ?_; refine Kd.R_lit (Kd.int .u8) _ 5 ?hg (N := 8) ?hd (xs := ([] : List Int)) (inner := []) (ok := fun _ => True) (okp := fun _ => True) ?hr ?hp (fun _ hk => hk) trivial (Below.refl _ _) (Nat.le_refl _) (by simp) ?_; (case hd => rfl); (case hg => rfl); (case hr => first | (go_simp; done) | (go_simp; rfl)); (case hp => exact (Reps.none _ _)); intro bG w4 ho5 hb hg_ hnew_; clear hg_ hnew_; (first | rw [← aM.out] at ho5 | (simp only [Int.reduceToNat] at ho5; rw [← aM.out] at ho5)); have aN := Zk (Kd.R_lower ho5 (below_size (bl_ HB))); replace HB := al_ HB hb; clear hb ho5) | ((with_reducible refine gate_builtin (b := .append) (xs := #[.tmp 8, .tmp 9]) rfl ?_); at_builtin; refine Kd.R_append_rows (Kd.int .u8) (w0 := w) w.heap.size rfl (.tmp 8) (.tmp 9) 54 5 (.int .u8 0) 1 rfl Tryz.underlying54 info5 rfl (by decide) (by omega) bG aJ l0 _ _ _ (fun _ => True) (fun _ => False) rfl rfl ?aO ?aR (fun _ _ h => h) (fun _ h => h.elim) ?aF ?aB ?aS ?aL ?_; (case aR => repeat (first | exact (Kd.C_below HR0.out HB.out) | (with_reducible refine Kd.C_alloc ?_ _) | (with_reducible refine Kd.C_drewN ?_ _) | (with_reducible refine Kd.C_drew ?_))); (case aB => exact (bl_ HB)); (case aF => exact (fun _ _ => trivial)); (case aO => exact (r_ aN)); (case aS => exact (below_size (bl_ HB))); (case aL => have := LMc3.out; omega); intro bO w6 ho hb hg hat; rw [← aT.out] at ho; replace HB := Zk (hb); have aU := Zk (ho); clear aN; clear ho hb hg hat))
 go_loopg [4] k (fun kq v4 w' => ∃ (aA : List Int), Aside0 (assartref01_Seal.l0 kq aA = some (r1, r2)) ∧ Aside0 (kq ≤ k) ∧ Aside0 (Kd.R (Kd.int .u8) 5 w' w.heap.size (fun _ => True) v4 aA) ∧ Aside0 (Below w.heap.size w w'))
 case atStart => exact ⟨(bF), H', ⟨Nat.le_refl _⟩, ⟨r_ aU⟩, ⟨bl_ HB⟩⟩
 case round =>
  clear H'
  try clear bD
  try clear bE
  obtain ⟨aA, HA, HK1, aC, HB⟩ := hrel
  cases gk with
  | zero => exact absurd HA.out (by simp [assartref01_Seal.l0])
  | succ k1 =>
   have H := HA.out
   clear HA
   simp only [assartref01_Seal.l0] at H
   by_cases c7 : (aA.length : Int) < 36
   case pos =>
    rw [if_pos c7] at H
    have bH := decide_eq_true c7
    have bI : decide (aA.length < 36) = true := decide_eq_true (by omega)
    clear c7
    by_cases c8 : aA.length < 140737488355328
    case neg => exact no_ c8 H
    rw [if_pos c8] at H
    have LMc8 := Zk c8
    clear c8
    obtain ⟨bJ, aH⟩ : ∃ y_ : List Int, y_ = (aA ++ [0]) := ⟨_, rfl⟩
    first | replace H := bnd_ aH H | rw [← aH] at H
    have aV := Zk aH
    clear aH
    have H' := Zk H
    clear H
    obtain ⟨Ao9, co9, eo9⟩ := Kd.R_slice aC.out
    subst eo9
    go_wp2_with (first | ((with_reducible refine gate_builtin (b := .append) (xs := #[.tmp 14, .tmp 15]) rfl ?_); at_builtin; refine Kd.R_append (Kd.int .u8) (w0 := w) w.heap.size rfl (.tmp 14) (.tmp 15) 54 5 (.int .u8 0) 1 rfl Tryz.underlying54 info5 rfl (by decide) (by omega) (.slice Ao9 aA.length co9) aA 0 [.int .u8 0] (fun _ => True) (fun _ => False) rfl rfl ?aP (fun _ hk => hk.elim) ?aF ?aO ?aB ?aS ?aL ?_; (case aP => exact rfl); (case aB => exact (bl_ HB)); (case aF => exact (fun _ _ => trivial)); (case aO => exact (r_ aC)); (case aS => exact (below_size (bl_ HB))); (case aL => have := LMc8.out; omega); intro bP w10 ho hb hg hat; rw [← aV.out] at ho; replace HB := Zk (hb); have aW := Zk (ho); clear aC; clear ho hb hg hat))
    go_roundg k1
    case measure => have := HK1.out; omega
    case rel => exact ⟨(bJ), H', ⟨by have := HK1.out; omega⟩, ⟨r_ aW⟩, ⟨bl_ HB⟩⟩
   rw [if_neg c7] at H
   have bH := decide_eq_false c7
   have bI : decide (aA.length < 36) = false := decide_eq_false (by omega)
   clear c7
   replace H := Option.bind_eq_some_iff.mp H
   obtain ⟨aQ, aX, H⟩ := H
   (try dsimp only at H)
   have A11 := Zk aX
   clear aX
   replace H := Option.bind_eq_some_iff.mp H
   obtain ⟨aK, aY, H⟩ := H
   (try dsimp only at H)
   have A12 := Zk aY
   clear aY
   by_cases c13 : aA.length + aK.length < 140737488355328
   case neg => exact no_ c13 H
   rw [if_pos c13] at H
   have LMc13 := Zk c13
   clear c13
   obtain ⟨bQ, aI⟩ : ∃ y_ : List Int, y_ = (aA ++ aK) := ⟨_, rfl⟩
   first | replace H := bnd_ aI H | rw [← aI] at H
   have aZ := Zk aI
   clear aI
   simp only [Option.some.injEq, Prod.mk.injEq] at H
   obtain ⟨rfl, rfl⟩ := H
   obtain ⟨bA, bB, bK⟩ := Kd.R_slice aC.out
   subst bK
   go_wp2_with (first | (refine gc_ 118 ?_; refine gl_ 118 (some 19) #[.slice bA aA.length bB] Tryz.func118 ?_; (with_reducible refine (assartref01_Sum.calls k1 _ _ aA aQ _ (ct_ (Kd.R_reads' aC.out).2.2) ((Kd.R_reads' aC.out).2.1) A11.out).mono ?_); rintro e w' ⟨rfl, ⟨nd, rfl⟩⟩; refine ⟨_, rfl, ?_⟩) | (refine gc_ 113 ?_; refine gl_ 113 (some 20) #[.int .i64 aQ, .int .i64 4] Tryz.func113 ?_; (with_reducible refine (assartref01_Put.calls k1 aQ 4 aK _ A12.out).mono ?_); rintro e w15 ⟨bR, rfl, ho0, hb⟩; refine ⟨_, rfl, ?_⟩; have aD := Zk (Kd.R_lower (Kd.R_new' ho0 (Kd.R_lt (r_ aC))) (below_size (bl_ HB))); replace aC := Zk (Kd.R_elder' (r_ aC) (Kd.R_base ho0) hb); replace HB := al_ HB hb; (try clear hb); (try clear ho0); obtain ⟨bL, bM, bN⟩ := Kd.R_slice aD.out; subst bN) | ((with_reducible refine gate_builtin (b := .append) (xs := #[.tmp 17, .tmp 20]) rfl ?_); at_builtin; refine Kd.R_append_rows (Kd.int .u8) (w0 := w) w.heap.size rfl (.tmp 17) (.tmp 20) 54 5 (.int .u8 0) 1 rfl Tryz.underlying54 info5 rfl (by decide) (by omega) (.slice bA aA.length bB) aA aK _ _ _ (fun k_ => some k_ ≠ (.slice bL aK.length bM : Value).ownBlock) (fun _ => False) rfl rfl ?aO ?aR (fun _ _ h => h) (fun _ h => h.elim) ?aF ?aB ?aS ?aL ?_; (case aR => repeat (first | exact (Kd.R_reads' aD.out).2.2 | (with_reducible refine Kd.C_alloc ?_ _) | (with_reducible refine Kd.C_drewN ?_ _) | (with_reducible refine Kd.C_drew ?_))); (case aB => exact (bl_ HB)); (case aF => exact (fun k_ hk => Kd.fresh' (Kd.R_lt (r_ aD)) k_ hk)); (case aO => exact (by (with_reducible repeat (first | apply Kd.R_alloc | apply Kd.R_drewN | apply Kd.R_drew)); exact Kd.R_mono aC.out (fun _ hk => hk.2))); (case aS => exact (below_size (bl_ HB))); (case aL => have := LMc13.out; omega); intro bS w16 ho hb hg hat; rw [← aZ.out] at ho; replace aD := Zk (Kd.R_after (ok := (fun _ => True)) (r_ aD) hg hat); replace HB := Zk (hb); have bC := Zk (ho); clear aC; clear ho hb hg hat; have hcv18 := own_string (P := Tryz.prog) Tryz.underlying54 Tryz.underlying5 Tryz.underlying9 (Kd.own_of_R bC.out)))
   go_ret2
   exact ⟨e_, bl_ HB⟩
end
theorem lit_C (W : World) (e : TypeId) (l : List Int) (m : Nat × Nat) (hl : l.length ≤ 9223372036854775807) : Kd.C (Kd.int .u8) (W.alloc (.cells (encs (Value.int .u8) l).toArray e m)) (some ⟨W.heap.size, 0, none⟩) l.length l := by
 refine Kd.C_of_reads (d := (0 : Int)) ⟨rfl, hl, fun h => ⟨⟨W.heap.size, 0, none⟩, rfl, fun j hj => ?_⟩⟩
 rw [add_plain, World.cell?_alloc_mark]
 have := encs_get (enc := Value.int .u8) (d := (0 : Int)) l j hj
 simpa using this
section
attribute [local go_sem] max2_int min2_int max_two min_two max_three min_three max_four min_four
theorem size_drewN_ (W : World) (n : Nat) : (W.drewN n).heap.size = W.heap.size := rfl
mutual
def node_Parse.j0 : Nat → ByteArray → List Int → Bool → Option (Bool × (List (S84)) × Int)
 | 0, _, _, _ => none
 | k + 1, x0, x4, x23 => if x23 = true then (some (false, ([] : List (S84)), 2)) else (if 0 < (x4.length : Int) then (if 1 < (x4.length : Int) then (node_Parse.l0 k x0 x4 2 (rd x4 1) 0 ((rd x4 0) == 1) ([] : List (S84))) else (none)) else (none))
def node_Parse.l0 : Nat → ByteArray → List Int → Int → Int → Int → Bool → List (S84) → Option (Bool × (List (S84)) × Int)
 | 0, _, _, _, _, _, _, _ => none
 | k + 1, x0, x4, x7, x32, x33, aB, aA => if x33 < x32 then ((num_Take.f k x4 x7 4).bind fun bt736 => ((num_Take.f k x4 bt736.2.1 4).bind fun bt739 => (if aA.length < 8796093022208 then (node_Parse.l0 k x0 x4 bt739.2.1 x32 ((x33 + 1) % 256) aB (aA ++ [(⟨bt736.1, bt739.1⟩ : S84)])) else (none)))) else ((node_Print.f k aB aA).bind fun bt745 => (if bt745.2 = 0 then (if bt745.1.toList = x0.toList then (some (aB, aA, 0)) else (some (false, ([] : List (S84)), 2))) else (some (false, ([] : List (S84)), 2))))
end
def node_Parse.f (k : Nat) (a0 : ByteArray) : Option (Bool × (List (S84)) × Int) := (num_Open.f a0).bind fun bt727 => (if bt727.2 = 0 then (if 1 < (bt727.1.length : Int) then (node_Parse.j0 k a0 bt727.1 (decide ((rd bt727.1 1) > 4))) else (none)) else (node_Parse.j0 k a0 bt727.1 true))
theorem node_Parse.calls (k : Nat) (a0 : ByteArray) (r1 : Bool) (r2 : List (S84)) (r3 : Int) (w : World) (h : node_Parse.f k a0 = some (r1, r2, r3)) :
  Calls Tryz.prog 58 #[.string a0] w fun e w' => ∃ v1_ : Value, e = .returned (.tuple #[.agg #[.bool r1, v1_], .int .i64 r3]) ∧ Kd.R k84 84 w' w.heap.size (fun _ => True) v1_ r2 ∧ Below w.heap.size w w' := by
 have hu63 := Tryz.underlying63
 have hu84 := Tryz.underlying84
 have HB := Zk (Below.refl w.heap.size w)
 have H : ((num_Open.f a0).bind fun bt727 => (if bt727.2 = 0 then (if 1 < (bt727.1.length : Int) then (node_Parse.j0 k a0 bt727.1 (decide ((rd bt727.1 1) > 4))) else (none)) else (node_Parse.j0 k a0 bt727.1 true))) = some (r1, r2, r3) := h
 clear h
 replace H := Option.bind_eq_some_iff.mp H
 obtain ⟨⟨aE, bX⟩, A20, H⟩ := H
 (try dsimp only at H)
 have A2 := Zk A20
 clear A20
 have HC3 := Zk H
 clear H
 go_enter Tryz.func58, Tryz.ntmps58
 go_upto_region 2 with (first | (refine gd_ 2 ?_; refine bx_ 2 #[.bool false, .slice none 0 0] 63 ?_; intro aI hg w4 hbox hb; have aC := Zk (hbox); have fD := gw_ HB hg; replace HB := al_ HB hb; clear hb hbox hg) | (refine gc_ 83 ?_; refine gl_ 83 (some 13) #[.string a0] Tryz.func83 ?_; (with_reducible refine (num_Open.calls a0 aE bX _ A2.out).mono ?_); rintro e w5 ⟨eM, rfl, ho0, hb⟩; refine ⟨_, rfl, ?_⟩; have bB := Zk (Kd.V_lower (Kd.V_mono (ok' := fun k_ => k_ ≠ aI) ho0 (fun k_ hk_ => (Kd.freshB (g := aI) (o := .cells #[.bool false, .slice none 0 0] 63 (0, 0)) (bk_ aC) k_ hk_))) (below_size (bl_ HB))); replace aC := ab_ aC hb; replace HB := al_ HB hb; (try clear hb); (try clear ho0)))
 (try simp only [Act.put, List.setIfInBounds_toArray, List.set_cons_zero, List.set_cons_succ])
 go_cut [23] (fun v23 wc => ∃ (kq : Nat) (bC : Bool), v23 = .bool bC ∧ Aside0 (node_Parse.j0 kq a0 aE bC = some (r1, r2, r3)) ∧ Aside0 (kq ≤ k) ∧ Aside0 (Kd.V (Kd.int .u8) 5 wc w.heap.size (fun k_ => k_ ≠ aI) eM aE) ∧ Aside0 (wc.heap[aI]? = some (.cells #[.bool false, (.slice none 0 0)] 63 (0, 0))) ∧ Aside0 (Below w.heap.size w wc))
 case first =>
  have H := HC3.out
  clear HC3
  by_cases c6 : bX = 0
  case neg =>
   rw [if_neg c6] at H
   have aZ := beq_eq_false_iff_ne.mpr c6
   have bQ := bne_iff_ne.mpr c6
   (first | rw [aZ] | (simp only [i64_w, i32_w]; rw [aZ]) | skip)
   have H' := Zk H
   clear H
   go_wp2
   go_meet
   case rel => exact ⟨_, (true), q_, H', ⟨by first | omega | exact Nat.le_refl _⟩, ⟨v_ bB⟩, ⟨bk_ aC⟩, ⟨bl_ HB⟩⟩
  rw [if_pos c6] at H
  have aZ := beq_iff_eq.mpr c6
  have bQ := bne_eq_false_iff_eq.mpr c6
  clear c6
  (first | rw [aZ] | (simp only [i64_w, i32_w]; rw [aZ]) | skip)
  by_cases c7 : 1 < (aE.length : Int)
  case neg => exact no_ c7 H
  rw [if_pos c7] at H
  have bY := decide_eq_true c7
  have bZ : decide (1 < aE.length) = true := decide_eq_true (by omega)
  clear c7
  have H' := Zk H
  clear H
  obtain ⟨Ao8, co8, eo8⟩ := Kd.V_slice bB.out
  subst eo8
  have bR : 0 ≤ (1 : Int) := (by omega)
  have bI : 1 < (aE.length : Int) := of_decide_eq_true as_
  obtain ⟨fE, eN, aR⟩ := Kd.at_int (Kd.V_reads' bB.out).2.2 1 bR bI
  cases eN
  (try simp only [show (1 : Int).toNat = 1 from rfl, Nat.reduceMul, Nat.reduceEqDiff, Go.Addr.add, ↓reduceIte] at aR)
  have qi731 : (1 < aE.length) = True := eq_true (by omega)
  (try rw [show ((1 : Int)).toNat = 1 from rfl] at aR)
  replace bR := eq_true bR
  replace bI := eq_true bI
  go_wp2
  go_meet
  case rel => exact ⟨_, (decide ((rd aE 1) > 4)), q_, H', ⟨by first | omega | exact Nat.le_refl _⟩, ⟨v_ bB⟩, ⟨bk_ aC⟩, ⟨bl_ HB⟩⟩
 case rest =>
  clear HC3
  try clear aZ
  try clear bQ
  try clear bY
  try clear bZ
  try clear q7
  try clear hx7
  try clear qi7
  try clear aR
  try clear bI
  obtain ⟨kq, bC, rfl, HA, HJ2, aJ, aC, HB⟩ := hcut
  cases kq with
  | zero => exact absurd HA.out (by simp [node_Parse.j0])
  | succ kj2 =>
   have H := HA.out
   clear HA
   simp only [node_Parse.j0] at H
   by_cases c9 : bC = true
   case pos =>
    subst c9
    rw [if_pos rfl] at H
    simp only [Option.some.injEq, Prod.mk.injEq] at H
    obtain ⟨rfl, rfl, rfl⟩ := H
    obtain ⟨cQ, cR, cS, cT⟩ := cf2_ aC
    go_wp2
    refine bodyPost_ret (results_ct rfl _ _ aI 63 #[.bool false, .slice none 0 0] (0, 0) _ rfl (bp_ aC) Tryz.underlying63 rfl (by kernel_rfl)) rfl ?_
    exact ⟨_, e_, by first | exact Kd.R_nil _ _ _ _ _ | exact Kd.N_nil _ _ _ _ _ | exact Kd.V_nil _ _ _ _ _ | exact Kd.Q_nil _ _ _ _ _ | exact Kd.S_nil _ _ _ _ _, bl_ HB⟩
   replace c9 := Bool.eq_false_iff.mpr c9
   subst c9
   rw [if_neg (show ¬ (false = true) by decide)] at H
   by_cases c11 : 0 < (aE.length : Int)
   case neg => exact no_ c11 H
   rw [if_pos c11] at H
   have cA := decide_eq_true c11
   have cB : decide (0 < aE.length) = true := decide_eq_true (by omega)
   clear c11
   by_cases c12 : 1 < (aE.length : Int)
   case neg => exact no_ c12 H
   rw [if_pos c12] at H
   have cC := decide_eq_true c12
   have cD : decide (1 < aE.length) = true := decide_eq_true (by omega)
   clear c12
   have H' := Zk H
   clear H
   obtain ⟨fV, bJ, eO⟩ := Kd.V_slice aJ.out
   subst eO
   have bS : 0 ≤ (0 : Int) := (by omega)
   have bL : 0 < (aE.length : Int) := of_decide_eq_true as_
   obtain ⟨aW, eP, aU⟩ := Kd.at_int (Kd.V_reads' aJ.out).2.2 0 bS bL
   cases eP
   have qi732 : (0 < aE.length) = True := eq_true (by omega)
   (try rw [show ((0 : Int)).toNat = 0 from rfl] at aU)
   (try rw [Addr.add_zero'] at aU)
   replace bS := eq_true bS
   replace bL := eq_true bL
   go_wp2_with (first | (refine gd_ 6 ?_; refine bx_ 6 #[.bool false, .slice none 0 0] 63 ?_; intro aQ hg w14 hbox hb; replace aJ := Zk (Kd.V_below (Kd.V_elderB (v_ aJ) aQ (Nat.le_of_eq hg.symm)) hb); have aG := Zk (hbox); have fF := gw_ HB hg; replace HB := al_ HB hb; have aM := n1_ aC hg; have aN := n2_ aC hg; replace aC := ab_ aC hb; clear hb hbox hg; obtain ⟨fG, fH⟩ := nn_ aN aM; obtain ⟨cU, cV, cW, cX⟩ := cf2_ aG; have bT : 0 ≤ (1 : Int) := (by omega); have bM : 1 < (aE.length : Int) := of_decide_eq_true as_; obtain ⟨cE, eQ, aV⟩ := Kd.at_int (Kd.V_reads' (Kd.V_far (p := ⟨aQ, 1, none⟩) (Kd.V_far (p := ⟨aQ, 0, none⟩) aJ.out (fun _ hk => hk.2) (.bool ((rd aE 0) == 1))) (fun _ hk => hk.2) (.slice none 0 0))).2.2 1 bT bM; obtain rfl : aW = cE := (by injection eQ); (try simp only [show (1 : Int).toNat = 1 from rfl, Nat.reduceMul, Nat.reduceEqDiff, Go.Addr.add, ↓reduceIte] at aV); have qi734 : (1 < aE.length) = True := eq_true (by omega); (try rw [show ((1 : Int)).toNat = 1 from rfl] at aV); replace bT := eq_true bT; replace bM := eq_true bM))
   go_loopg [7, 33] kj2 (fun kq v7 v33 w' => ∃ (bK : Int) (aX : Int) (aD : List (S84)) (aH : Value), v7 = .int .i64 bK ∧ v33 = .int .u8 aX ∧ Aside0 (node_Parse.l0 kq a0 aE bK (rd aE 1) aX ((rd aE 0) == 1) aD = some (r1, r2, r3)) ∧ Aside0 (kq ≤ kj2) ∧ Aside0 (Kd.V (Kd.int .u8) 5 w' w.heap.size (fun k_ => some k_ ≠ (aH : Value).ownBlock ∧ k_ ≠ aI ∧ k_ ≠ aQ) (.slice (some aW) aE.length bJ) aE) ∧ Aside0 (Kd.R k84 84 w' w.heap.size (fun _ => True) aH aD) ∧ Aside0 (w'.heap[aI]? = some (.cells #[.bool false, (.slice none 0 0)] 63 (0, 0))) ∧ Aside0 (w'.heap[aQ]? = some (.cells #[.bool ((rd aE 0) == 1), aH] 63 (0, 0))) ∧ Aside0 (Below w.heap.size w w'))
   case atStart => exact ⟨(2), (0), (([] : List (S84))), (.slice none 0 0), q_, q_, H', ⟨Nat.le_refl _⟩, ⟨vg_ (Kd.V_mono aJ.out (fun k_ hk => (⟨hk, hk.2⟩ : _ ∧ k_ ≠ aQ))) (fun _ hk => ⟨(by simp [Value.ownBlock]), ⟨hk.1.1, hk.1.2⟩⟩)⟩, ⟨by first | exact Kd.R_nil _ _ _ _ _ | exact Kd.N_nil _ _ _ _ _ | exact Kd.V_nil _ _ _ _ _ | exact Kd.Q_nil _ _ _ _ _ | exact Kd.S_nil _ _ _ _ _⟩, ⟨bk_ aC⟩, ⟨bp_ aG⟩, ⟨bl_ HB⟩⟩
   case round =>
    clear H'
    try clear aZ
    try clear bQ
    try clear bY
    try clear bZ
    try clear q7
    try clear hx7
    try clear qi7
    try clear cA
    try clear cB
    try clear cC
    try clear cD
    try clear aR
    try clear aU
    try clear aV
    try clear q7
    try clear bI
    try clear bL
    try clear bM
    obtain ⟨bK, aX, aD, aH, rfl, rfl, HA, HK2, aJ, aA, aC, aG, HB⟩ := hrel
    cases gk with
    | zero => exact absurd HA.out (by simp [node_Parse.l0])
    | succ k2 =>
     have H := HA.out
     clear HA
     simp only [node_Parse.l0] at H
     by_cases c17 : aX < (rd aE 1)
     case neg =>
      rw [if_neg c17] at H
      have cF := decide_eq_false c17
      clear c17
      replace H := Option.bind_eq_some_iff.mp H
      obtain ⟨⟨bN, bO⟩, cG, H⟩ := H
      (try dsimp only at H)
      have A30 := Zk cG
      clear cG
      by_cases c31 : bO = 0
      case neg =>
       rw [if_neg c31] at H
       have cH := beq_eq_false_iff_ne.mpr c31
       have cI := bne_iff_ne.mpr c31
       simp only [Option.some.injEq, Prod.mk.injEq] at H
       obtain ⟨rfl, rfl, rfl⟩ := H
       obtain ⟨fI, fJ⟩ := nn_ aN aM
       obtain ⟨cY, cZ, dA, dB⟩ := cf2_ aG
       obtain ⟨eR, eS, eT⟩ := Kd.R_slice aA.out
       subst eT
       go_wp2_with (first | (refine gc_ 84 ?_; refine gl_ 84 (some 60) #[.agg #[.bool ((rd aE 0) == 1), .slice eR aD.length eS]] Tryz.func84 ?_; (with_reducible refine (node_Print.calls k2 ((rd aE 0) == 1) _ _ aD bN bO _ (ct_ (Kd.R_reads' aA.out).2.2) ((Kd.R_reads' aA.out).2.1) A30.out).mono ?_); rintro e w47 ⟨rfl, hb⟩; refine ⟨_, rfl, ?_⟩; replace aJ := Zk (Kd.V_below (v_ aJ) hb); replace aA := ar_ aA hb; replace aC := ab_ aC hb; replace aG := ab_ aG hb; replace HB := al_ HB hb; (try clear hb); obtain ⟨dC, dD, dE, dF⟩ := cf2_ aC))
       refine bodyPost_ret (results_ct rfl _ _ aI 63 #[.bool false, .slice none 0 0] (0, 0) _ rfl (bp_ aC) Tryz.underlying63 rfl (by kernel_rfl)) rfl ?_
       exact ⟨_, e_, by first | exact Kd.R_nil _ _ _ _ _ | exact Kd.N_nil _ _ _ _ _ | exact Kd.V_nil _ _ _ _ _ | exact Kd.Q_nil _ _ _ _ _ | exact Kd.S_nil _ _ _ _ _, bl_ HB⟩
      rw [if_pos c31] at H
      have cH := beq_iff_eq.mpr c31
      have cI := bne_eq_false_iff_eq.mpr c31
      clear c31
      by_cases c32 : bN.toList = a0.toList
      case neg =>
       rw [if_neg c32] at H
       have cJ := beq_eq_false_iff_ne.mpr c32
       have cK := bne_iff_ne.mpr c32
       simp only [Option.some.injEq, Prod.mk.injEq] at H
       obtain ⟨rfl, rfl, rfl⟩ := H
       obtain ⟨fK, fL⟩ := nn_ aN aM
       obtain ⟨dG, dH, dI, dJ⟩ := cf2_ aG
       obtain ⟨eU, eV, eW⟩ := Kd.R_slice aA.out
       subst eW
       go_wp2_with (first | (refine gc_ 84 ?_; refine gl_ 84 (some 60) #[.agg #[.bool ((rd aE 0) == 1), .slice eU aD.length eV]] Tryz.func84 ?_; (with_reducible refine (node_Print.calls k2 ((rd aE 0) == 1) _ _ aD bN bO _ (ct_ (Kd.R_reads' aA.out).2.2) ((Kd.R_reads' aA.out).2.1) A30.out).mono ?_); rintro e w42 ⟨rfl, hb⟩; refine ⟨_, rfl, ?_⟩; replace aJ := Zk (Kd.V_below (v_ aJ) hb); replace aA := ar_ aA hb; replace aC := ab_ aC hb; replace aG := ab_ aG hb; replace HB := al_ HB hb; (try clear hb); obtain ⟨dK, dL, dM, dN⟩ := cf2_ aC))
       refine bodyPost_ret (results_ct rfl _ _ aI 63 #[.bool false, .slice none 0 0] (0, 0) _ rfl (bp_ aC) Tryz.underlying63 rfl (by kernel_rfl)) rfl ?_
       exact ⟨_, e_, by first | exact Kd.R_nil _ _ _ _ _ | exact Kd.N_nil _ _ _ _ _ | exact Kd.V_nil _ _ _ _ _ | exact Kd.Q_nil _ _ _ _ _ | exact Kd.S_nil _ _ _ _ _, bl_ HB⟩
      rw [if_pos c32] at H
      have cJ := beq_iff_eq.mpr c32
      have cK := bne_eq_false_iff_eq.mpr c32
      clear c32
      simp only [Option.some.injEq, Prod.mk.injEq] at H
      obtain ⟨rfl, rfl, rfl⟩ := H
      obtain ⟨fM, fN⟩ := nn_ aN aM
      obtain ⟨dO, dP, dQ, dR⟩ := cf2_ aG
      obtain ⟨bU, bV, eX⟩ := Kd.R_slice aA.out
      subst eX
      go_wp2_with (first | (refine gc_ 84 ?_; refine gl_ 84 (some 60) #[.agg #[.bool ((rd aE 0) == 1), .slice bU aD.length bV]] Tryz.func84 ?_; (with_reducible refine (node_Print.calls k2 ((rd aE 0) == 1) _ _ aD bN bO _ (ct_ (Kd.R_reads' aA.out).2.2) ((Kd.R_reads' aA.out).2.1) A30.out).mono ?_); rintro e w36 ⟨rfl, hb⟩; refine ⟨_, rfl, ?_⟩; replace aJ := Zk (Kd.V_below (v_ aJ) hb); replace aA := ar_ aA hb; replace aC := ab_ aC hb; replace aG := ab_ aG hb; replace HB := al_ HB hb; (try clear hb); obtain ⟨dS, dT, dU, dV⟩ := cf2_ aG; obtain ⟨dW, dX, dY, dZ⟩ := cf2_ aC))
      refine bodyPost_ret (results_ct rfl _ _ aI 63 #[.bool ((rd aE 0) == 1), .slice bU aD.length bV] (0, 0) _ rfl (bp_ aC) Tryz.underlying63 rfl (by kernel_rfl)) rfl ?_
      exact ⟨_, e_, by (with_reducible repeat (first | apply Kd.R_alloc | apply Kd.R_drewN | apply Kd.R_drew)); exact Kd.R_mono (Kd.R_far (p := ⟨aI, 1, none⟩) (Kd.R_far (p := ⟨aI, 0, none⟩) (Kd.R_types aA.out aC.out (by decide)) (fun _ hk => hk.2) (.bool ((rd aE 0) == 1))) (fun _ hk => hk.2) (.slice bU aD.length bV)) (fun _ hk => trivial), bl_ HB⟩
     rw [if_pos c17] at H
     have cF := decide_eq_true c17
     clear c17
     replace H := Option.bind_eq_some_iff.mp H
     obtain ⟨⟨aY, bW, eY⟩, cL, H⟩ := H
     (try dsimp only at H)
     have A18 := Zk cL
     clear cL
     replace H := Option.bind_eq_some_iff.mp H
     obtain ⟨⟨bA, cM, eZ⟩, cN, H⟩ := H
     (try dsimp only at H)
     have A19 := Zk cN
     clear cN
     by_cases c20 : aD.length < 8796093022208
     case neg => exact no_ c20 H
     rw [if_pos c20] at H
     have LMc20 := Zk c20
     clear c20
     obtain ⟨cO, bD⟩ : ∃ y_ : List (S84), y_ = (aD ++ [(⟨aY, bA⟩ : S84)]) := ⟨_, rfl⟩
     first | replace H := bnd_ bD H | rw [← bD] at H
     have cP := Zk bD
     clear bD
     have H' := Zk H
     clear H
     go_wp2_with (first | (refine gd_ 8 ?_; refine bx_ 8 #[.int .i64 0, .int .i64 0] 84 ?_; intro aK hg w21 hbox hb; replace aJ := Zk (Kd.V_below (Kd.V_elderB (v_ aJ) aK (Nat.le_of_eq hg.symm)) hb); replace aA := Zk (Kd.R_below (Kd.R_elderB (r_ aA) aK (Nat.le_of_eq hg.symm)) hb); have aT := Zk (hbox); have fO := gw_ HB hg; replace HB := al_ HB hb; have bE := n1_ aC hg; have bF := n2_ aC hg; replace aC := ab_ aC hb; have bG := n1_ aG hg; have bH := n2_ aG hg; replace aG := ab_ aG hb; clear hb hbox hg) | (refine gc_ 81 ?_; refine gl_ 81 (some 38) #[.slice (some aW) aE.length bJ, .int .i64 bK, .int .i64 4] Tryz.func81 ?_; (with_reducible refine (num_Take.calls k2 _ _ aE bK 4 aY bW eY _ (ct_ (Kd.V_reads' aJ.out).2.2) ((Kd.V_reads' aJ.out).2.1) A18.out).mono ?_); rintro e w' ⟨rfl, ⟨nd, rfl⟩⟩; refine ⟨_, rfl, ?_⟩; (try (rw [drewN_self w21]; generalize hq_ : World.drewN w21 _ = w21; have n0_ : Aside0 (Kd.V (Kd.int .u8) 5 w21 w.heap.size (fun k_ => some k_ ≠ (aH : Value).ownBlock ∧ k_ ≠ aI ∧ k_ ≠ aQ ∧ k_ ≠ aK) (.slice (some aW) aE.length bJ) aE) := ⟨by rw [← hq_]; exact (by (with_reducible repeat (first | apply Kd.V_alloc | apply Kd.V_drewN | apply Kd.V_drew)); exact Kd.V_mono aJ.out (fun _ hk => ⟨hk.1.1, ⟨hk.1.2.1, ⟨hk.1.2.2, hk.2⟩⟩⟩))⟩; have n1_ : Aside0 (Kd.R k84 84 w21 w.heap.size (fun k_ => k_ ≠ aK) aH aD) := ⟨by rw [← hq_]; exact (by (with_reducible repeat (first | apply Kd.R_alloc | apply Kd.R_drewN | apply Kd.R_drew)); exact Kd.R_mono aA.out (fun _ hk => hk.2))⟩; have n2_ : Aside0 (w21.heap[aI]? = some (.cells #[.bool false, .slice none 0 0] 63 (0, 0))) := ⟨by rw [← hq_]; exact (bk_ aC)⟩; have n3_ : Aside0 (w21.heap[aQ]? = some (.cells #[.bool ((rd aE 0) == 1), aH] 63 (0, 0))) := ⟨by rw [← hq_]; exact (bk_ aG)⟩; have n4_ : Aside0 (w21.heap[aK]? = some (.cells #[.int .i64 0, .int .i64 0] 84 (0, 0))) := ⟨by rw [← hq_]; exact (bk_ aT)⟩; have n5_ : Aside0 (Below w.heap.size w w21) := ⟨by rw [← hq_]; exact (bl_ HB)⟩; clear aJ aA aC aG aT HB hq_; have aJ := n0_; have aA := n1_; have aC := n2_; have aG := n3_; have aT := n4_; have HB := n5_; clear n0_ n1_ n2_ n3_ n4_ n5_)); obtain ⟨fP, fQ⟩ := nn_ bF bE; obtain ⟨fR, fS⟩ := nn_ bH bG; obtain ⟨eA, eB, eC, eD⟩ := cf2_ aT) | (refine gc_ 81 ?_; refine gl_ 81 (some 46) #[.slice (some aW) aE.length bJ, .int .i64 bW, .int .i64 4] Tryz.func81 ?_; (with_reducible refine (num_Take.calls k2 _ _ aE bW 4 bA cM eZ _ ?side1 ((Kd.V_reads' aJ.out).2.1) A19.out).mono ?_); (case side1 => refine (Kd.V_reads' (e := 5) (base := w.heap.size) (ok := fun k_ => ((some k_ ≠ (aH : Value).ownBlock ∧ (k_ ≠ aI ∧ k_ ≠ aQ)) ∧ k_ ≠ aK)) (n := aE.length) (c := bJ) ?_).2.2; exact (vg_ (Kd.V_mono aJ.out (fun k_ hk => (⟨⟨⟨hk.1, hk.2.1, hk.2.2.1⟩, hk.2.2.2⟩, hk.2.2.2⟩ : ((_ ∧ _ ∧ _) ∧ _) ∧ k_ ≠ aK))) (fun _ h_ => h_.1))); rintro e w' ⟨rfl, ⟨nd, rfl⟩⟩; refine ⟨_, rfl, ?_⟩; obtain ⟨fT, fU⟩ := nn_ aN aM; obtain ⟨eE, eF, eG, eH⟩ := cf2_ aG) | ((with_reducible refine gate_builtin (b := .append) (xs := #[.tmp 52, .tmp 54]) rfl ?_); at_builtin; refine Kd.R_append k84 (w0 := w) w.heap.size rfl (.tmp 52) (.tmp 54) 61 84 (.agg #[(.int .i64 0), (.int .i64 0)]) 16 rfl Tryz.underlying61 info84 rfl (by decide) (by omega) aH aD (⟨aY, bA⟩ : S84) [.int .i64 aY, .int .i64 bA] (fun k_ => k_ ≠ aK) (fun _ => False) rfl (by show Value.slice (some ⟨w21.heap.size, 0, none⟩) 1 1 = _; rw [World.size_setCell, size_drewN_, World.size_setCell]) ?aP (fun _ hk => hk.elim) ?aF ?aO ?aB ?aS ?aL ?_; (case aP => exact k84_mkM _ _ _ (⟨aY, bA⟩ : S84)); (case aB => exact (bl_ HB)); (case aF => exact (fun k_ hk => Kd.freshB (g := aK) (o := .cells #[.int .i64 aY, .int .i64 bA] 84 (0, 0)) (bp_ aT) k_ hk)); (case aO => exact (rg_ (Kd.R_mono aA.out (fun k_ hk => (⟨⟨trivial, hk⟩, hk⟩ : (True ∧ _) ∧ k_ ≠ aK))) (fun _ hk => hk.1.2))); (case aS => exact (below_size (bl_ HB))); (case aL => have := LMc20.out; omega); intro fW w27 ho hb hg hat; rw [← cP.out] at ho; replace aJ := Zk (Kd.V_afterv (ok := (fun k_ => k_ ≠ aI ∧ k_ ≠ aQ ∧ k_ ≠ aK)) (vg_ (Kd.V_drewN (Kd.V_far (p := ⟨aK, 0, none⟩) (Kd.V_mono aJ.out (fun k_ hk => (⟨⟨⟨hk.1, hk.2.1, hk.2.2.1⟩, hk.2.2.2⟩, hk.2.2.2⟩ : ((_ ∧ _ ∧ _) ∧ _) ∧ k_ ≠ aK))) (fun _ hk => hk.2) (.int .i64 aY)) nd) (fun _ hk => ⟨⟨hk.1.1.2.1, ⟨hk.1.1.2.2, hk.1.2⟩⟩, hk.1.1.1⟩)) hg hat); replace aC := Zk (blk_grown (g := aI) (o := .cells #[.bool false, .slice none 0 0] 63 (0, 0)) (bk_ aC) hg (Kd.R_ne aA.out aC.out (by decide))); replace aG := Zk (blk_grown (g := aQ) (o := .cells #[.bool ((rd aE 0) == 1), aH] 63 (0, 0)) (bk_ aG) hg (Kd.R_ne aA.out aG.out (by decide))); replace aT := Zk (blk_grown (g := aK) (o := .cells #[.int .i64 aY, .int .i64 bA] 84 (0, 0)) (bp_ aT) hg (Kd.R_away aA.out (fun _ hk => hk))); replace HB := Zk (hb); have bP := Zk (ho); clear aA; clear ho hb hg hat; obtain ⟨fA, fB, fC⟩ := Kd.R_slice bP.out; subst fC; obtain ⟨eI, eJ, eK, eL⟩ := cf2_ aG))
     go_roundg k2
     case measure => have := HJ2.out; have := HK2.out; omega
     case rel => exact ⟨(cM), ((aX + 1) % 256), (cO), (.slice fA cO.length fB), q_, q_, H', ⟨by have := HJ2.out; have := HK2.out; omega⟩, ⟨vg_ (Kd.V_mono aJ.out (fun k_ hk => (⟨hk, hk.1.2.1⟩ : _ ∧ k_ ≠ aQ))) (fun _ hk => ⟨hk.1.2, ⟨hk.1.1.1, hk.1.1.2.1⟩⟩)⟩, ⟨rg_ (Kd.R_types bP.out aG.out (by decide)) (fun _ hk => trivial)⟩, ⟨bk_ aC⟩, ⟨bp_ aG⟩, ⟨bl_ HB⟩⟩
end
theorem toListN_inj {x y : ByteArray} (h : x.toList = y.toList) : x = y := by
 rw [ByteArray.toList_eq, ByteArray.toList_eq] at h
 cases x; cases y
 simp at h
 rw [h]
def bodyN (l : List S84) : List Int := (l.map fun x => le x.f0 4 ++ le x.f1 4).flatten
def rowN (leaf : Bool) (l : List S84) : List Int := [if leaf = true then 1 else 2, (l.length : Int) % 256] ++ bodyN l
theorem le4_length (n : Int) : (le n 4).length = 4 := by simp [le, le4]
theorem bodyN_len (l : List S84) : (bodyN l).length = 8 * l.length := by
 induction l with
 | nil => rfl
 | cons x l ih =>
  show (le x.f0 4 ++ le x.f1 4 ++ bodyN l).length = _
  rw [List.length_append, List.length_append, le4_length, le4_length, ih, List.length_cons]
  omega
theorem rowN_len (leaf : Bool) (l : List S84) : (rowN leaf l).length = 2 + 8 * l.length := by
 unfold rowN
 rw [List.length_append, bodyN_len]
 simp
def Fit4 (l : List S84) : Prop := ∀ y ∈ l, 0 ≤ y.f0 ∧ y.f0 ≤ 2147483647 ∧ 0 ≤ y.f1 ∧ y.f1 ≤ 2147483647
theorem fit4_right {l : List S84} (h : RtN l) : Fit4 l := by
 intro y hy
 obtain ⟨i, hi, rfl⟩ := List.getElem_of_mem hy
 have := h.2.2 i hi (by omega)
 unfold okAt kAt vAt at this
 rw [rd_eq l i hi] at this
 exact ⟨this.1, this.2.1, this.2.2.1, this.2.2.2.1⟩
theorem put4 (k : Nat) (n : Int) (h0 : 0 ≤ n) (h1 : n ≤ 2147483647) (hk : 6 ≤ k) : num_Put.f k n 4 = some (le n 4) := by
 obtain ⟨k, rfl⟩ : ∃ m, k = m + 6 := ⟨k - 6, by omega⟩
 have h256 : ((256 : Int) ^ (4 : Int).toNat) = 4294967296 := rfl
 exact Put_val k n 4 (by omega) (by omega) h0 (by omega)
theorem take4 (k : Nat) (l : List Int) (a : Int) (hl : l.length ≤ 1000) (hb : ∀ x ∈ l, 0 ≤ x ∧ x < 256) (h0 : 0 ≤ a) (ha : a + 4 ≤ l.length) (hk : 6 ≤ k) : num_Take.f k l a 4 = some (lev l a 4, a + 4, 0) := by
 obtain ⟨k, rfl⟩ : ∃ m, k = m + 6 := ⟨k - 6, by omega⟩
 exact Take_val k l a 4 (by omega) hb (by omega) (by omega) h0 ha
theorem bodyN_step (l : List S84) (j : Nat) (h : j < l.length) : bodyN (l.drop j) = le l[j].f0 4 ++ le l[j].f1 4 ++ bodyN (l.drop (j + 1)) := by
 rw [List.drop_eq_getElem_cons h]
 rfl
theorem print04_l0 (l : List S84) (hf : Fit4 l) (hl : l.length ≤ 4) : ∀ (d k j : Nat) (acc : List Int), j + d = l.length → d + 10 < k → acc.length + 8 * d ≤ 100 →
  node_Print.l0 k acc l (l.length : Int) (j : Int) = (num_Seal.f (acc ++ bodyN (l.drop j))).bind fun b => some (b.1, b.2) := by
 intro d
 induction d with
 | zero =>
  intro k j acc hj hk ha
  obtain ⟨k, rfl⟩ : ∃ m, k = m + 1 := ⟨k - 1, by omega⟩
  obtain rfl : j = l.length := by omega
  simp only [node_Print.l0]
  rw [if_neg (by omega), List.drop_length]
  simp [bodyN]
 | succ d ih =>
  intro k j acc hj hk ha
  obtain ⟨k, rfl⟩ : ∃ m, k = m + 1 := ⟨k - 1, by omega⟩
  have hlt : j < l.length := by omega
  have hb := hf l[j] (List.getElem_mem hlt)
  simp only [node_Print.l0]
  rw [if_pos (by omega), if_pos (by omega), if_pos (by omega), rd_eq l j hlt, put4 k _ hb.1 hb.2.1 (by omega), Option.bind_some, put4 k _ hb.2.2.1 hb.2.2.2 (by omega), Option.bind_some]
  have hfl : [acc, le l[j].f0 4, le l[j].f1 4].flatten = acc ++ le l[j].f0 4 ++ le l[j].f1 4 := by simp
  have hlen : (acc ++ le l[j].f0 4 ++ le l[j].f1 4).length = acc.length + 8 := by rw [List.length_append, List.length_append, le4_length, le4_length]
  unfold slices_Concat_byte_byte.f
  rw [hfl, if_pos (by rw [hlen]; simp; omega), Option.bind_some, wsucc j (by omega), ih k (j + 1) _ (by omega) (by omega) (by rw [hlen]; omega), bodyN_step l j hlt]
  simp only [List.append_assoc]
def blkN (leaf : Bool) (l : List S84) : ByteArray := strOfNums (pad (rowN leaf l) ++ le (crc (pad (rowN leaf l))) 4)
theorem seal_rowN (leaf : Bool) (l : List S84) (h : l.length ≤ 4) : num_Seal.f (rowN leaf l) = some (blkN leaf l, 0) := by
 unfold num_Seal.f
 rw [if_neg (by rw [rowN_len]; omega)]
 rfl
theorem printN_ok (leaf : Bool) {l : List S84} (h : RtN l) (k : Nat) (hk : 30 < k) : node_Print.f k leaf l = some (blkN leaf l, 0) := by
 have hlen := h.2.1
 have key : ∀ acc : List Int, acc.length = 2 → acc ++ bodyN l = rowN leaf l → node_Print.j0 k acc leaf l = some (blkN leaf l, 0) := by
  intro acc ha he
  obtain ⟨k, rfl⟩ : ∃ m, k = m + 1 := ⟨k - 1, by omega⟩
  simp only [node_Print.j0]
  have := print04_l0 l (fit4_right h) hlen l.length k 0 acc (by omega) (by omega) (by omega)
  rw [show ((0 : Nat) : Int) = 0 from rfl, List.drop_zero, he, seal_rowN leaf l hlen] at this
  rw [this]
  rfl
 unfold node_Print.f
 rw [right04_val leaf l k (by omega), Option.bind_some, if_pos (decide_eq_true h), Option.bind_some]
 cases leaf with
 | true =>
  rw [if_pos rfl, if_pos (by simp)]
  exact key _ (by simp) rfl
 | false =>
  rw [if_neg (by simp)]
  exact key _ (by simp) rfl
theorem printN_bad (leaf : Bool) {l : List S84} (h : ¬ RtN l) (k : Nat) (hk : 6 ≤ k) : node_Print.f k leaf l = some (⟨#[]⟩, 1) := by
 unfold node_Print.f
 rw [right04_val leaf l k hk, Option.bind_some, if_neg (by simpa using h)]
def itemsOf (own : List Int) (n : Nat) : List S84 := (List.range n).map fun i => ⟨lev own (2 + 8 * (i : Nat)) 4, lev own (6 + 8 * (i : Nat)) 4⟩
theorem itemsOf_succ (own : List Int) (n : Nat) : itemsOf own (n + 1) = itemsOf own n ++ [⟨lev own (2 + 8 * (n : Nat)) 4, lev own (6 + 8 * (n : Nat)) 4⟩] := by
 unfold itemsOf
 rw [List.range_succ, List.map_append]
 rfl
theorem itemsOf_len (own : List Int) (n : Nat) : (itemsOf own n).length = n := by simp [itemsOf]
def endN (s : ByteArray) (leaf : Bool) (it : List S84) : Option (Bool × List S84 × Int) :=
 if RtN it ∧ (blkN leaf it).toList = s.toList then some (leaf, it, 0) else some (false, [], 2)
theorem parse04_l0 (s : ByteArray) (own : List Int) (leaf : Bool) (hown : own.length = 36) (hb : ∀ x ∈ own, 0 ≤ x ∧ x < 256) (n : Nat) (hn : n ≤ 4) : ∀ (d k i : Nat), i + d = n → d + 50 < k →
  node_Parse.l0 k s own (2 + 8 * (i : Nat)) (n : Int) (i : Int) leaf (itemsOf own i) = endN s leaf (itemsOf own n) := by
 intro d
 induction d with
 | zero =>
  intro k i hi hk
  obtain ⟨k, rfl⟩ : ∃ m, k = m + 1 := ⟨k - 1, by omega⟩
  obtain rfl : i = n := by omega
  simp only [node_Parse.l0]
  rw [if_neg (by omega)]
  unfold endN
  by_cases hr : RtN (itemsOf own i)
  case neg => rw [printN_bad leaf hr k (by omega), Option.bind_some, if_neg (by simp), if_neg fun h => hr h.1]
  rw [printN_ok leaf hr k (by omega), Option.bind_some, if_pos rfl]
  by_cases hs : (blkN leaf (itemsOf own i)).toList = s.toList
  case pos => rw [if_pos hs, if_pos ⟨hr, hs⟩]
  rw [if_neg hs, if_neg fun h => hs h.2]
 | succ d ih =>
  intro k i hi hk
  obtain ⟨k, rfl⟩ : ∃ m, k = m + 1 := ⟨k - 1, by omega⟩
  have hm : ((i : Int) + 1) % 256 = ((i + 1 : Nat) : Int) := by omega
  have ha : (2 : Int) + 8 * ((i : Nat) : Int) + 4 + 4 = 2 + 8 * ((i + 1 : Nat) : Int) := by omega
  have hb6 : (2 : Int) + 8 * ((i : Nat) : Int) + 4 = 6 + 8 * ((i : Nat) : Int) := by omega
  have hi2 := itemsOf_succ own i
  have hil := itemsOf_len own i
  have ih' := ih k (i + 1) (by omega) (by omega)
  simp only [node_Parse.l0]
  rw [if_pos (by omega), take4 k own _ (by omega) hb (by omega) (by omega) (by omega), Option.bind_some]
  dsimp only
  rw [take4 k own _ (by omega) hb (by omega) (by omega) (by omega), Option.bind_some]
  dsimp only
  rw [if_pos (by omega), hm, ha, hb6, ← hi2, ih']
def parseN (s : ByteArray) : Option (Bool × List S84 × Int) :=
 if isSealed (bytesOf s) = true ∧ rd ((bytesOf s).take 36) 1 ≤ 4 then endN s (rd ((bytesOf s).take 36) 0 == 1) (itemsOf ((bytesOf s).take 36) (rd ((bytesOf s).take 36) 1).toNat) else some (false, [], 2)
theorem own_facts {s : ByteArray} (hs : isSealed (bytesOf s) = true) : ((bytesOf s).take 36).length = 36 ∧ (∀ x ∈ (bytesOf s).take 36, 0 ≤ x ∧ x < 256) := by
 refine ⟨?_, fun x hx => bytesOf_bd s x (List.mem_of_mem_take hx)⟩
 unfold isSealed at hs
 simp only [Bool.and_eq_true, decide_eq_true_eq] at hs
 rw [List.length_take, hs.1]
 rfl
theorem rd_own {own : List Int} (hl : own.length = 36) (hb : ∀ x ∈ own, 0 ≤ x ∧ x < 256) : 0 ≤ rd own 1 ∧ rd own 1 < 256 := by
 have : rd own 1 = own[1] := by simp [rd, hl]
 rw [this]
 exact hb _ (List.getElem_mem _)
theorem parseN_val (s : ByteArray) (k : Nat) (hk : 100 < k) : node_Parse.f k s = parseN s := by
 unfold node_Parse.f parseN
 obtain ⟨k, rfl⟩ : ∃ m, k = m + 1 := ⟨k - 1, by omega⟩
 by_cases hs : isSealed (bytesOf s) = true
 case neg =>
  have ho : num_Open.f s = some ([], 2) := by unfold num_Open.f; rw [if_neg hs]
  rw [ho, Option.bind_some, if_neg (by simp), if_neg fun h => hs h.1]
  simp only [node_Parse.j0]
  rw [if_pos trivial]
 have ho : num_Open.f s = some ((bytesOf s).take 36, 0) := by unfold num_Open.f; rw [if_pos hs]
 obtain ⟨hl, hb⟩ := own_facts hs
 rw [ho, Option.bind_some, if_pos rfl]
 generalize (bytesOf s).take 36 = own at hl hb ⊢
 obtain ⟨h0, h1⟩ := rd_own hl hb
 rw [if_pos (by show 1 < (own.length : Int); omega)]
 simp only [node_Parse.j0]
 by_cases h4 : rd own 1 ≤ 4
 case neg => rw [decide_eq_true (by omega), if_pos rfl, if_neg fun h => h4 h.2]
 rw [decide_eq_false (by omega), if_neg (by simp), if_pos (by omega), if_pos (by omega), if_pos ⟨hs, h4⟩]
 have := parse04_l0 s own (rd own 0 == 1) hl hb (rd own 1).toNat (by omega) (rd own 1).toNat k 0 (by omega) (by omega)
 rw [Int.toNat_of_nonneg h0] at this
 exact this
theorem parseN_cases (s : ByteArray) : parseN s = some (false, [], 2) ∨ ∃ leaf it, RtN it ∧ blkN leaf it = s ∧ parseN s = some (leaf, it, 0) := by
 unfold parseN
 split
 ·unfold endN
  split
  ·rename_i h
   exact .inr ⟨_, _, h.1, toListN_inj h.2, rfl⟩
  ·exact .inl rfl
 ·exact .inl rfl
theorem Put_nil (n : Int) (w : World) (h : n < 0 ∨ 4294967296 ≤ n) : Calls Tryz.prog 106 #[.int .i64 n, .int .i64 4] w fun e w' => e = .returned (.slice none 0 0) ∧ Below w.heap.size w w' := by
 by_cases h0 : n < 0
 case pos =>
  have d0 : decide (n < 0) = true := by simpa using h0
  go_enter Tryz.func106, Tryz.ntmps106
  go_wp2_with fail
  refine (num_isWide.calls 4 true _ rfl).mono ?_
  rintro e wa ⟨rfl, ⟨nd, rfl⟩⟩
  go_wp2
  go_ret
  exact ⟨rfl, pw_below_drewN (Below.refl _ _) _⟩
 have d0 : decide (n < 0) = false := by simpa using h0
 have d1 : decide ((0 : Int) < n / 4294967296) = true := by simp; omega
 go_enter Tryz.func106, Tryz.ntmps106
 go_wp2_with fail
 refine (num_isWide.calls 4 true _ rfl).mono ?_
 rintro e wa ⟨rfl, ⟨nd, rfl⟩⟩
 go_wp2
 go_ret
 exact ⟨rfl, pw_below_drewN (Below.refl _ _) _⟩
theorem R_some {e : Nat} {w : World} {base : Nat} {ok : Nat → Prop} {v : Value} {xs : List Int} (h : Kd.R (Kd.int .u8) e w base ok v xs) (hx : xs ≠ []) : ∃ (A : Addr) (n c : Nat), v = .slice (some A) n c := by
 obtain ⟨_, inner, ho, _⟩ := h
 rcases ho.2 with h2 | ⟨g, cap, cur, rfl, _⟩
 ·exfalso
  have := h2.2
  simp at this
  exact hx this
 ·exact ⟨_, _, _, rfl⟩
def slot_Right.f (a0_0 : Int) (a0_1 : Int) (a0_2 : Int) : Option Bool := some (decide (1 ≤ a0_0) && (decide (a0_0 ≤ 2147483647) && (decide (0 ≤ a0_1) && (decide (a0_1 ≤ 2147483647) && decide (0 ≤ a0_2 ∧ a0_2 < 4294967296)))))
theorem slot_Right.calls (a0_0 : Int) (a0_1 : Int) (a0_2 : Int) (r : Bool) (w : World) (h : slot_Right.f a0_0 a0_1 a0_2 = some r) :
  Calls Tryz.prog 109 #[.agg #[.int .i64 a0_0, .int .i64 a0_1, .int .i64 a0_2]] w fun e w' => e = .returned (.bool r) ∧ Below w.heap.size w w' := by
 have hu40 := Tryz.underlying40
 have hu54 := Tryz.underlying54
 obtain rfl := Option.some.inj h
 clear h
 obtain ⟨b0, d0⟩ : ∃ b, decide (1 ≤ a0_0) = b := ⟨_, rfl⟩
 obtain ⟨b1, d1⟩ : ∃ b, decide (a0_0 ≤ 2147483647) = b := ⟨_, rfl⟩
 obtain ⟨b2, d2⟩ : ∃ b, decide (0 ≤ a0_1) = b := ⟨_, rfl⟩
 obtain ⟨b3, d3⟩ : ∃ b, decide (a0_1 ≤ 2147483647) = b := ⟨_, rfl⟩
 rw [d0, d1, d2, d3]
 by_cases ha : b0 = true ∧ b1 = true ∧ b2 = true ∧ b3 = true
 case pos =>
  obtain ⟨rfl, rfl, rfl, rfl⟩ := ha
  by_cases hp : 0 ≤ a0_2 ∧ a0_2 < 4294967296
  case neg =>
   have HP := Zk (fun W => Put_nil a0_2 W (by omega))
   rw [decide_eq_false hp]
   clear hp
   go_enter Tryz.func109, Tryz.ntmps109
   go_wp2_with (first | ((with_reducible refine gate_dst (N := 1) rfl ?_); refine box_event ?hg (N := 1) ?hd (cs := #[.int .i64 a0_0, .int .i64 a0_1, .int .i64 a0_2]) (t := 40) ?hr ?_; (case hd => rfl); (case hg => rfl); (case hr => first | (go_simp; done) | (go_simp; rfl)); intro gb hg wb hbox hb; have HB := Zk hb; have z0 : wb.cell? ⟨gb, 0, none⟩ = some (.int .i64 a0_0) := (blk_cell hbox 0).trans rfl; have z1 : wb.cell? ⟨gb, 1, none⟩ = some (.int .i64 a0_1) := (blk_cell hbox 1).trans rfl; have z2 : wb.cell? ⟨gb, 2, none⟩ = some (.int .i64 a0_2) := (blk_cell hbox 2).trans rfl; clear hb hbox hg) | fail)
   refine (HP.out _).mono ?_
   rintro e wc ⟨rfl, hbc⟩
   have HBc : Aside0 (Below w.heap.size w wc) := ⟨HB.out.trans (hbc.mono HB.out.size)⟩
   clear hbc HB
   go_wp2
   go_ret
   exact ⟨rfl, HBc.out⟩
  have HP := Zk (Put_val 0 a0_2 4 (by omega) (by omega) hp.1 (by simpa using hp.2))
  rw [decide_eq_true hp]
  clear hp
  go_enter Tryz.func109, Tryz.ntmps109
  go_wp2_with (first | ((with_reducible refine gate_dst (N := 1) rfl ?_); refine box_event ?hg (N := 1) ?hd (cs := #[.int .i64 a0_0, .int .i64 a0_1, .int .i64 a0_2]) (t := 40) ?hr ?_; (case hd => rfl); (case hg => rfl); (case hr => first | (go_simp; done) | (go_simp; rfl)); intro gb hg wb hbox hb; have HB := Zk hb; have z0 : wb.cell? ⟨gb, 0, none⟩ = some (.int .i64 a0_0) := (blk_cell hbox 0).trans rfl; have z1 : wb.cell? ⟨gb, 1, none⟩ = some (.int .i64 a0_1) := (blk_cell hbox 1).trans rfl; have z2 : wb.cell? ⟨gb, 2, none⟩ = some (.int .i64 a0_2) := (blk_cell hbox 2).trans rfl; clear hb hbox hg) | fail)
  refine (num_Put.calls _ _ _ _ _ HP.out).mono ?_
  rintro e wc ⟨v0, rfl, hr, hbc⟩
  obtain ⟨A, n, c, rfl⟩ := R_some hr (by simp [le, le4])
  have HBc : Aside0 (Below w.heap.size w wc) := ⟨HB.out.trans (hbc.mono HB.out.size)⟩
  clear hr hbc HB
  go_wp2
  go_ret
  exact ⟨rfl, HBc.out⟩
 cases b0 with
 | false =>
  go_enter Tryz.func109, Tryz.ntmps109
  go_wp2_with (first | ((with_reducible refine gate_dst (N := 1) rfl ?_); refine box_event ?hg (N := 1) ?hd (cs := #[.int .i64 a0_0, .int .i64 a0_1, .int .i64 a0_2]) (t := 40) ?hr ?_; (case hd => rfl); (case hg => rfl); (case hr => first | (go_simp; done) | (go_simp; rfl)); intro gb hg wb hbox hb; have HB := Zk hb; have z0 : wb.cell? ⟨gb, 0, none⟩ = some (.int .i64 a0_0) := (blk_cell hbox 0).trans rfl; have z1 : wb.cell? ⟨gb, 1, none⟩ = some (.int .i64 a0_1) := (blk_cell hbox 1).trans rfl; have z2 : wb.cell? ⟨gb, 2, none⟩ = some (.int .i64 a0_2) := (blk_cell hbox 2).trans rfl; clear hb hbox hg) | fail)
  go_ret
  exact ⟨rfl, HB.out⟩
 | true =>
  cases b1 with
  | false =>
   go_enter Tryz.func109, Tryz.ntmps109
   go_wp2_with (first | ((with_reducible refine gate_dst (N := 1) rfl ?_); refine box_event ?hg (N := 1) ?hd (cs := #[.int .i64 a0_0, .int .i64 a0_1, .int .i64 a0_2]) (t := 40) ?hr ?_; (case hd => rfl); (case hg => rfl); (case hr => first | (go_simp; done) | (go_simp; rfl)); intro gb hg wb hbox hb; have HB := Zk hb; have z0 : wb.cell? ⟨gb, 0, none⟩ = some (.int .i64 a0_0) := (blk_cell hbox 0).trans rfl; have z1 : wb.cell? ⟨gb, 1, none⟩ = some (.int .i64 a0_1) := (blk_cell hbox 1).trans rfl; have z2 : wb.cell? ⟨gb, 2, none⟩ = some (.int .i64 a0_2) := (blk_cell hbox 2).trans rfl; clear hb hbox hg) | fail)
   go_ret
   exact ⟨rfl, HB.out⟩
  | true =>
   cases b2 with
   | false =>
    go_enter Tryz.func109, Tryz.ntmps109
    go_wp2_with (first | ((with_reducible refine gate_dst (N := 1) rfl ?_); refine box_event ?hg (N := 1) ?hd (cs := #[.int .i64 a0_0, .int .i64 a0_1, .int .i64 a0_2]) (t := 40) ?hr ?_; (case hd => rfl); (case hg => rfl); (case hr => first | (go_simp; done) | (go_simp; rfl)); intro gb hg wb hbox hb; have HB := Zk hb; have z0 : wb.cell? ⟨gb, 0, none⟩ = some (.int .i64 a0_0) := (blk_cell hbox 0).trans rfl; have z1 : wb.cell? ⟨gb, 1, none⟩ = some (.int .i64 a0_1) := (blk_cell hbox 1).trans rfl; have z2 : wb.cell? ⟨gb, 2, none⟩ = some (.int .i64 a0_2) := (blk_cell hbox 2).trans rfl; clear hb hbox hg) | fail)
    go_ret
    exact ⟨rfl, HB.out⟩
   | true =>
    cases b3 with
    | false =>
     go_enter Tryz.func109, Tryz.ntmps109
     go_wp2_with (first | ((with_reducible refine gate_dst (N := 1) rfl ?_); refine box_event ?hg (N := 1) ?hd (cs := #[.int .i64 a0_0, .int .i64 a0_1, .int .i64 a0_2]) (t := 40) ?hr ?_; (case hd => rfl); (case hg => rfl); (case hr => first | (go_simp; done) | (go_simp; rfl)); intro gb hg wb hbox hb; have HB := Zk hb; have z0 : wb.cell? ⟨gb, 0, none⟩ = some (.int .i64 a0_0) := (blk_cell hbox 0).trans rfl; have z1 : wb.cell? ⟨gb, 1, none⟩ = some (.int .i64 a0_1) := (blk_cell hbox 1).trans rfl; have z2 : wb.cell? ⟨gb, 2, none⟩ = some (.int .i64 a0_2) := (blk_cell hbox 2).trans rfl; clear hb hbox hg) | fail)
     go_ret
     exact ⟨rfl, HB.out⟩
    | true => exact absurd ⟨rfl, rfl, rfl, rfl⟩ ha
theorem cells_of_C {W : World} {b : Addr} {xs : List Int} (h : Kd.C (Kd.int .u8) W (some b) xs.length xs) : ∀ (j : Nat) (u : Value), (encs (Value.int .u8) xs)[j]? = some u → W.cell? (b.add j) = some u := by
 intro j u hu
 have hj : j < xs.length := by
  have := (List.getElem?_eq_some_iff.1 hu).1
  simpa [encs] using this
 obtain ⟨ad, e, hc⟩ := Kd.at_int h (j : Int) (by omega) (by omega)
 cases e
 rw [Int.toNat_natCast] at hc
 rw [hc]
 have he := encs_get (enc := Value.int .u8) (d := (0 : Int)) xs j hj
 rw [he] at hu
 rw [← hu]
 simp [rd]
theorem append_grows {P : Program} {ops : Array Oper} {rest : List Oper} {o : Oper} {a : Act} {Q : Exit → Act → World → Prop} {W : World} (hgd : o.guard = none) (s x : Operand) (t e : TypeId)
  (ho : o.op = .call { callee := .builtin .append, args := #[s, x], argTypes := #[t, t] })
  (ht : P.underlying t = some (.slice e)) (hinfo : (P.info? e).map (fun i => (i.zero, i.size, i.bytes)) = some (some (.int .u8 0), 1, 1))
  (b A : Addr) (cap c : Nat) (xs ys : List Int) (hs : a.eval s = .slice (some b) xs.length cap) (hx : a.eval x = .slice (some A) ys.length c)
  (HX : Kd.C (Kd.int .u8) W (some b) xs.length xs) (HY : Kd.C (Kd.int .u8) W (some A) ys.length ys) (hcap : cap < xs.length + ys.length) (hl : xs.length + ys.length ≤ 140737488355328)
  (h : ∀ v1 w1, Kd.R (Kd.int .u8) e w1 W.heap.size (fun _ => True) v1 (xs ++ ys) → W.grownBy w1 none → wpList P ops Q rest (a.put o.dst v1) w1) :
  wpList P ops Q (o :: rest) a W := by
 obtain ⟨i0, hi, hzz⟩ := Option.map_eq_some_iff.1 hinfo
 simp only [Prod.mk.injEq] at hzz
 obtain ⟨hz0, hz1, hz2⟩ := hzz
 refine wpList_plain hgd fun K hK => ?_
 obtain ⟨v', w', hr, h2, h3⟩ := run_append_arg_grows (P := P) (w := W) t o.type e i0 (.int .u8 0) 1 1 ht hi hz0 hz1 hz2 rfl (by omega) b xs.length cap (encs (Value.int .u8) xs) (by simp [encs]) (cells_of_C HX) A ys.length c (encs (Value.int .u8) ys) (by simp [encs]) (cells_of_C HY) hcap (by simp only [maxLen]; omega) (by omega)
 unfold Oper.wp execOp
 simp only [ho, resolve, invoke, builtin, Sem.run_bind, Sem.run_pure, Result.andThen_ok, List.map_toArray, List.map_cons, List.map_nil, hs, hx, hr]
 refine hK _ _ (h v' w' (Kd.R_of_own ?_ (fun _ _ => trivial)) h3)
 rw [encs_append, List.length_append]
 exact h2
def slot_Print.row (g s m : Int) : List Int := [97, 115] ++ le g 4 ++ le s 4 ++ le m 4
def slot_Print.f (a0_0 : Int) (a0_1 : Int) (a0_2 : Int) : Option (ByteArray × Int) :=
 if slot_Right.f a0_0 a0_1 a0_2 = some true then num_Seal.f (slot_Print.row a0_0 a0_1 a0_2) else some ((⟨#[]⟩ : ByteArray), 1)
theorem right_iff (a b c : Int) : slot_Right.f a b c = some true ↔ (1 ≤ a ∧ a ≤ 2147483647 ∧ 0 ≤ b ∧ b ≤ 2147483647 ∧ 0 ≤ c ∧ c < 4294967296) := by
 unfold slot_Right.f
 simp
theorem le4_len (n : Int) : (le n 4).length = 4 := by simp [le, le4]
theorem slot_Print.calls (a0_0 : Int) (a0_1 : Int) (a0_2 : Int) (r1 : ByteArray) (r2 : Int) (w : World) (h : slot_Print.f a0_0 a0_1 a0_2 = some (r1, r2)) :
  Calls Tryz.prog 87 #[.agg #[.int .i64 a0_0, .int .i64 a0_1, .int .i64 a0_2]] w fun e w' => e = .returned (.tuple #[.string r1, .int .i64 r2]) ∧ Below w.heap.size w w' := by
 have hu40 := Tryz.underlying40
 unfold slot_Print.f at h
 by_cases hr : slot_Right.f a0_0 a0_1 a0_2 = some true
 case neg =>
  rw [if_neg hr] at h
  injection h with h
  injection h with h1 h2
  subst h1 h2
  have hr2 : slot_Right.f a0_0 a0_1 a0_2 = some false := by
   unfold slot_Right.f at hr ⊢
   simp only [Option.some.injEq] at hr ⊢
   exact Bool.eq_false_iff.2 hr
  go_enter Tryz.func87, Tryz.ntmps87
  go_wp2_with (first | (refine gd_ 1 ?_; refine bx_ 1 #[.int .i64 a0_0, .int .i64 a0_1, .int .i64 a0_2] 40 ?_; intro gb hg wb hbox hb; have HB := Zk hb; have z0 : wb.cell? ⟨gb, 0, none⟩ = some (.int .i64 a0_0) := (blk_cell hbox 0).trans rfl; have z1 : wb.cell? ⟨gb, 1, none⟩ = some (.int .i64 a0_1) := (blk_cell hbox 1).trans rfl; have z2 : wb.cell? ⟨gb, 2, none⟩ = some (.int .i64 a0_2) := (blk_cell hbox 2).trans rfl; clear hb hbox hg) | fail)
  refine (slot_Right.calls _ _ _ false _ hr2).mono ?_
  rintro e wc ⟨rfl, hbc⟩
  have HBc : Aside0 (Below w.heap.size w wc) := ⟨HB.out.trans (hbc.mono HB.out.size)⟩
  clear hbc HB
  go_wp2
  go_ret2
  exact ⟨rfl, HBc.out⟩
 rw [if_pos hr] at h
 have HR := Zk hr
 have HH := Zk h
 have hri := (right_iff _ _ _).1 hr
 have HP0 := Zk (Put_val 0 a0_0 4 (by omega) (by omega) (by omega) (by have : ((256 : Int) ^ (4 : Int).toNat) = 4294967296 := rfl; omega))
 have HP1 := Zk (Put_val 0 a0_1 4 (by omega) (by omega) (by omega) (by have : ((256 : Int) ^ (4 : Int).toNat) = 4294967296 := rfl; omega))
 have HP2 := Zk (Put_val 0 a0_2 4 (by omega) (by omega) (by omega) (by have : ((256 : Int) ^ (4 : Int).toNat) = 4294967296 := rfl; omega))
 clear hr h hri
 go_enter Tryz.func87, Tryz.ntmps87
 go_wp2_with (first | (refine gd_ 1 ?_; refine bx_ 1 #[.int .i64 a0_0, .int .i64 a0_1, .int .i64 a0_2] 40 ?_; intro gb hg wb hbox hb; have HB := Zk hb; have z0 : wb.cell? ⟨gb, 0, none⟩ = some (.int .i64 a0_0) := (blk_cell hbox 0).trans rfl; have z1 : wb.cell? ⟨gb, 1, none⟩ = some (.int .i64 a0_1) := (blk_cell hbox 1).trans rfl; have z2 : wb.cell? ⟨gb, 2, none⟩ = some (.int .i64 a0_2) := (blk_cell hbox 2).trans rfl; have HG := Zk hg; clear hb hbox hg) | fail)
 refine (slot_Right.calls _ _ _ true _ HR.out).mono ?_
 rintro e wc ⟨rfl, hbc⟩
 have HBc : Aside0 (Below w.heap.size w wc) := ⟨HB.out.trans (hbc.mono HB.out.size)⟩
 have kc0 := Joins.run_convert_bytes_const_at (P := Tryz.prog) wc 54 5 #[.int .u8 97, .int .u8 115] 2 2 wc.heap.size rfl Tryz.underlying54 Tryz.underlying5
 have hL := lit_C wc 5 [97, 115] (2, 3) (by simp)
 have hbd := hbc.alloc hbc.size (.cells #[.int .u8 97, .int .u8 115] 5 (2, 3))
 have HBd := HBc.out.alloc HBc.out.size (.cells #[.int .u8 97, .int .u8 115] 5 (2, 3))
 obtain ⟨wd, hwd⟩ : ∃ W, wc.alloc (.cells #[.int .u8 97, .int .u8 115] 5 (2, 3)) = W := ⟨_, rfl⟩
 have kc := kc0.trans (show _ = Result.ok (Value.slice (some ⟨wc.heap.size, 0, none⟩) 2 2) wd by rw [← hwd]; rfl)
 have hL2 : Kd.C (Kd.int .u8) wd (some ⟨wc.heap.size, 0, none⟩) 2 [97, 115] := hwd ▸ hL
 rw [hwd] at hbd HBd
 have HL := Zk hL2
 have HBd := Zk HBd
 have y0 := pw_cell_below hbd z0
 have y1 := pw_cell_below hbd z1
 have y2 := pw_cell_below hbd z2
 clear hbc HB z0 z1 z2 hbd hL hL2 kc0 hwd HBc HG
 go_wp2_with fail
 clear kc y0 y1 y2
 have hi0 : ∀ W, (Instr.index 155 (.agg #[.int .i64 a0_0, .int .i64 a0_1, .int .i64 a0_2]) (.int .i64 0)).run Tryz.prog W = .ok (.int .i64 a0_0) W := fun _ => by kernel_rfl
 have hi1 : ∀ W, (Instr.index 155 (.agg #[.int .i64 a0_0, .int .i64 a0_1, .int .i64 a0_2]) (.int .i64 1)).run Tryz.prog W = .ok (.int .i64 a0_1) W := fun _ => by kernel_rfl
 have hi2 : ∀ W, (Instr.index 155 (.agg #[.int .i64 a0_0, .int .i64 a0_1, .int .i64 a0_2]) (.int .i64 2)).run Tryz.prog W = .ok (.int .i64 a0_2) W := fun _ => by kernel_rfl
 go_loopw [4, 19] (fun v4 v19 wr =>
  (v19 = .int .i64 0 ∧ v4 = .slice (some ⟨wc.heap.size, 0, none⟩) 2 2 ∧ wr = wd) ∨
  (v19 = .int .i64 1 ∧ Aside0 (Kd.R (Kd.int .u8) 5 wr w.heap.size (fun _ => True) v4 ([97, 115] ++ le a0_0 4)) ∧ Aside0 (Below w.heap.size w wr)) ∨
  (v19 = .int .i64 2 ∧ Aside0 (Kd.R (Kd.int .u8) 5 wr w.heap.size (fun _ => True) v4 ([97, 115] ++ le a0_0 4 ++ le a0_1 4)) ∧ Aside0 (Below w.heap.size w wr)) ∨
  (v19 = .int .i64 3 ∧ Aside0 (Kd.R (Kd.int .u8) 5 wr w.heap.size (fun _ => True) v4 ([97, 115] ++ le a0_0 4 ++ le a0_1 4 ++ le a0_2 4)) ∧ Aside0 (Below w.heap.size w wr))) (fun _ n _ => 3 - (intOf n).toNat)
 case atStart => exact .inl ⟨rfl, rfl, rfl⟩
 case round =>
  rcases hrel with ⟨rfl, rfl, rfl⟩ | ⟨rfl, HRr, HBr⟩ | ⟨rfl, HRr, HBr⟩ | ⟨rfl, HRr, HBr⟩
  ·go_wp2_with fail
   refine (num_Put.calls _ _ _ _ _ HP0.out).mono ?_
   rintro e we ⟨v0, rfl, hr, hbe⟩
   obtain ⟨A, c, rfl, hc, hC⟩ := Kd.R_reads hr
   obtain ⟨ad, rfl, _⟩ := Kd.at_int hC 0 (by omega) (by rw [le4_len]; omega)
   have HC := Zk hC
   have HX := Zk (Kd.C_below HL.out hbe)
   have HBe : Aside0 (Below w.heap.size w we) := ⟨HBd.out.trans (hbe.mono HBd.out.size)⟩
   clear hr hbe hC hc
   go_wp2_with ((with_reducible refine gate_builtin (b := .append) (xs := #[.tmp 22, .tmp 24]) rfl ?_); at_builtin; refine append_grows rfl (.tmp 22) (.tmp 24) 54 5 rfl Tryz.underlying54 info5 ⟨wc.heap.size, 0, none⟩ ad 2 c [97, 115] (le a0_0 4) rfl rfl ?aX ?aY ?aC ?aL ?_)
   case aX => exact HX.out
   case aY => exact HC.out
   case aC => simp [le4_len]
   case aL => simp [le4_len]
   intro v1 w1 hR hg
   have HR1 := Zk (Kd.R_lower hR HBe.out.size)
   have HB1 : Aside0 (Below w.heap.size w w1) := ⟨HBe.out.grown hg HBe.out.size (by simp)⟩
   clear hR hg HX HC HBe
   go_wp2
   exact ⟨.inr (.inl ⟨rfl, HR1, HB1⟩), by simp [intOf]⟩
  ·have HBe0 : Aside0 (3 = 3) := ⟨rfl⟩
   go_wp2_with fail
   refine (num_Put.calls _ _ _ _ _ HP1.out).mono ?_
   rintro e we ⟨v0, rfl, hr, hbe⟩
   obtain ⟨A, c, rfl, hc, hC⟩ := Kd.R_reads hr
   obtain ⟨ad, rfl, _⟩ := Kd.at_int hC 0 (by omega) (by rw [le4_len]; omega)
   have HC := Zk hC
   have HRe := Zk (Kd.R_below HRr.out hbe)
   have HBe : Aside0 (Below w.heap.size w we) := ⟨HBr.out.trans (hbe.mono HBr.out.size)⟩
   clear hr hbe hC hc HRr HBr
   go_wp2_with ((with_reducible refine gate_builtin (b := .append) (xs := #[.tmp 22, .tmp 24]) rfl ?_); at_builtin; refine Kd.R_append_rows (Kd.int .u8) (w0 := w) w.heap.size rfl (.tmp 22) (.tmp 24) 54 5 (.int .u8 0) 1 rfl Tryz.underlying54 info5 rfl (by decide) (by omega) _ ([97, 115] ++ le a0_0 4) (le a0_1 4) (some ad) (le a0_1 4).length c (fun _ => True) (fun _ => False) rfl rfl ?aO ?aR (fun _ _ h => h) (fun _ h => h.elim) (fun _ _ => trivial) ?aB ?aS ?aL ?_)
   case aO => exact HRe.out
   case aR => exact HC.out
   case aB => exact HBe.out
   case aS => exact HBe.out.size
   case aL => simp [le4_len]
   intro v1 w1 hR hB hg hv
   have HR1 := Zk hR
   have HB1 := Zk hB
   clear hR hB hg hv HC HRe HBe
   go_wp2
   exact ⟨.inr (.inr (.inl ⟨rfl, HR1, HB1⟩)), by simp [intOf]⟩
  ·have HBe0 : Aside0 (3 = 3) := ⟨rfl⟩
   go_wp2_with fail
   refine (num_Put.calls _ _ _ _ _ HP2.out).mono ?_
   rintro e we ⟨v0, rfl, hr, hbe⟩
   obtain ⟨A, c, rfl, hc, hC⟩ := Kd.R_reads hr
   obtain ⟨ad, rfl, _⟩ := Kd.at_int hC 0 (by omega) (by rw [le4_len]; omega)
   have HC := Zk hC
   have HRe := Zk (Kd.R_below HRr.out hbe)
   have HBe : Aside0 (Below w.heap.size w we) := ⟨HBr.out.trans (hbe.mono HBr.out.size)⟩
   clear hr hbe hC hc HRr HBr
   go_wp2_with ((with_reducible refine gate_builtin (b := .append) (xs := #[.tmp 22, .tmp 24]) rfl ?_); at_builtin; refine Kd.R_append_rows (Kd.int .u8) (w0 := w) w.heap.size rfl (.tmp 22) (.tmp 24) 54 5 (.int .u8 0) 1 rfl Tryz.underlying54 info5 rfl (by decide) (by omega) _ ([97, 115] ++ le a0_0 4 ++ le a0_1 4) (le a0_2 4) (some ad) (le a0_2 4).length c (fun _ => True) (fun _ => False) rfl rfl ?aO ?aR (fun _ _ h => h) (fun _ h => h.elim) (fun _ _ => trivial) ?aB ?aS ?aL ?_)
   case aO => exact HRe.out
   case aR => exact HC.out
   case aB => exact HBe.out
   case aS => exact HBe.out.size
   case aL => simp [le4_len]
   intro v1 w1 hR hB hg hv
   have HR1 := Zk hR
   have HB1 := Zk hB
   clear hR hB hg hv HC HRe HBe
   go_wp2
   exact ⟨.inr (.inr (.inr ⟨rfl, HR1, HB1⟩)), by simp [intOf]⟩
  ·obtain ⟨A4, c4, hv4, hc4, hC4⟩ := Kd.R_reads HRr.out
   subst hv4
   have hl14 : ([97, 115] ++ le a0_0 4 ++ le a0_1 4 ++ le a0_2 4).length = 14 := by simp [le4_len]
   have HS := num_Seal.calls A4 c4 (slot_Print.row a0_0 a0_1 a0_2) r1 r2 wr hC4 hc4 HH.out
   have HSA := Zk HS
   clear hC4 hc4 HS
   go_wp2_with fail
   refine HSA.out.mono ?_
   rintro e we ⟨rfl, hbe⟩
   have HBe : Aside0 (Below w.heap.size w we) := ⟨HBr.out.trans (hbe.mono HBr.out.size)⟩
   clear hbe
   go_wp2
   go_ret2
   exact ⟨rfl, HBe.out⟩
section
attribute [local go_sem] max2_int min2_int max_two min_two max_three min_three max_four min_four
def stringslite_HasPrefix.f (a0 : ByteArray) (a1 : ByteArray) : Option (Bool) := if (a0.size : Int) ≥ (a1.size : Int) then (if 0 ≤ (a1.size : Int) then (if (a1.size : Int) ≤ (a0.size : Int) then (some ((a0.extract 0 ((a1.size : Int) : Int).toNat).toList == a1.toList)) else (none)) else (none)) else (some false)
theorem stringslite_HasPrefix.calls (a0 : ByteArray) (a1 : ByteArray) (r : Bool) (w : World) (h : stringslite_HasPrefix.f a0 a1 = some r) :
  Calls Tryz.prog 108 #[.string a0, .string a1] w fun e w' => e = .returned (.bool r) ∧ Drawn0 w w' := by
 have H : (if (a0.size : Int) ≥ (a1.size : Int) then (if 0 ≤ (a1.size : Int) then (if (a1.size : Int) ≤ (a0.size : Int) then (some ((a0.extract 0 ((a1.size : Int) : Int).toNat).toList == a1.toList)) else (none)) else (none)) else (some false)) = some r := h
 clear h
 by_cases c3 : (a0.size : Int) ≥ (a1.size : Int)
 case neg =>
  rw [if_neg c3] at H
  have aA : decide ((a1.size : Int) ≤ (a0.size : Int)) = false := decide_eq_false c3
  have aB : decide (a1.size ≤ a0.size) = false := decide_eq_false (fun h => c3 (Int.ofNat_le.mpr h))
  clear c3
  obtain rfl := Option.some.inj H
  go_enter Tryz.func108, Tryz.ntmps108
  go_wp2
  go_ret
  exact ⟨q_, by repeat (first | exact Drawn0.refl _ | apply Drawn0.step)⟩
 rw [if_pos c3] at H
 have aA : decide ((a1.size : Int) ≤ (a0.size : Int)) = true := decide_eq_true c3
 have aB : decide (a1.size ≤ a0.size) = true := decide_eq_true (Int.ofNat_le.mp c3)
 clear c3
 by_cases c4 : 0 ≤ (a1.size : Int)
 case neg => exact no_ c4 H
 rw [if_pos c4] at H
 have aC := eq_true c4
 have aD := decide_eq_true c4
 clear c4
 by_cases c5 : (a1.size : Int) ≤ (a0.size : Int)
 case neg => exact no_ c5 H
 rw [if_pos c5] at H
 have aE := eq_true c5
 have aF := decide_eq_true c5
 clear c5
 obtain rfl := Option.some.inj H
 go_enter Tryz.func108, Tryz.ntmps108
 go_wp2
 go_ret
 exact ⟨q_, by repeat (first | exact Drawn0.refl _ | apply Drawn0.step)⟩
end
section
attribute [local go_sem] max2_int min2_int max_two min_two max_three min_three max_four min_four
def strings_HasPrefix.f (a0 : ByteArray) (a1 : ByteArray) : Option (Bool) := (stringslite_HasPrefix.f a0 a1).bind fun aA => (some aA)
theorem strings_HasPrefix.calls (a0 : ByteArray) (a1 : ByteArray) (r : Bool) (w : World) (h : strings_HasPrefix.f a0 a1 = some r) :
  Calls Tryz.prog 86 #[.string a0, .string a1] w fun e w' => e = .returned (.bool r) ∧ Drawn0 w w' := by
 have H : ((stringslite_HasPrefix.f a0 a1).bind fun aA => (some aA)) = some r := h
 clear h
 replace H := Option.bind_eq_some_iff.mp H
 obtain ⟨aA, A30, H⟩ := H
 (try dsimp only at H)
 have A3 := Zk A30
 clear A30
 obtain rfl := Option.some.inj H
 go_enter Tryz.func86, Tryz.ntmps86
 go_wp2_with (first | (refine gc_ 108 ?_; refine gl_ 108 (some 7) #[.string a0, .string a1] Tryz.func108 ?_; (with_reducible refine (stringslite_HasPrefix.calls a0 a1 aA _ A3.out).mono ?_); rintro e w' ⟨rfl, ⟨nd, rfl⟩⟩; refine ⟨_, rfl, ?_⟩))
 go_ret
 exact ⟨q_, by repeat (first | exact Drawn0.refl _ | apply Drawn0.step)⟩
end
def slot_Parse.f (a0 : ByteArray) : Option (Int × Int × Int × Int) :=
 (num_Open.f a0).bind fun o => (strings_HasPrefix.f a0 ⟨#[97, 115]⟩).bind fun p =>
  if o.2 = 0 ∧ p = true then (slot_Print.f (lev o.1 2 4) (lev o.1 6 4) (lev o.1 10 4)).bind fun q =>
   if q.2 = 0 ∧ q.1.toList = a0.toList then some (lev o.1 2 4, lev o.1 6 4, lev o.1 10 4, 0) else some (0, 0, 0, 2)
  else some (0, 0, 0, 2)
theorem slot_Parse.bad (a0 : ByteArray) (l : List Int) (e : Int) (p : Bool) (w : World) (ho : num_Open.f a0 = some (l, e)) (hp : strings_HasPrefix.f a0 ⟨#[97, 115]⟩ = some p) (hb : e ≠ 0 ∨ p = false) :
  Calls Tryz.prog 60 #[.string a0] w fun e w' => e = .returned (.tuple #[.agg #[.int .i64 0, .int .i64 0, .int .i64 0], .int .i64 2]) ∧ Below w.heap.size w w' := by
 have hu40 := Tryz.underlying40
 have HO := Zk ho
 have HP := Zk hp
 clear ho hp
 by_cases he : e = 0
 case neg =>
  have he2 : (e == 0) = false := by simpa using he
  have he3 : (e != 0) = true := by simpa using he
  have hee : e = 2 := by
   have := HO.out
   unfold num_Open.f at this
   split at this
   ·injection this with this
    injection this with _ this
    omega
   ·injection this with this
    injection this with _ this
    exact this.symm
  subst hee
  clear he he2 he3 hb
  go_enter Tryz.func60, Tryz.ntmps60
  go_wp2_with (first | (refine gd_ 2 ?_; refine bx_ 2 #[.int .i64 0, .int .i64 0, .int .i64 0] 40 ?_; intro gb hg wb hbox hb; have HB := Zk hb; have HG := Zk hg; have HK := Zk hbox; clear hb hbox hg) | fail)
  refine (num_Open.calls _ _ _ wb HO.out).mono ?_
  rintro e wd ⟨v0, rfl, hv, hbc⟩
  have HG2 : Aside0 (w.heap.size ≤ gb) := ⟨by rw [HG.out]; exact Nat.le_refl _⟩
  have HBd : Aside0 (Below w.heap.size w wd) := ⟨HB.out.trans (hbc.mono HB.out.size)⟩
  have HKd := Zk (blk_below HK.out hbc)
  clear hbc hv HB HK
  have f0 := blk_frozen HKd.out 0
  have f1 := blk_frozen HKd.out 1
  have f2 := blk_frozen HKd.out 2
  obtain ⟨z0, z1, z2, -, -, -⟩ := cf3_ HKd
  go_wp2
  refine bodyPost_ret (results_ct rfl _ _ gb 40 #[.int .i64 0, .int .i64 0, .int .i64 0] (0, 0) _ rfl (blk_put (cs := #[.int .i64 0, .int .i64 0, .int .i64 0]) (blk_put (cs := #[.int .i64 0, .int .i64 0, .int .i64 0]) (blk_put (cs := #[.int .i64 0, .int .i64 0, .int .i64 0]) HKd.out 0 _ rfl) 1 _ rfl) 2 _ rfl) Tryz.underlying40 rfl (by kernel_rfl)) rfl ?_
  exact ⟨rfl, below_set (below_set (below_set HBd.out HG2.out) HG2.out) HG2.out⟩
 subst he
 have hpf : p = false := by simpa using hb
 subst hpf
 clear hb
 go_enter Tryz.func60, Tryz.ntmps60
 go_wp2_with (first | (refine gd_ 2 ?_; refine bx_ 2 #[.int .i64 0, .int .i64 0, .int .i64 0] 40 ?_; intro gb hg wb hbox hb; have HB := Zk hb; have HG := Zk hg; have HK := Zk hbox; clear hb hbox hg) | fail)
 refine (num_Open.calls _ _ _ wb HO.out).mono ?_
 rintro e wc ⟨v0, rfl, hv, hbc⟩
 have HG2 : Aside0 (w.heap.size ≤ gb) := ⟨by rw [HG.out]; exact Nat.le_refl _⟩
 have HBc : Aside0 (Below w.heap.size w wc) := ⟨HB.out.trans (hbc.mono HB.out.size)⟩
 have HKc := Zk (blk_below HK.out hbc)
 clear hbc hv HB HK
 go_wp2_with fail
 refine (strings_HasPrefix.calls _ _ _ _ HP.out).mono ?_
 rintro e wd ⟨rfl, ⟨nd, rfl⟩⟩
 have HBd : Aside0 (Below w.heap.size w (wc.drewN nd)) := ⟨pw_below_drewN HBc.out nd⟩
 have HKd : Aside0 ((wc.drewN nd).heap[gb]? = some (.cells #[.int .i64 0, .int .i64 0, .int .i64 0] 40 (0, 0))) := ⟨HKc.out⟩
 generalize wc.drewN nd = wd at HBd HKd ⊢
 have f0 := blk_frozen HKd.out 0
 have f1 := blk_frozen HKd.out 1
 have f2 := blk_frozen HKd.out 2
 obtain ⟨z0, z1, z2, -, -, -⟩ := cf3_ HKd
 go_wp2
 refine bodyPost_ret (results_ct rfl _ _ gb 40 #[.int .i64 0, .int .i64 0, .int .i64 0] (0, 0) _ rfl (blk_put (cs := #[.int .i64 0, .int .i64 0, .int .i64 0]) (blk_put (cs := #[.int .i64 0, .int .i64 0, .int .i64 0]) (blk_put (cs := #[.int .i64 0, .int .i64 0, .int .i64 0]) HKd.out 0 _ rfl) 1 _ rfl) 2 _ rfl) Tryz.underlying40 rfl (by kernel_rfl)) rfl ?_
 exact ⟨rfl, below_set (below_set (below_set HBd.out HG2.out) HG2.out) HG2.out⟩
theorem slot_Parse.good (a0 : ByteArray) (l : List Int) (q : ByteArray) (q2 : Int) (b1 b2 : Bool) (w : World) (ho : num_Open.f a0 = some (l, 0)) (hp : strings_HasPrefix.f a0 ⟨#[97, 115]⟩ = some true) (hl : l.length = 36) (hby : ∀ x ∈ l, 0 ≤ x ∧ x < 256)
    (g s m : Int) (hg : lev l 2 4 = g) (hs : lev l 6 4 = s) (hm : lev l 10 4 = m) (hq : slot_Print.f g s m = some (q, q2)) (e1 : (q2 != 0) = b1) (e2 : (q.toList != a0.toList) = b2) (R : Int × Int × Int × Int) (hR : R = if b1 = false ∧ b2 = false then (g, s, m, 0) else (0, 0, 0, 2)) :
    Calls Tryz.prog 60 #[.string a0] w fun e w' => e = .returned (.tuple #[.agg #[.int .i64 R.1, .int .i64 R.2.1, .int .i64 R.2.2.1], .int .i64 R.2.2.2]) ∧ Below w.heap.size w w' := by
  have hu40 := Tryz.underlying40
  have HO := Zk ho
  have HP := Zk hp
  have HQ := Zk hq
  have ht0 := Take_val 0 l 2 4 (by omega) hby (by omega) (by omega) (by omega) (by omega)
  have ht1 := Take_val 0 l 6 4 (by omega) hby (by omega) (by omega) (by omega) (by omega)
  have ht2 := Take_val 0 l 10 4 (by omega) hby (by omega) (by omega) (by omega) (by omega)
  rw [hg] at ht0
  rw [hs] at ht1
  rw [hm] at ht2
  have HT0 := Zk ht0
  have HT1 := Zk ht1
  have HT2 := Zk ht2
  have HRR := Zk hR
  clear ho hp hq ht0 ht1 ht2 hg hs hm hby hR hl
  go_enter Tryz.func60, Tryz.ntmps60
  go_wp2_with (first | (refine gd_ 2 ?_; refine bx_ 2 #[.int .i64 0, .int .i64 0, .int .i64 0] 40 ?_; intro gb hg wb hbox hb; have HB := Zk hb; have HG := Zk hg; have HK := Zk hbox; clear hb hbox hg) | fail)
  refine (num_Open.calls _ _ _ wb HO.out).mono ?_
  rintro e wc ⟨v0, rfl, hv, hbc⟩
  have HG2 : Aside0 (w.heap.size ≤ gb) := ⟨by rw [HG.out]; exact Nat.le_refl _⟩
  have HGB : Aside0 (gb < wb.heap.size) := ⟨blk_lt HK.out⟩
  have HBc : Aside0 (Below w.heap.size w wc) := ⟨HB.out.trans (hbc.mono HB.out.size)⟩
  have HKc := Zk (blk_below HK.out hbc)
  have HV := Zk (Kd.V_bound hv)
  have HBW : Aside0 (wb.heap.size ≤ wc.heap.size) := ⟨hbc.size⟩
  clear hbc hv HB HK HG
  go_wp2_with fail
  refine (strings_HasPrefix.calls _ _ _ _ HP.out).mono ?_
  rintro e wd ⟨rfl, ⟨nd, rfl⟩⟩
  have HBd : Aside0 (Below w.heap.size w (wc.drewN nd)) := ⟨pw_below_drewN HBc.out nd⟩
  have HKd : Aside0 ((wc.drewN nd).heap[gb]? = some (.cells #[.int .i64 0, .int .i64 0, .int .i64 0] 40 (0, 0))) := ⟨HKc.out⟩
  have HVd := Zk (Kd.V_drewN HV.out nd)
  have HSd : Aside0 ((wc.drewN nd).heap.size = wc.heap.size) := ⟨rfl⟩
  generalize wc.drewN nd = wd at HBd HKd HVd HSd ⊢
  clear HV HKc HBc
  go_wp2_with (first | (refine gd_ 6 ?_; refine bx_ 6 #[.int .i64 0, .int .i64 0, .int .i64 0] 155 ?_; intro gn hg we hbox hb; have HBe := Zk (HBd.out.trans (hb.mono HBd.out.size)); have HGN := Zk hg; have HN := Zk hbox; have HKe := Zk (blk_below HKd.out hb); have HVe := Zk (Kd.V_below HVd.out hb); clear hb hbox hg) | fail)
  obtain ⟨A, c, hv0⟩ := Kd.V_slice HVe.out
  subst hv0
  have HGN2 : Aside0 (wc.heap.size ≤ gn) := ⟨by rw [HGN.out, HSd.out]; exact Nat.le_refl _⟩
  have HNE : Aside0 (gb ≠ gn) := ⟨by have h1 := HGN2.out; have h2 := HGB.out; have h3 := HBW.out; omega⟩
  have HGN3 : Aside0 (w.heap.size ≤ gn) := ⟨by rw [HGN.out]; exact HBd.out.size⟩
  have HVe2 : Aside0 (Kd.V (Kd.int .u8) 5 we wb.heap.size (fun k => wb.heap.size ≤ k ∧ k < wc.heap.size) (.slice A l.length c) l) := HVe
  clear HVe HVd HBd HKd HSd HGN HBW HGB
  go_loopw [7, 25] (fun v7 v25 wr =>
      (v25 = .int .i64 0 ∧ v7 = .int .i64 2 ∧ Aside0 (wr.heap[gn]? = some (.cells #[.int .i64 0, .int .i64 0, .int .i64 0] 155 (0, 0))) ∧ Aside0 (wr.heap[gb]? = some (.cells #[.int .i64 0, .int .i64 0, .int .i64 0] 40 (0, 0))) ∧ Aside0 (Kd.V (Kd.int .u8) 5 wr wb.heap.size (fun k => wb.heap.size ≤ k ∧ k < wc.heap.size) (.slice A l.length c) l) ∧ Aside0 (Below w.heap.size w wr)) ∨
      (v25 = .int .i64 1 ∧ v7 = .int .i64 6 ∧ Aside0 (wr.heap[gn]? = some (.cells #[.int .i64 g, .int .i64 0, .int .i64 0] 155 (0, 0))) ∧ Aside0 (wr.heap[gb]? = some (.cells #[.int .i64 0, .int .i64 0, .int .i64 0] 40 (0, 0))) ∧ Aside0 (Kd.V (Kd.int .u8) 5 wr wb.heap.size (fun k => wb.heap.size ≤ k ∧ k < wc.heap.size) (.slice A l.length c) l) ∧ Aside0 (Below w.heap.size w wr)) ∨
      (v25 = .int .i64 2 ∧ v7 = .int .i64 10 ∧ Aside0 (wr.heap[gn]? = some (.cells #[.int .i64 g, .int .i64 s, .int .i64 0] 155 (0, 0))) ∧ Aside0 (wr.heap[gb]? = some (.cells #[.int .i64 0, .int .i64 0, .int .i64 0] 40 (0, 0))) ∧ Aside0 (Kd.V (Kd.int .u8) 5 wr wb.heap.size (fun k => wb.heap.size ≤ k ∧ k < wc.heap.size) (.slice A l.length c) l) ∧ Aside0 (Below w.heap.size w wr)) ∨
      (v25 = .int .i64 3 ∧ v7 = .int .i64 14 ∧ Aside0 (wr.heap[gn]? = some (.cells #[.int .i64 g, .int .i64 s, .int .i64 m] 155 (0, 0))) ∧ Aside0 (wr.heap[gb]? = some (.cells #[.int .i64 0, .int .i64 0, .int .i64 0] 40 (0, 0))) ∧ Aside0 (Kd.V (Kd.int .u8) 5 wr wb.heap.size (fun k => wb.heap.size ≤ k ∧ k < wc.heap.size) (.slice A l.length c) l) ∧ Aside0 (Below w.heap.size w wr))) (fun _ n _ => 3 - (intOf n).toNat)
  case atStart => exact .inl ⟨rfl, rfl, HN, HKe, HVe2, HBe⟩
  case round =>
    clear HN HKe HVe2 HBe
    rcases hrel with ⟨rfl, rfl, HNr, HKr, HVr, HBr⟩ | ⟨rfl, rfl, HNr, HKr, HVr, HBr⟩ | ⟨rfl, rfl, HNr, HKr, HVr, HBr⟩ | ⟨rfl, rfl, HNr, HKr, HVr, HBr⟩
    · have hrd := Kd.V_reads' HVr.out
      have htk := num_Take.calls 6 A c l 2 4 _ _ _ wr hrd.2.2 hrd.2.1 HT0.out
      have HTK := Zk htk
      clear hrd htk
      go_wp2_with fail
      refine HTK.out.mono ?_
      rintro e we2 ⟨rfl, ⟨nd, rfl⟩⟩
      have HN2 : Aside0 ((wr.drewN nd).heap[gn]? = some (.cells #[.int .i64 0, .int .i64 0, .int .i64 0] 155 (0, 0))) := ⟨HNr.out⟩
      have HK2 : Aside0 ((wr.drewN nd).heap[gb]? = some (.cells #[.int .i64 0, .int .i64 0, .int .i64 0] 40 (0, 0))) := ⟨HKr.out⟩
      have HV2 := Zk (Kd.V_drewN HVr.out nd)
      have HB2 : Aside0 (Below w.heap.size w (wr.drewN nd)) := ⟨pw_below_drewN HBr.out nd⟩
      clear HTK HNr HKr HVr HBr
      generalize wr.drewN nd = wx at HN2 HK2 HV2 HB2 ⊢
      have ff := blk_frozen HN2.out 0
      have zz : wx.cell? ⟨gn, 0, none⟩ = some (.int .i64 0) := (blk_cell HN2.out 0).trans rfl
      go_wp2
      refine ⟨.inr (.inl ⟨rfl, rfl, ⟨blk_put HN2.out 0 _ rfl⟩, ⟨blk_far HK2.out HNE.out _⟩, ⟨Kd.V_far HV2.out (fun k hk => by have := HGN2.out; simp only; omega) _⟩, ⟨below_set HB2.out HGN3.out⟩⟩), by simp [intOf]⟩
    · have hrd := Kd.V_reads' HVr.out
      have htk := num_Take.calls 6 A c l 6 4 _ _ _ wr hrd.2.2 hrd.2.1 HT1.out
      have HTK := Zk htk
      clear hrd htk
      go_wp2_with fail
      refine HTK.out.mono ?_
      rintro e we2 ⟨rfl, ⟨nd, rfl⟩⟩
      have HN2 : Aside0 ((wr.drewN nd).heap[gn]? = some (.cells #[.int .i64 g, .int .i64 0, .int .i64 0] 155 (0, 0))) := ⟨HNr.out⟩
      have HK2 : Aside0 ((wr.drewN nd).heap[gb]? = some (.cells #[.int .i64 0, .int .i64 0, .int .i64 0] 40 (0, 0))) := ⟨HKr.out⟩
      have HV2 := Zk (Kd.V_drewN HVr.out nd)
      have HB2 : Aside0 (Below w.heap.size w (wr.drewN nd)) := ⟨pw_below_drewN HBr.out nd⟩
      clear HTK HNr HKr HVr HBr
      generalize wr.drewN nd = wx at HN2 HK2 HV2 HB2 ⊢
      have ff := blk_frozen HN2.out 1
      have zz : wx.cell? ⟨gn, 1, none⟩ = some (.int .i64 0) := (blk_cell HN2.out 1).trans rfl
      go_wp2
      refine ⟨.inr (.inr (.inl ⟨rfl, rfl, ⟨blk_put HN2.out 1 _ rfl⟩, ⟨blk_far HK2.out HNE.out _⟩, ⟨Kd.V_far HV2.out (fun k hk => by have := HGN2.out; simp only; omega) _⟩, ⟨below_set HB2.out HGN3.out⟩⟩)), by simp [intOf]⟩
    · have hrd := Kd.V_reads' HVr.out
      have htk := num_Take.calls 6 A c l 10 4 _ _ _ wr hrd.2.2 hrd.2.1 HT2.out
      have HTK := Zk htk
      clear hrd htk
      go_wp2_with fail
      refine HTK.out.mono ?_
      rintro e we2 ⟨rfl, ⟨nd, rfl⟩⟩
      have HN2 : Aside0 ((wr.drewN nd).heap[gn]? = some (.cells #[.int .i64 g, .int .i64 s, .int .i64 0] 155 (0, 0))) := ⟨HNr.out⟩
      have HK2 : Aside0 ((wr.drewN nd).heap[gb]? = some (.cells #[.int .i64 0, .int .i64 0, .int .i64 0] 40 (0, 0))) := ⟨HKr.out⟩
      have HV2 := Zk (Kd.V_drewN HVr.out nd)
      have HB2 : Aside0 (Below w.heap.size w (wr.drewN nd)) := ⟨pw_below_drewN HBr.out nd⟩
      clear HTK HNr HKr HVr HBr
      generalize wr.drewN nd = wx at HN2 HK2 HV2 HB2 ⊢
      have ff := blk_frozen HN2.out 2
      have zz : wx.cell? ⟨gn, 2, none⟩ = some (.int .i64 0) := (blk_cell HN2.out 2).trans rfl
      go_wp2
      refine ⟨.inr (.inr (.inr ⟨rfl, rfl, ⟨blk_put HN2.out 2 _ rfl⟩, ⟨blk_far HK2.out HNE.out _⟩, ⟨Kd.V_far HV2.out (fun k hk => by have := HGN2.out; simp only; omega) _⟩, ⟨below_set HB2.out HGN3.out⟩⟩)), by simp [intOf]⟩
    · have z0 : wr.cell? ⟨gn, 0, none⟩ = some (.int .i64 g) := (blk_cell HNr.out 0).trans rfl
      have z1 : wr.cell? ⟨gn, 1, none⟩ = some (.int .i64 s) := (blk_cell HNr.out 1).trans rfl
      have z2 : wr.cell? ⟨gn, 2, none⟩ = some (.int .i64 m) := (blk_cell HNr.out 2).trans rfl
      go_wp2_with (first | (refine gd_ 9 ?_; refine bx_ 9 #[.int .i64 0, .int .i64 0, .int .i64 0] 40 ?_; intro gs hgs wf hbox hb; have HBf := Zk (HBr.out.trans (hb.mono HBr.out.size)); have HS := Zk hbox; have HGS := Zk hgs; have HKf := Zk (blk_below HKr.out hb); have f0 := blk_frozen hbox 0; have f1 := blk_frozen hbox 1; have f2 := blk_frozen hbox 2; have x0 : wf.cell? ⟨gs, 0, none⟩ = some (.int .i64 0) := (blk_cell hbox 0).trans rfl; have x1 : wf.cell? ⟨gs, 1, none⟩ = some (.int .i64 0) := (blk_cell hbox 1).trans rfl; have x2 : wf.cell? ⟨gs, 2, none⟩ = some (.int .i64 0) := (blk_cell hbox 2).trans rfl; clear hb hbox hgs) | fail)
      have HNS : Aside0 (gb ≠ gs) := ⟨by have := blk_lt HKr.out; rw [HGS.out]; omega⟩
      have HGS2 : Aside0 (w.heap.size ≤ gs) := ⟨by rw [HGS.out]; exact HBr.out.size⟩
      have hS3 := blk_put (cs' := #[.int .i64 g, .int .i64 s, .int .i64 m]) (blk_put (cs' := #[.int .i64 g, .int .i64 s, .int .i64 0]) (blk_put (cs' := #[.int .i64 g, .int .i64 0, .int .i64 0]) HS.out 0 (.int .i64 g) rfl) 1 (.int .i64 s) rfl) 2 (.int .i64 m) rfl
      have hK3 := blk_far (blk_far (blk_far HKf.out (p := ⟨gs, 0, none⟩) HNS.out (.int .i64 g)) (p := ⟨gs, 1, none⟩) HNS.out (.int .i64 s)) (p := ⟨gs, 2, none⟩) HNS.out (.int .i64 m)
      have hB3 := below_set (j := 2) (v := .int .i64 m) (below_set (j := 1) (v := .int .i64 s) (below_set (j := 0) (v := .int .i64 g) HBf.out HGS2.out) HGS2.out) HGS2.out
      have HS3 := Zk hS3
      have HK3 := Zk hK3
      have HB3 := Zk hB3
      clear hS3 hK3 hB3 f0 f1 f2 x0 x1 x2 z0 z1 z2
      refine (slot_Print.calls _ _ _ _ _ _ HQ.out).mono ?_
      rintro e wh ⟨rfl, hbh⟩
      have HK4 := Zk (blk_below HK3.out hbh)
      have HB4 : Aside0 (Below w.heap.size w wh) := ⟨HB3.out.trans (hbh.mono HB3.out.size)⟩
      have hS4 := blk_below HS3.out hbh
      have y0 : wh.cell? ⟨gs, 0, none⟩ = some (.int .i64 g) := (blk_cell hS4 0).trans rfl
      have y1 : wh.cell? ⟨gs, 1, none⟩ = some (.int .i64 s) := (blk_cell hS4 1).trans rfl
      have y2 : wh.cell? ⟨gs, 2, none⟩ = some (.int .i64 m) := (blk_cell hS4 2).trans rfl
      clear hbh hS4 HS3 HK3 HB3 HKf HBf HS HNr HKr HVr HBr
      have f0 := blk_frozen HK4.out 0
      have f1 := blk_frozen HK4.out 1
      have f2 := blk_frozen HK4.out 2
      obtain ⟨z0, z1, z2, -, -, -⟩ := cf3_ HK4
      cases b1 with
      | true =>
        have e1' : (q2 == 0) = false := by simpa using e1
        go_wp2
        refine bodyPost_ret (results_ct rfl _ _ gb 40 #[.int .i64 0, .int .i64 0, .int .i64 0] (0, 0) _ rfl (blk_put (cs := #[.int .i64 0, .int .i64 0, .int .i64 0]) (blk_put (cs := #[.int .i64 0, .int .i64 0, .int .i64 0]) (blk_put (cs := #[.int .i64 0, .int .i64 0, .int .i64 0]) HK4.out 0 _ rfl) 1 _ rfl) 2 _ rfl) Tryz.underlying40 rfl (by kernel_rfl)) rfl ?_
        exact ⟨by rw [HRR.out]; rfl, below_set (below_set (below_set HB4.out HG2.out) HG2.out) HG2.out⟩
      | false =>
       cases b2 with
       | true =>
        have e1' : (q2 == 0) = true := by simpa using e1
        have e2' : (q.toList == a0.toList) = false := by simpa using e2
        go_wp2
        refine bodyPost_ret (results_ct rfl _ _ gb 40 #[.int .i64 0, .int .i64 0, .int .i64 0] (0, 0) _ rfl (blk_put (cs := #[.int .i64 0, .int .i64 0, .int .i64 0]) (blk_put (cs := #[.int .i64 0, .int .i64 0, .int .i64 0]) (blk_put (cs := #[.int .i64 0, .int .i64 0, .int .i64 0]) HK4.out 0 _ rfl) 1 _ rfl) 2 _ rfl) Tryz.underlying40 rfl (by kernel_rfl)) rfl ?_
        exact ⟨by rw [HRR.out]; rfl, below_set (below_set (below_set HB4.out HG2.out) HG2.out) HG2.out⟩
       | false =>
        have e1' : (q2 == 0) = true := by simpa using e1
        have e2' : (q.toList == a0.toList) = true := by simpa using e2
        have eq0 : q2 = 0 := by simpa using e1
        go_wp2
        refine bodyPost_ret (results_ct rfl _ _ gb 40 #[.int .i64 g, .int .i64 s, .int .i64 m] (0, 0) _ rfl (blk_put (cs := #[.int .i64 g, .int .i64 s, .int .i64 0]) (blk_put (cs := #[.int .i64 g, .int .i64 0, .int .i64 0]) (blk_put (cs := #[.int .i64 0, .int .i64 0, .int .i64 0]) HK4.out 0 _ rfl) 1 _ rfl) 2 _ rfl) Tryz.underlying40 rfl (by kernel_rfl)) rfl ?_
        exact ⟨by rw [HRR.out]; rfl, below_set (below_set (below_set HB4.out HG2.out) HG2.out) HG2.out⟩
theorem slot_Parse.calls (a0 : ByteArray) (r1 : Int) (r2 : Int) (r3 : Int) (r4 : Int) (w : World) (h : slot_Parse.f a0 = some (r1, r2, r3, r4)) :
  Calls Tryz.prog 60 #[.string a0] w fun e w' => e = .returned (.tuple #[.agg #[.int .i64 r1, .int .i64 r2, .int .i64 r3], .int .i64 r4]) ∧ Below w.heap.size w w' := by
 unfold slot_Parse.f at h
 obtain ⟨⟨l, e⟩, ho, h⟩ := Option.bind_eq_some_iff.1 h
 obtain ⟨p, hp, h⟩ := Option.bind_eq_some_iff.1 h
 by_cases hc : e = 0 ∧ p = true
 case neg =>
  rw [if_neg hc] at h
  have h := Option.some.inj h
  simp only [Prod.mk.injEq] at h
  obtain ⟨rfl, rfl, rfl, rfl⟩ := h
  refine slot_Parse.bad a0 l e p w ho hp ?_
  cases p with
  | true => exact .inl fun h => hc ⟨h, rfl⟩
  | false => exact .inr rfl
 rw [if_pos hc] at h
 obtain ⟨rfl, rfl⟩ := hc
 obtain ⟨⟨q, q2⟩, hq, h⟩ := Option.bind_eq_some_iff.1 h
 have hl : l.length = 36 ∧ ∀ x ∈ l, 0 ≤ x ∧ x < 256 := by
  unfold num_Open.f at ho
  split at ho
  ·rename_i hs
   injection ho with ho
   injection ho with ho _
   unfold isSealed at hs
   simp only [Bool.and_eq_true, decide_eq_true_eq] at hs
   refine ⟨by rw [← ho, List.length_take, hs.1]; rfl, fun x hx => bytesOf_bd a0 x ?_⟩
   rw [← ho] at hx
   exact List.mem_of_mem_take hx
  ·injection ho with ho
   injection ho with _ ho
   cases ho
 have := slot_Parse.good a0 l q q2 (q2 != 0) (q.toList != a0.toList) w ho hp hl.1 hl.2 _ _ _ rfl rfl rfl hq rfl rfl (r1, r2, r3, r4) ?_
 ·exact this
 ·by_cases hx : q2 = 0 ∧ q.toList = a0.toList
  case neg =>
   rw [if_neg hx] at h
   rw [if_neg (by simpa using hx)]
   exact (Option.some.inj h).symm
  rw [if_pos hx] at h
  rw [if_pos ⟨by simpa using hx.1, by simpa using hx.2⟩]
  exact (Option.some.inj h).symm
section
attribute [local go_sem] max2_int min2_int max_two min_two max_three min_three max_four min_four
def slot_Pick.j0 : Nat → Int → Int → Bool → Int → Int → Int → Int → Int → Int → Option (Int × Int × Int × Int × Int)
 | 0, _, _, _, _, _, _, _, _, _ => none
 | k + 1, x8, x10, x21, aA, aC, aD, aB, aE, aF => if x21 = true then (some (0, 0, 0, 0, 4)) else (if x8 = 0 then (if x10 = 0 then (if aB > aA then (some (1, aB, aE, aF, 0)) else (some (0, aA, aC, aD, 0))) else (some (0, aA, aC, aD, 0))) else (some (1, aB, aE, aF, 0)))
def slot_Pick.f (k : Nat) (a0 : ByteArray) (a1 : ByteArray) : Option (Int × Int × Int × Int × Int) := (slot_Parse.f a0).bind fun bt110 => ((slot_Parse.f a1).bind fun bt115 => (if bt110.2.2.2 = 0 then (slot_Pick.j0 k bt110.2.2.2 bt115.2.2.2 false bt110.1 bt110.2.1 bt110.2.2.1 bt115.1 bt115.2.1 bt115.2.2.1) else (slot_Pick.j0 k bt110.2.2.2 bt115.2.2.2 (bt115.2.2.2 != 0) bt110.1 bt110.2.1 bt110.2.2.1 bt115.1 bt115.2.1 bt115.2.2.1)))
theorem slot_Pick.mono_l : ∀ k, (∀ y0 y1 y2 y3 y4 y5 y6 y7 y8, LeO (slot_Pick.j0 k y0 y1 y2 y3 y4 y5 y6 y7 y8) (slot_Pick.j0 (k + 1) y0 y1 y2 y3 y4 y5 y6 y7 y8))
 | 0 => fun _ _ _ _ _ _ _ _ _ r h => by simp [slot_Pick.j0] at h
 | k + 1 => by
  have ih0 := slot_Pick.mono_l k
  ·intro y0 y1 y2 y3 y4 y5 y6 y7 y8
   unfold slot_Pick.j0
   repeat' first
   | (with_reducible exact ih0 _ _ _ _ _ _ _ _ _)
   | (with_reducible exact LeO.refl _)
   | (with_reducible exact LeO.none _)
   | (with_reducible refine LeO.ite ?_ ?_)
   | (with_reducible refine LeO.bind ?_ (fun _ => ?_))
   | exact ih0 _ _ _ _ _ _ _ _ _
   | exact LeO.none _
   | refine LeO.ite ?_ ?_
   | refine LeO.bind ?_ (fun _ => ?_)
theorem slot_Pick.mono : ∀ a0 a1 k, LeO (slot_Pick.f k a0 a1) (slot_Pick.f (k + 1) a0 a1) := by
 intro a0 a1 k
 have ih0 := slot_Pick.mono_l k
 unfold slot_Pick.f
 repeat' first
   | (with_reducible exact ih0 _ _ _ _ _ _ _ _ _)
   | (with_reducible exact LeO.refl _)
   | (with_reducible exact LeO.none _)
   | (with_reducible refine LeO.ite ?_ ?_)
   | (with_reducible refine LeO.bind ?_ (fun _ => ?_))
   | exact ih0 _ _ _ _ _ _ _ _ _
   | exact LeO.none _
   | refine LeO.ite ?_ ?_
   | refine LeO.bind ?_ (fun _ => ?_)
theorem slot_Pick.calls (k : Nat) (a0 : ByteArray) (a1 : ByteArray) (r1 : Int) (r2 : Int) (r3 : Int) (r4 : Int) (r5 : Int) (w : World) (h : slot_Pick.f k a0 a1 = some (r1, r2, r3, r4, r5)) :
  Calls Tryz.prog 24 #[.string a0, .string a1] w fun e w' => e = .returned (.tuple #[.int .i64 r1, .agg #[.int .i64 r2, .int .i64 r3, .int .i64 r4], .int .i64 r5]) ∧ Below w.heap.size w w' := by
 have hu40 := Tryz.underlying40
 have HB := Zk (Below.refl w.heap.size w)
 have H : ((slot_Parse.f a0).bind fun bt110 => ((slot_Parse.f a1).bind fun bt115 => (if bt110.2.2.2 = 0 then (slot_Pick.j0 k bt110.2.2.2 bt115.2.2.2 false bt110.1 bt110.2.1 bt110.2.2.1 bt115.1 bt115.2.1 bt115.2.2.1) else (slot_Pick.j0 k bt110.2.2.2 bt115.2.2.2 (bt115.2.2.2 != 0) bt110.1 bt110.2.1 bt110.2.2.1 bt115.1 bt115.2.1 bt115.2.2.1)))) = some (r1, r2, r3, r4, r5) := h
 clear h
 replace H := Option.bind_eq_some_iff.mp H
 obtain ⟨⟨aM, aP, aQ, aU⟩, A30, H⟩ := H
 (try dsimp only at H)
 have A3 := Zk A30
 clear A30
 replace H := Option.bind_eq_some_iff.mp H
 obtain ⟨⟨aN, aR, aS, aV⟩, A40, H⟩ := H
 (try dsimp only at H)
 have A4 := Zk A40
 clear A40
 have HC5 := Zk H
 clear H
 go_enter Tryz.func24, Tryz.ntmps24
 go_upto_region 3 with (first | (refine gd_ 5 ?_; refine bx_ 5 #[.int .i64 0, .int .i64 0, .int .i64 0] 40 ?_; intro aD hg w6 hbox hb; have aC := Zk (hbox); have eO := gw_ HB hg; replace HB := al_ HB hb; clear hb hbox hg) | (refine gc_ 60 ?_; refine gl_ 60 (some 13) #[.string a0] Tryz.func60 ?_; (with_reducible refine (slot_Parse.calls a0 aM aP aQ aU _ A3.out).mono ?_); rintro e w7 ⟨rfl, hb⟩; refine ⟨_, rfl, ?_⟩; replace aC := ab_ aC hb; replace HB := al_ HB hb; (try clear hb)) | (refine gd_ 7 ?_; refine bx_ 7 #[.int .i64 0, .int .i64 0, .int .i64 0] 40 ?_; intro aK hg w8 hbox hb; have aG := Zk (hbox); have eP := gw_ HB hg; replace HB := al_ HB hb; have aE := n1_ aC hg; have aA := n2_ aC hg; replace aC := ab_ aC hb; clear hb hbox hg; obtain ⟨fX, fY⟩ := nn_ aA aE; obtain ⟨bC, bD, bE, bF, bG, bH⟩ := cf3_ aG) | (refine gc_ 60 ?_; refine gl_ 60 (some 18) #[.string a1] Tryz.func60 ?_; (with_reducible refine (slot_Parse.calls a1 aN aR aS aV _ A4.out).mono ?_); rintro e w11 ⟨rfl, hb⟩; refine ⟨_, rfl, ?_⟩; replace aC := ab_ aC hb; replace aG := abp_ aG hb; replace HB := al_ HB hb; (try clear hb)) | (refine gd_ 9 ?_; refine bx_ 9 #[.int .i64 0, .int .i64 0, .int .i64 0] 40 ?_; intro aL hg w12 hbox hb; have aH := Zk (hbox); have eQ := gw_ HB hg; replace HB := al_ HB hb; have aF := n1_ aC hg; have aB := n2_ aC hg; replace aC := ab_ aC hb; have aI := n1_ aG hg; have aJ := n2_ aG hg; replace aG := ab_ aG hb; clear hb hbox hg; obtain ⟨eR, eS⟩ := nn_ aB aF; obtain ⟨eT, eU⟩ := nn_ aJ aI; obtain ⟨bI, bJ, bK, bL, bM, bN⟩ := cf3_ aH))
 (try simp only [Act.put, List.setIfInBounds_toArray, List.set_cons_zero, List.set_cons_succ])
 go_cut [21] (fun v21 wc => ∃ (kq : Nat) (aT : Bool), v21 = .bool aT ∧ Aside0 (slot_Pick.j0 kq aU aV aT aM aP aQ aN aR aS = some (r1, r2, r3, r4, r5)) ∧ Aside0 (kq ≤ k) ∧ Aside0 (wc.heap[aD]? = some (.cells #[.int .i64 0, .int .i64 0, .int .i64 0] 40 (0, 0))) ∧ Aside0 (wc.heap[aK]? = some (.cells #[.int .i64 aM, .int .i64 aP, .int .i64 aQ] 40 (0, 0))) ∧ Aside0 (wc.heap[aL]? = some (.cells #[.int .i64 aN, .int .i64 aR, .int .i64 aS] 40 (0, 0))) ∧ Aside0 (Below w.heap.size w wc))
 case first =>
  have H := HC5.out
  clear HC5
  by_cases c16 : aU = 0
  case neg =>
   rw [if_neg c16] at H
   have aO := beq_eq_false_iff_ne.mpr c16
   have aW := bne_iff_ne.mpr c16
   (first | rw [aO] | (simp only [i64_w, i32_w]; rw [aO]) | skip)
   have H' := Zk H
   clear H
   go_wp2
   go_meet
   case rel => exact ⟨_, ((aV != 0)), q_, H', ⟨by first | omega | exact Nat.le_refl _⟩, ⟨bk_ aC⟩, ⟨bk_ aG⟩, ⟨bp_ aH⟩, ⟨bl_ HB⟩⟩
  rw [if_pos c16] at H
  have aO := beq_iff_eq.mpr c16
  have aW := bne_eq_false_iff_eq.mpr c16
  clear c16
  (first | rw [aO] | (simp only [i64_w, i32_w]; rw [aO]) | skip)
  have H' := Zk H
  clear H
  go_wp2
  go_meet
  case rel => exact ⟨_, (false), q_, H', ⟨by first | omega | exact Nat.le_refl _⟩, ⟨bk_ aC⟩, ⟨bk_ aG⟩, ⟨bp_ aH⟩, ⟨bl_ HB⟩⟩
 case rest =>
  clear HC5
  try clear aO
  try clear aW
  obtain ⟨kq, aT, rfl, HA, HJ4, aC, aG, aH, HB⟩ := hcut
  cases kq with
  | zero => exact absurd HA.out (by simp [slot_Pick.j0])
  | succ kj4 =>
   have H := HA.out
   clear HA
   simp only [slot_Pick.j0] at H
   by_cases c17 : aT = true
   case pos =>
    subst c17
    rw [if_pos rfl] at H
    simp only [Option.some.injEq, Prod.mk.injEq] at H
    obtain ⟨rfl, rfl, rfl, rfl, rfl⟩ := H
    obtain ⟨eV, eW⟩ := nn_ aE aA
    obtain ⟨eX, eY⟩ := nn_ aF aB
    obtain ⟨bO, bP, bQ, bR, bS, bT⟩ := cf3_ aC
    go_wp2
    refine bodyPost_ret (results_list (rs := [.tmp 4, .cell 5 40, .tmp 6]) rfl (by simp) (.tmp (.cell aD 40 #[.int .i64 0, .int .i64 0, .int .i64 0] (0, 0) _ rfl (bp_ aC) Tryz.underlying40 rfl (by kernel_rfl) (.tmp .nil)))) rfl ?_
    exact ⟨e_, bl_ HB⟩
   replace c17 := Bool.eq_false_iff.mpr c17
   subst c17
   rw [if_neg (show ¬ (false = true) by decide)] at H
   by_cases c21 : aU = 0
   case neg =>
    rw [if_neg c21] at H
    have aX : (aU == 0) = false := beq_eq_false_iff_ne.mpr c21
    have aY : (aU != 0) = true := bne_iff_ne.mpr c21
    simp only [Option.some.injEq, Prod.mk.injEq] at H
    obtain ⟨rfl, rfl, rfl, rfl, rfl⟩ := H
    try go_wp2
    replace aC := Zk (blk_drew aC.out)
    replace aG := Zk (blk_drew aG.out)
    replace aH := Zk (blk_drew aH.out)
    replace HB := Zk (below_drew1 HB.out)
    refine start_ (n := 4) (S := fun w' => w'.cell? ⟨aL, 0, none⟩ = some (.int .i64 aN) ∧ w'.cell? ⟨aL, 1, none⟩ = some (.int .i64 aR) ∧ w'.cell? ⟨aL, 2, none⟩ = some (.int .i64 aS)) (ds := []) #[false, false, false, false] (by kernel_rfl) rfl rfl ⟨(blk_cell aH.out 0).trans rfl, (blk_cell aH.out 1).trans rfl, (blk_cell aH.out 2).trans rfl⟩ (fun hHeld => ?_)
    generalize wc.drew = w46 at aC aG aH HB hHeld ⊢
    refine pure_ (i := 1) (N := some 4) (v := ?_) (a' := ?_) #[false, true, false, false] rfl rfl (by kernel_rfl) (fun _ _ _ h => h) (Or.inl ⟨by rfl, ?_⟩) ?_ ?_
    rotate_left
    ·intro w'
     go_simp
     with_reducible rfl
    rotate_left
    ·simp only [Act.put, List.setIfInBounds_toArray, List.set_cons_zero, List.set_cons_succ, i64_w, i32_w]
     rfl
    refine take_ (i := 0) (N := some 43) (v := ?_) (a' := ?_) #[true, true, false, false] rfl rfl (by kernel_rfl) (fun _ _ _ h => h) (Or.inl ⟨by rfl, ?_⟩) hHeld ?_ ?_
    rotate_left
    ·rintro w' ⟨s0, s1, s2⟩
     go_simp
     with_reducible rfl
    rotate_left
    ·simp only [Act.put, List.setIfInBounds_toArray, List.set_cons_zero, List.set_cons_succ, i64_w, i32_w]
     rfl
    refine one_ (i := 2) (N := none) #[true, true, true, false] rfl rfl (by kernel_rfl) (by decide) (fun K hK => ?_)
    have fZ : w46.cell? ⟨aD, 0, none⟩ = some (.int .i64 0) := (blk_cell aC.out 0).trans rfl
    have eZ := blk_frozen aC.out 0
    obtain ⟨bU, bV⟩ := nn_ aA aB
    obtain ⟨bW, bX⟩ := nn_ aE aF
    have gA : w46.cell? ⟨aD, 1, none⟩ = some (.int .i64 0) := (blk_cell aC.out 1).trans rfl
    have fA := blk_frozen aC.out 1
    obtain ⟨bY, bZ⟩ := nn_ aA aB
    obtain ⟨cA, cB⟩ := nn_ aE aF
    have gB : w46.cell? ⟨aD, 2, none⟩ = some (.int .i64 0) := (blk_cell aC.out 2).trans rfl
    have fB := blk_frozen aC.out 2
    obtain ⟨cC, cD⟩ := nn_ aA aB
    obtain ⟨cE, cF⟩ := nn_ aE aF
    refine skip_ (w1 := ?_) (by rfl) rfl ?_ ?_
    rotate_left
    ·go_simp
     rfl
    refine hK.out _ _ ⟨(cl_ aD aB.out (cl_ aD aB.out (cl_ aD aB.out hHeld.1))), (cl_ aD aB.out (cl_ aD aB.out (cl_ aD aB.out hHeld.2.1))), (cl_ aD aB.out (cl_ aD aB.out (cl_ aD aB.out hHeld.2.2)))⟩ (fun hHeld => ?_)
    clear hK K
    refine pure_ (i := 3) (N := some 6) (v := ?_) (a' := ?_) #[true, true, true, true] rfl rfl (by kernel_rfl) (fun _ _ _ h => h) (Or.inl ⟨by rfl, ?_⟩) ?_ ?_
    rotate_left
    ·intro w'
     go_simp
     with_reducible rfl
    rotate_left
    ·simp only [Act.put, List.setIfInBounds_toArray, List.set_cons_zero, List.set_cons_succ, i64_w, i32_w]
     rfl
    refine done_ (by kernel_rfl) ?_
    try go_wp2
    refine bodyPost_ret (results_list (rs := [.tmp 4, .cell 5 40, .tmp 6]) rfl (by simp) (.tmp (.cell aD 40 #[.int .i64 aN, .int .i64 aR, .int .i64 aS] (0, 0) _ rfl (bp_ aC) Tryz.underlying40 rfl (by kernel_rfl) (.tmp .nil)))) rfl ?_
    exact ⟨e_, bl_ HB⟩
   rw [if_pos c21] at H
   have aX := beq_iff_eq.mpr c21
   have aY := bne_eq_false_iff_eq.mpr c21
   clear c21
   by_cases c22 : aV = 0
   case neg =>
    rw [if_neg c22] at H
    have aZ : (aV == 0) = false := beq_eq_false_iff_ne.mpr c22
    have bA : (aV != 0) = true := bne_iff_ne.mpr c22
    simp only [Option.some.injEq, Prod.mk.injEq] at H
    obtain ⟨rfl, rfl, rfl, rfl, rfl⟩ := H
    try go_wp2
    replace aC := Zk (blk_drew aC.out)
    replace aG := Zk (blk_drew aG.out)
    replace aH := Zk (blk_drew aH.out)
    replace HB := Zk (below_drew1 HB.out)
    refine start_ (n := 4) (S := fun w' => w'.cell? ⟨aK, 0, none⟩ = some (.int .i64 aM) ∧ w'.cell? ⟨aK, 1, none⟩ = some (.int .i64 aP) ∧ w'.cell? ⟨aK, 2, none⟩ = some (.int .i64 aQ)) (ds := []) #[false, false, false, false] (by kernel_rfl) rfl rfl ⟨(blk_cell aG.out 0).trans rfl, (blk_cell aG.out 1).trans rfl, (blk_cell aG.out 2).trans rfl⟩ (fun hHeld => ?_)
    generalize wc.drew = w42 at aC aG aH HB hHeld ⊢
    refine pure_ (i := 1) (N := some 4) (v := ?_) (a' := ?_) #[false, true, false, false] rfl rfl (by kernel_rfl) (fun _ _ _ h => h) (Or.inl ⟨by rfl, ?_⟩) ?_ ?_
    rotate_left
    ·intro w'
     go_simp
     with_reducible rfl
    rotate_left
    ·simp only [Act.put, List.setIfInBounds_toArray, List.set_cons_zero, List.set_cons_succ, i64_w, i32_w]
     rfl
    refine take_ (i := 0) (N := some 44) (v := ?_) (a' := ?_) #[true, true, false, false] rfl rfl (by kernel_rfl) (fun _ _ _ h => h) (Or.inl ⟨by rfl, ?_⟩) hHeld ?_ ?_
    rotate_left
    ·rintro w' ⟨s0, s1, s2⟩
     go_simp
     with_reducible rfl
    rotate_left
    ·simp only [Act.put, List.setIfInBounds_toArray, List.set_cons_zero, List.set_cons_succ, i64_w, i32_w]
     rfl
    refine one_ (i := 2) (N := none) #[true, true, true, false] rfl rfl (by kernel_rfl) (by decide) (fun K hK => ?_)
    have gC : w42.cell? ⟨aD, 0, none⟩ = some (.int .i64 0) := (blk_cell aC.out 0).trans rfl
    have fC := blk_frozen aC.out 0
    obtain ⟨cG, cH⟩ := nn_ aA aB
    obtain ⟨cI, cJ⟩ := nn_ aE aF
    have gD : w42.cell? ⟨aD, 1, none⟩ = some (.int .i64 0) := (blk_cell aC.out 1).trans rfl
    have fD := blk_frozen aC.out 1
    obtain ⟨cK, cL⟩ := nn_ aA aB
    obtain ⟨cM, cN⟩ := nn_ aE aF
    have gE : w42.cell? ⟨aD, 2, none⟩ = some (.int .i64 0) := (blk_cell aC.out 2).trans rfl
    have fE := blk_frozen aC.out 2
    obtain ⟨cO, cP⟩ := nn_ aA aB
    obtain ⟨cQ, cR⟩ := nn_ aE aF
    refine skip_ (w1 := ?_) (by rfl) rfl ?_ ?_
    rotate_left
    ·go_simp
     rfl
    refine hK.out _ _ ⟨(cl_ aD aA.out (cl_ aD aA.out (cl_ aD aA.out hHeld.1))), (cl_ aD aA.out (cl_ aD aA.out (cl_ aD aA.out hHeld.2.1))), (cl_ aD aA.out (cl_ aD aA.out (cl_ aD aA.out hHeld.2.2)))⟩ (fun hHeld => ?_)
    clear hK K
    refine pure_ (i := 3) (N := some 6) (v := ?_) (a' := ?_) #[true, true, true, true] rfl rfl (by kernel_rfl) (fun _ _ _ h => h) (Or.inl ⟨by rfl, ?_⟩) ?_ ?_
    rotate_left
    ·intro w'
     go_simp
     with_reducible rfl
    rotate_left
    ·simp only [Act.put, List.setIfInBounds_toArray, List.set_cons_zero, List.set_cons_succ, i64_w, i32_w]
     rfl
    refine done_ (by kernel_rfl) ?_
    try go_wp2
    refine bodyPost_ret (results_list (rs := [.tmp 4, .cell 5 40, .tmp 6]) rfl (by simp) (.tmp (.cell aD 40 #[.int .i64 aM, .int .i64 aP, .int .i64 aQ] (0, 0) _ rfl (bp_ aC) Tryz.underlying40 rfl (by kernel_rfl) (.tmp .nil)))) rfl ?_
    exact ⟨e_, bl_ HB⟩
   rw [if_pos c22] at H
   have aZ := beq_iff_eq.mpr c22
   have bA := bne_eq_false_iff_eq.mpr c22
   clear c22
   by_cases c23 : aN > aM
   case pos =>
    rw [if_pos c23] at H
    have bB : decide (aM < aN) = true := decide_eq_true c23
    clear c23
    simp only [Option.some.injEq, Prod.mk.injEq] at H
    obtain ⟨rfl, rfl, rfl, rfl, rfl⟩ := H
    obtain ⟨fF, fG⟩ := nn_ aB aF
    obtain ⟨fH, fI⟩ := nn_ aJ aI
    obtain ⟨cS, cT, cU, cV, cW, cX⟩ := cf3_ aH
    obtain ⟨fJ, fK⟩ := nn_ aA aE
    obtain ⟨cY, cZ, dA, dB, dC, dD⟩ := cf3_ aG
    try go_wp2
    replace aC := Zk (blk_drew aC.out)
    replace aG := Zk (blk_drew aG.out)
    replace aH := Zk (blk_drew aH.out)
    replace HB := Zk (below_drew1 HB.out)
    refine start_ (n := 4) (S := fun w' => w'.cell? ⟨aL, 0, none⟩ = some (.int .i64 aN) ∧ w'.cell? ⟨aL, 1, none⟩ = some (.int .i64 aR) ∧ w'.cell? ⟨aL, 2, none⟩ = some (.int .i64 aS)) (ds := []) #[false, false, false, false] (by kernel_rfl) rfl rfl ⟨(blk_cell aH.out 0).trans rfl, (blk_cell aH.out 1).trans rfl, (blk_cell aH.out 2).trans rfl⟩ (fun hHeld => ?_)
    generalize wc.drew = w29 at aC aG aH HB hHeld ⊢
    refine pure_ (i := 1) (N := some 4) (v := ?_) (a' := ?_) #[false, true, false, false] rfl rfl (by kernel_rfl) (fun _ _ _ h => h) (Or.inl ⟨by rfl, ?_⟩) ?_ ?_
    rotate_left
    ·intro w'
     go_simp
     with_reducible rfl
    rotate_left
    ·simp only [Act.put, List.setIfInBounds_toArray, List.set_cons_zero, List.set_cons_succ, i64_w, i32_w]
     rfl
    refine take_ (i := 0) (N := some 43) (v := ?_) (a' := ?_) #[true, true, false, false] rfl rfl (by kernel_rfl) (fun _ _ _ h => h) (Or.inl ⟨by rfl, ?_⟩) hHeld ?_ ?_
    rotate_left
    ·rintro w' ⟨s0, s1, s2⟩
     go_simp
     with_reducible rfl
    rotate_left
    ·simp only [Act.put, List.setIfInBounds_toArray, List.set_cons_zero, List.set_cons_succ, i64_w, i32_w]
     rfl
    refine one_ (i := 2) (N := none) #[true, true, true, false] rfl rfl (by kernel_rfl) (by decide) (fun K hK => ?_)
    have gF : w29.cell? ⟨aD, 0, none⟩ = some (.int .i64 0) := (blk_cell aC.out 0).trans rfl
    have fL := blk_frozen aC.out 0
    obtain ⟨dE, dF⟩ := nn_ aA aB
    obtain ⟨dG, dH⟩ := nn_ aE aF
    have gG : w29.cell? ⟨aD, 1, none⟩ = some (.int .i64 0) := (blk_cell aC.out 1).trans rfl
    have fM := blk_frozen aC.out 1
    obtain ⟨dI, dJ⟩ := nn_ aA aB
    obtain ⟨dK, dL⟩ := nn_ aE aF
    have gH : w29.cell? ⟨aD, 2, none⟩ = some (.int .i64 0) := (blk_cell aC.out 2).trans rfl
    have fN := blk_frozen aC.out 2
    obtain ⟨dM, dN⟩ := nn_ aA aB
    obtain ⟨dO, dP⟩ := nn_ aE aF
    refine skip_ (w1 := ?_) (by rfl) rfl ?_ ?_
    rotate_left
    ·go_simp
     rfl
    refine hK.out _ _ ⟨(cl_ aD aB.out (cl_ aD aB.out (cl_ aD aB.out hHeld.1))), (cl_ aD aB.out (cl_ aD aB.out (cl_ aD aB.out hHeld.2.1))), (cl_ aD aB.out (cl_ aD aB.out (cl_ aD aB.out hHeld.2.2)))⟩ (fun hHeld => ?_)
    clear hK K
    refine pure_ (i := 3) (N := some 6) (v := ?_) (a' := ?_) #[true, true, true, true] rfl rfl (by kernel_rfl) (fun _ _ _ h => h) (Or.inl ⟨by rfl, ?_⟩) ?_ ?_
    rotate_left
    ·intro w'
     go_simp
     with_reducible rfl
    rotate_left
    ·simp only [Act.put, List.setIfInBounds_toArray, List.set_cons_zero, List.set_cons_succ, i64_w, i32_w]
     rfl
    refine done_ (by kernel_rfl) ?_
    try go_wp2
    refine bodyPost_ret (results_list (rs := [.tmp 4, .cell 5 40, .tmp 6]) rfl (by simp) (.tmp (.cell aD 40 #[.int .i64 aN, .int .i64 aR, .int .i64 aS] (0, 0) _ rfl (bp_ aC) Tryz.underlying40 rfl (by kernel_rfl) (.tmp .nil)))) rfl ?_
    exact ⟨e_, bl_ HB⟩
   rw [if_neg c23] at H
   have bB : decide (aM < aN) = false := decide_eq_false c23
   clear c23
   simp only [Option.some.injEq, Prod.mk.injEq] at H
   obtain ⟨rfl, rfl, rfl, rfl, rfl⟩ := H
   obtain ⟨fO, fP⟩ := nn_ aB aF
   obtain ⟨fQ, fR⟩ := nn_ aJ aI
   obtain ⟨dQ, dR, dS, dT, dU, dV⟩ := cf3_ aH
   obtain ⟨fS, fT⟩ := nn_ aA aE
   obtain ⟨dW, dX, dY, dZ, eA, eB⟩ := cf3_ aG
   try go_wp2
   replace aC := Zk (blk_drew aC.out)
   replace aG := Zk (blk_drew aG.out)
   replace aH := Zk (blk_drew aH.out)
   replace HB := Zk (below_drew1 HB.out)
   refine start_ (n := 4) (S := fun w' => w'.cell? ⟨aK, 0, none⟩ = some (.int .i64 aM) ∧ w'.cell? ⟨aK, 1, none⟩ = some (.int .i64 aP) ∧ w'.cell? ⟨aK, 2, none⟩ = some (.int .i64 aQ)) (ds := []) #[false, false, false, false] (by kernel_rfl) rfl rfl ⟨(blk_cell aG.out 0).trans rfl, (blk_cell aG.out 1).trans rfl, (blk_cell aG.out 2).trans rfl⟩ (fun hHeld => ?_)
   generalize wc.drew = w38 at aC aG aH HB hHeld ⊢
   refine pure_ (i := 1) (N := some 4) (v := ?_) (a' := ?_) #[false, true, false, false] rfl rfl (by kernel_rfl) (fun _ _ _ h => h) (Or.inl ⟨by rfl, ?_⟩) ?_ ?_
   rotate_left
   ·intro w'
    go_simp
    with_reducible rfl
   rotate_left
   ·simp only [Act.put, List.setIfInBounds_toArray, List.set_cons_zero, List.set_cons_succ, i64_w, i32_w]
    rfl
   refine take_ (i := 0) (N := some 44) (v := ?_) (a' := ?_) #[true, true, false, false] rfl rfl (by kernel_rfl) (fun _ _ _ h => h) (Or.inl ⟨by rfl, ?_⟩) hHeld ?_ ?_
   rotate_left
   ·rintro w' ⟨s0, s1, s2⟩
    go_simp
    with_reducible rfl
   rotate_left
   ·simp only [Act.put, List.setIfInBounds_toArray, List.set_cons_zero, List.set_cons_succ, i64_w, i32_w]
    rfl
   refine one_ (i := 2) (N := none) #[true, true, true, false] rfl rfl (by kernel_rfl) (by decide) (fun K hK => ?_)
   have gI : w38.cell? ⟨aD, 0, none⟩ = some (.int .i64 0) := (blk_cell aC.out 0).trans rfl
   have fU := blk_frozen aC.out 0
   obtain ⟨eC, eD⟩ := nn_ aA aB
   obtain ⟨eE, eF⟩ := nn_ aE aF
   have gJ : w38.cell? ⟨aD, 1, none⟩ = some (.int .i64 0) := (blk_cell aC.out 1).trans rfl
   have fV := blk_frozen aC.out 1
   obtain ⟨eG, eH⟩ := nn_ aA aB
   obtain ⟨eI, eJ⟩ := nn_ aE aF
   have gK : w38.cell? ⟨aD, 2, none⟩ = some (.int .i64 0) := (blk_cell aC.out 2).trans rfl
   have fW := blk_frozen aC.out 2
   obtain ⟨eK, eL⟩ := nn_ aA aB
   obtain ⟨eM, eN⟩ := nn_ aE aF
   refine skip_ (w1 := ?_) (by rfl) rfl ?_ ?_
   rotate_left
   ·go_simp
    rfl
   refine hK.out _ _ ⟨(cl_ aD aA.out (cl_ aD aA.out (cl_ aD aA.out hHeld.1))), (cl_ aD aA.out (cl_ aD aA.out (cl_ aD aA.out hHeld.2.1))), (cl_ aD aA.out (cl_ aD aA.out (cl_ aD aA.out hHeld.2.2)))⟩ (fun hHeld => ?_)
   clear hK K
   refine pure_ (i := 3) (N := some 6) (v := ?_) (a' := ?_) #[true, true, true, true] rfl rfl (by kernel_rfl) (fun _ _ _ h => h) (Or.inl ⟨by rfl, ?_⟩) ?_ ?_
   rotate_left
   ·intro w'
    go_simp
    with_reducible rfl
   rotate_left
   ·simp only [Act.put, List.setIfInBounds_toArray, List.set_cons_zero, List.set_cons_succ, i64_w, i32_w]
    rfl
   refine done_ (by kernel_rfl) ?_
   try go_wp2
   refine bodyPost_ret (results_list (rs := [.tmp 4, .cell 5 40, .tmp 6]) rfl (by simp) (.tmp (.cell aD 40 #[.int .i64 aM, .int .i64 aP, .int .i64 aQ] (0, 0) _ rfl (bp_ aC) Tryz.underlying40 rfl (by kernel_rfl) (.tmp .nil)))) rfl ?_
   exact ⟨e_, bl_ HB⟩
end
theorem toList_inj {x y : ByteArray} (h : x.toList = y.toList) : x = y := by
 rw [ByteArray.toList_eq, ByteArray.toList_eq] at h
 cases x; cases y
 simp at h
 rw [h]
abbrev Rt (g s m : Int) : Prop := 1 ≤ g ∧ g ≤ 2147483647 ∧ 0 ≤ s ∧ s ≤ 2147483647 ∧ 0 ≤ m ∧ m < 4294967296
def blk (g s m : Int) : ByteArray := strOfNums (pad (slot_Print.row g s m) ++ le (crc (pad (slot_Print.row g s m))) 4)
theorem row_eq (g s m : Int) : slot_Print.row g s m = 97 :: 115 :: (le4 g ++ le4 s ++ le4 m) := by simp [slot_Print.row, le, le4]
theorem row_len (g s m : Int) : (slot_Print.row g s m).length = 14 := by simp [row_eq, le4]
theorem print_ok {g s m : Int} (h : Rt g s m) : slot_Print.f g s m = some (blk g s m, 0) := by
 unfold slot_Print.f
 rw [if_pos ((right_iff _ _ _).2 h)]
 unfold num_Seal.f
 rw [if_neg (by rw [row_len]; omega)]
 rfl
theorem print_bad {g s m : Int} (h : ¬ Rt g s m) : slot_Print.f g s m = some (⟨#[]⟩, 1) := by
 unfold slot_Print.f
 rw [if_neg fun hr => h ((right_iff _ _ _).1 hr)]
theorem prefix_any (b : ByteArray) : ∃ p, strings_HasPrefix.f b ⟨#[97, 115]⟩ = some p := by
 have h2 : ((⟨#[97, 115]⟩ : ByteArray).size : Int) = 2 := rfl
 unfold strings_HasPrefix.f stringslite_HasPrefix.f
 rw [h2]
 by_cases h : (b.size : Int) ≥ 2
 case neg =>
  rw [if_neg h]
  exact ⟨_, rfl⟩
 rw [if_pos h, if_pos (by omega), if_pos h]
 exact ⟨_, rfl⟩
theorem parse_cases (b : ByteArray) : slot_Parse.f b = some (0, 0, 0, 2) ∨ ∃ g s m, Rt g s m ∧ b = blk g s m ∧ slot_Parse.f b = some (g, s, m, 0) := by
 obtain ⟨⟨l, e⟩, ho⟩ : ∃ o, num_Open.f b = some o := by unfold num_Open.f; split <;> exact ⟨_, rfl⟩
 obtain ⟨p, hp⟩ := prefix_any b
 unfold slot_Parse.f
 rw [ho, Option.bind_some, hp, Option.bind_some]
 by_cases hc : e = 0 ∧ p = true
 case neg =>
  rw [if_neg hc]
  exact .inl rfl
 rw [if_pos hc]
 by_cases hr : Rt (lev l 2 4) (lev l 6 4) (lev l 10 4)
 case neg =>
  simp only []
  rw [print_bad hr, Option.bind_some, if_neg (by simp)]
  exact .inl rfl
 simp only []
 rw [print_ok hr, Option.bind_some]
 by_cases hx : (blk (lev l 2 4) (lev l 6 4) (lev l 10 4)).toList = b.toList
 case neg =>
  rw [if_neg fun h => hx h.2]
  exact .inl rfl
 rw [if_pos ⟨rfl, hx⟩]
 exact .inr ⟨_, _, _, hr, (toList_inj hx).symm, rfl⟩
theorem pick_val (k : Nat) {a b : ByteArray} {x1 x2 x3 e y1 y2 y3 f : Int} (hx : slot_Parse.f a = some (x1, x2, x3, e)) (hy : slot_Parse.f b = some (y1, y2, y3, f)) :
  slot_Pick.f (k + 1) a b = some (if e ≠ 0 ∧ f ≠ 0 then (0, 0, 0, 0, 4) else if e ≠ 0 ∨ (f = 0 ∧ y1 > x1) then (1, y1, y2, y3, 0) else (0, x1, x2, x3, 0)) := by
 unfold slot_Pick.f
 rw [hx, Option.bind_some, hy, Option.bind_some]
 simp only [slot_Pick.j0]
 by_cases he : e = 0
 case neg =>
  by_cases hf : f = 0
  case neg => simp [he, hf]
  subst hf
  simp [he]
 subst he
 by_cases hf : f = 0
 case neg => simp [hf]
 subst hf
 by_cases hg : y1 > x1 <;> simp [hg]
section
attribute [local go_sem] max2_int min2_int max_two min_two max_three min_three max_four min_four
def mount_Super.f (k : Nat) (l0_0 : List ByteArray) (l0_1 : List (S98)) : Option (Int × Int × Int × Int) := (disk_Read.f l0_0 l0_1 0).bind fun bt122 => ((disk_Read.f l0_0 l0_1 1).bind fun bt124 => ((slot_Pick.f k bt122.1 bt124.1).bind fun bt126 => (if bt126.2.2.2.2 = 0 then (if (l0_0.length : Int) < 2 then (some (0, 0, 0, 4)) else (some (bt126.2.1, bt126.2.2.1, bt126.2.2.2.1, 0))) else (some (0, 0, 0, 4)))))
theorem mount_Super.mono : ∀ a0 a1 k, LeO (mount_Super.f k a0 a1) (mount_Super.f (k + 1) a0 a1) := by
 intro a0 a1 k
 unfold mount_Super.f
 repeat' first
   | (with_reducible exact slot_Pick.mono _ _ _)
   | (with_reducible exact LeO.refl _)
   | (with_reducible exact LeO.none _)
   | (with_reducible refine LeO.ite ?_ ?_)
   | (with_reducible refine LeO.bind ?_ (fun _ => ?_))
   | exact slot_Pick.mono _ _ _
   | exact LeO.none _
   | refine LeO.ite ?_ ?_
   | refine LeO.bind ?_ (fun _ => ?_)
theorem mount_Super.calls (k : Nat) (A0_0 : Option Addr) (c0_0 : Nat) (l0_0 : List ByteArray) (A0_1 : Option Addr) (c0_1 : Nat) (l0_1 : List (S98)) (r1 : Int) (r2 : Int) (r3 : Int) (r4 : Int) (w : World) (hr0_0 : Kd.C Kd.string w A0_0 l0_0.length l0_0) (hc0_0 : l0_0.length ≤ c0_0) (hr0_1 : Kd.C k98 w A0_1 l0_1.length l0_1) (hc0_1 : l0_1.length ≤ c0_1) (h : mount_Super.f k l0_0 l0_1 = some (r1, r2, r3, r4)) :
  Calls Tryz.prog 8 #[.agg #[.slice A0_0 l0_0.length c0_0, .slice A0_1 l0_1.length c0_1]] w fun e w' => e = .returned (.tuple #[.agg #[.int .i64 r1, .int .i64 r2, .int .i64 r3], .int .i64 r4]) ∧ Below w.heap.size w w' := by
 have hu25 := Tryz.underlying25
 have hu40 := Tryz.underlying40
 have aI := Zk hr0_0
 have aJ := Zk hc0_0
 clear hr0_0 hc0_0
 have aK := Zk hr0_1
 have aL := Zk hc0_1
 clear hr0_1 hc0_1
 have HB := Zk (Below.refl w.heap.size w)
 have H : ((disk_Read.f l0_0 l0_1 0).bind fun bt122 => ((disk_Read.f l0_0 l0_1 1).bind fun bt124 => ((slot_Pick.f k bt122.1 bt124.1).bind fun bt126 => (if bt126.2.2.2.2 = 0 then (if (l0_0.length : Int) < 2 then (some (0, 0, 0, 4)) else (some (bt126.2.1, bt126.2.2.1, bt126.2.2.2.1, 0))) else (some (0, 0, 0, 4)))))) = some (r1, r2, r3, r4) := h
 clear h
 replace H := Option.bind_eq_some_iff.mp H
 obtain ⟨⟨aM, aZ⟩, A20, H⟩ := H
 (try dsimp only at H)
 have A2 := Zk A20
 clear A20
 replace H := Option.bind_eq_some_iff.mp H
 obtain ⟨⟨aN, bA⟩, A30, H⟩ := H
 (try dsimp only at H)
 have A3 := Zk A30
 clear A30
 replace H := Option.bind_eq_some_iff.mp H
 obtain ⟨⟨bB, aQ, aR, aS, aT⟩, A40, H⟩ := H
 (try dsimp only at H)
 have A4 := Zk A40
 clear A40
 by_cases c5 : aT = 0
 case neg =>
  rw [if_neg c5] at H
  have dS := beq_eq_false_iff_ne.mpr c5
  have dT := bne_iff_ne.mpr c5
  simp only [Option.some.injEq, Prod.mk.injEq] at H
  obtain ⟨rfl, rfl, rfl, rfl⟩ := H
  go_enter Tryz.func8, Tryz.ntmps8
  go_wp2_with (first | (refine gd_ 1 ?_; (try (refine gate_guard (by rfl) ?_; dsimp only)); refine bx_ 1 #[.slice A0_0 l0_0.length c0_0, .slice A0_1 l0_1.length c0_1] 25 ?_; intro aU hg w35 hbox hb; have aA := Zk (hbox); have aV := gw_ HB hg; replace HB := al_ HB hb; clear hb hbox hg) | (refine gd_ 2 ?_; (try (refine gate_guard (by rfl) ?_; dsimp only)); refine bx_ 2 #[.int .i64 0, .int .i64 0, .int .i64 0] 40 ?_; intro aO hg w36 hbox hb; have aB := Zk (hbox); have aW := gw_ HB hg; replace HB := al_ HB hb; have aC := n1_ aA hg; have aD := n2_ aA hg; replace aA := ab_ aA hb; clear hb hbox hg; obtain ⟨dW, dX⟩ := nn_ aC aD; obtain ⟨bC, bD, bE, bF⟩ := cf2_ aA) | (refine gc_ 23 ?_; refine gl_ 23 (some 13) #[.agg #[.slice A0_0 l0_0.length c0_0, .slice A0_1 l0_1.length c0_1], .int .i64 0] Tryz.func23 ?_; (with_reducible refine (disk_Read.calls _ _ l0_0 _ _ l0_1 0 aM aZ _ (cb_ aI HB) aJ.out (cb_ aK HB) aL.out A2.out).mono ?_); rintro e w39 ⟨rfl, hb⟩; refine ⟨_, rfl, ?_⟩; replace aA := ab_ aA hb; replace aB := ab_ aB hb; replace HB := al_ HB hb; (try clear hb); obtain ⟨bG, bH, bI, bJ⟩ := cf2_ aA) | (refine gc_ 23 ?_; refine gl_ 23 (some 18) #[.agg #[.slice A0_0 l0_0.length c0_0, .slice A0_1 l0_1.length c0_1], .int .i64 1] Tryz.func23 ?_; (with_reducible refine (disk_Read.calls _ _ l0_0 _ _ l0_1 1 aN bA _ (cb_ aI HB) aJ.out (cb_ aK HB) aL.out A3.out).mono ?_); rintro e w41 ⟨rfl, hb⟩; refine ⟨_, rfl, ?_⟩; replace aA := ab_ aA hb; replace aB := ab_ aB hb; replace HB := al_ HB hb; (try clear hb)) | (refine gc_ 24 ?_; refine gl_ 24 (some 24) #[.string aM, .string aN] Tryz.func24 ?_; (with_reducible refine (slot_Pick.calls k aM aN bB aQ aR aS aT _ A4.out).mono ?_); rintro e w42 ⟨rfl, hb⟩; refine ⟨_, rfl, ?_⟩; replace aA := ab_ aA hb; replace aB := ab_ aB hb; replace HB := al_ HB hb; (try clear hb)) | (refine gd_ 9 ?_; (try (refine gate_guard (by rfl) ?_; dsimp only)); refine bx_ 9 #[.int .i64 0, .int .i64 0, .int .i64 0] 40 ?_; intro aX hg w43 hbox hb; have aP := Zk (hbox); have aY := gw_ HB hg; replace HB := al_ HB hb; have aE := n1_ aA hg; have aF := n2_ aA hg; replace aA := ab_ aA hb; have aG := n1_ aB hg; have aH := n2_ aB hg; replace aB := ab_ aB hb; clear hb hbox hg; obtain ⟨dY, dZ⟩ := nn_ aF aE; obtain ⟨eA, eB⟩ := nn_ aH aG; obtain ⟨bK, bL, bM, bN, bO, bP⟩ := cf3_ aP; obtain ⟨bQ, bR, bS, bT, bU, bV⟩ := cf3_ aB))
  refine bodyPost_ret (results_ct rfl _ _ aO 40 #[.int .i64 0, .int .i64 0, .int .i64 0] (0, 0) _ rfl (bp_ aB) Tryz.underlying40 rfl (by kernel_rfl)) rfl ?_
  exact ⟨e_, bl_ HB⟩
 rw [if_pos c5] at H
 have dS := beq_iff_eq.mpr c5
 have dT := bne_eq_false_iff_eq.mpr c5
 clear c5
 by_cases c6 : (l0_0.length : Int) < 2
 case pos =>
  rw [if_pos c6] at H
  have dU := decide_eq_true c6
  have dV : decide (l0_0.length < 2) = true := decide_eq_true (by omega)
  clear c6
  simp only [Option.some.injEq, Prod.mk.injEq] at H
  obtain ⟨rfl, rfl, rfl, rfl⟩ := H
  go_enter Tryz.func8, Tryz.ntmps8
  go_wp2_with (first | (refine gd_ 1 ?_; (try (refine gate_guard (by rfl) ?_; dsimp only)); refine bx_ 1 #[.slice A0_0 l0_0.length c0_0, .slice A0_1 l0_1.length c0_1] 25 ?_; intro aU hg w7 hbox hb; have aA := Zk (hbox); have aV := gw_ HB hg; replace HB := al_ HB hb; clear hb hbox hg) | (refine gd_ 2 ?_; (try (refine gate_guard (by rfl) ?_; dsimp only)); refine bx_ 2 #[.int .i64 0, .int .i64 0, .int .i64 0] 40 ?_; intro aO hg w8 hbox hb; have aB := Zk (hbox); have aW := gw_ HB hg; replace HB := al_ HB hb; have aC := n1_ aA hg; have aD := n2_ aA hg; replace aA := ab_ aA hb; clear hb hbox hg; obtain ⟨eM, eN⟩ := nn_ aC aD; obtain ⟨bW, bX, bY, bZ⟩ := cf2_ aA) | (refine gc_ 23 ?_; refine gl_ 23 (some 13) #[.agg #[.slice A0_0 l0_0.length c0_0, .slice A0_1 l0_1.length c0_1], .int .i64 0] Tryz.func23 ?_; (with_reducible refine (disk_Read.calls _ _ l0_0 _ _ l0_1 0 aM aZ _ (cb_ aI HB) aJ.out (cb_ aK HB) aL.out A2.out).mono ?_); rintro e w11 ⟨rfl, hb⟩; refine ⟨_, rfl, ?_⟩; replace aA := ab_ aA hb; replace aB := ab_ aB hb; replace HB := al_ HB hb; (try clear hb); obtain ⟨cA, cB, cC, cD⟩ := cf2_ aA) | (refine gc_ 23 ?_; refine gl_ 23 (some 18) #[.agg #[.slice A0_0 l0_0.length c0_0, .slice A0_1 l0_1.length c0_1], .int .i64 1] Tryz.func23 ?_; (with_reducible refine (disk_Read.calls _ _ l0_0 _ _ l0_1 1 aN bA _ (cb_ aI HB) aJ.out (cb_ aK HB) aL.out A3.out).mono ?_); rintro e w13 ⟨rfl, hb⟩; refine ⟨_, rfl, ?_⟩; replace aA := ab_ aA hb; replace aB := ab_ aB hb; replace HB := al_ HB hb; (try clear hb)) | (refine gc_ 24 ?_; refine gl_ 24 (some 24) #[.string aM, .string aN] Tryz.func24 ?_; (with_reducible refine (slot_Pick.calls k aM aN bB aQ aR aS aT _ A4.out).mono ?_); rintro e w14 ⟨rfl, hb⟩; refine ⟨_, rfl, ?_⟩; replace aA := ab_ aA hb; replace aB := ab_ aB hb; replace HB := al_ HB hb; (try clear hb)) | (refine gd_ 9 ?_; (try (refine gate_guard (by rfl) ?_; dsimp only)); refine bx_ 9 #[.int .i64 0, .int .i64 0, .int .i64 0] 40 ?_; intro aX hg w15 hbox hb; have aP := Zk (hbox); have aY := gw_ HB hg; replace HB := al_ HB hb; have aE := n1_ aA hg; have aF := n2_ aA hg; replace aA := ab_ aA hb; have aG := n1_ aB hg; have aH := n2_ aB hg; replace aB := ab_ aB hb; clear hb hbox hg; obtain ⟨eC, eD⟩ := nn_ aF aE; obtain ⟨eE, eF⟩ := nn_ aH aG; obtain ⟨cE, cF, cG, cH, cI, cJ⟩ := cf3_ aP; obtain ⟨cK, cL, cM, cN⟩ := cf2_ aA; obtain ⟨cO, cP, cQ, cR, cS, cT⟩ := cf3_ aB))
  refine bodyPost_ret (results_ct rfl _ _ aO 40 #[.int .i64 0, .int .i64 0, .int .i64 0] (0, 0) _ rfl (bp_ aB) Tryz.underlying40 rfl (by kernel_rfl)) rfl ?_
  exact ⟨e_, bl_ HB⟩
 rw [if_neg c6] at H
 have dU := decide_eq_false c6
 have dV : decide (l0_0.length < 2) = false := decide_eq_false (by omega)
 clear c6
 simp only [Option.some.injEq, Prod.mk.injEq] at H
 obtain ⟨rfl, rfl, rfl, rfl⟩ := H
 go_enter Tryz.func8, Tryz.ntmps8
 go_wp2_with (first | (refine gd_ 1 ?_; (try (refine gate_guard (by rfl) ?_; dsimp only)); refine bx_ 1 #[.slice A0_0 l0_0.length c0_0, .slice A0_1 l0_1.length c0_1] 25 ?_; intro aU hg w21 hbox hb; have aA := Zk (hbox); have aV := gw_ HB hg; replace HB := al_ HB hb; clear hb hbox hg) | (refine gd_ 2 ?_; (try (refine gate_guard (by rfl) ?_; dsimp only)); refine bx_ 2 #[.int .i64 0, .int .i64 0, .int .i64 0] 40 ?_; intro aO hg w22 hbox hb; have aB := Zk (hbox); have aW := gw_ HB hg; replace HB := al_ HB hb; have aC := n1_ aA hg; have aD := n2_ aA hg; replace aA := ab_ aA hb; clear hb hbox hg; obtain ⟨eG, eH⟩ := nn_ aC aD; obtain ⟨cU, cV, cW, cX⟩ := cf2_ aA) | (refine gc_ 23 ?_; refine gl_ 23 (some 13) #[.agg #[.slice A0_0 l0_0.length c0_0, .slice A0_1 l0_1.length c0_1], .int .i64 0] Tryz.func23 ?_; (with_reducible refine (disk_Read.calls _ _ l0_0 _ _ l0_1 0 aM aZ _ (cb_ aI HB) aJ.out (cb_ aK HB) aL.out A2.out).mono ?_); rintro e w25 ⟨rfl, hb⟩; refine ⟨_, rfl, ?_⟩; replace aA := ab_ aA hb; replace aB := ab_ aB hb; replace HB := al_ HB hb; (try clear hb); obtain ⟨cY, cZ, dA, dB⟩ := cf2_ aA) | (refine gc_ 23 ?_; refine gl_ 23 (some 18) #[.agg #[.slice A0_0 l0_0.length c0_0, .slice A0_1 l0_1.length c0_1], .int .i64 1] Tryz.func23 ?_; (with_reducible refine (disk_Read.calls _ _ l0_0 _ _ l0_1 1 aN bA _ (cb_ aI HB) aJ.out (cb_ aK HB) aL.out A3.out).mono ?_); rintro e w27 ⟨rfl, hb⟩; refine ⟨_, rfl, ?_⟩; replace aA := ab_ aA hb; replace aB := ab_ aB hb; replace HB := al_ HB hb; (try clear hb)) | (refine gc_ 24 ?_; refine gl_ 24 (some 24) #[.string aM, .string aN] Tryz.func24 ?_; (with_reducible refine (slot_Pick.calls k aM aN bB aQ aR aS aT _ A4.out).mono ?_); rintro e w28 ⟨rfl, hb⟩; refine ⟨_, rfl, ?_⟩; replace aA := ab_ aA hb; replace aB := ab_ aB hb; replace HB := al_ HB hb; (try clear hb)) | (refine gd_ 9 ?_; (try (refine gate_guard (by rfl) ?_; dsimp only)); refine bx_ 9 #[.int .i64 0, .int .i64 0, .int .i64 0] 40 ?_; intro aX hg w29 hbox hb; have aP := Zk (hbox); have aY := gw_ HB hg; replace HB := al_ HB hb; have aE := n1_ aA hg; have aF := n2_ aA hg; replace aA := ab_ aA hb; have aG := n1_ aB hg; have aH := n2_ aB hg; replace aB := ab_ aB hb; clear hb hbox hg; obtain ⟨eI, eJ⟩ := nn_ aF aE; obtain ⟨eK, eL⟩ := nn_ aH aG; obtain ⟨dC, dD, dE, dF, dG, dH⟩ := cf3_ aP; obtain ⟨dI, dJ, dK, dL⟩ := cf2_ aA; obtain ⟨dM, dN, dO, dP, dQ, dR⟩ := cf3_ aB))
 refine bodyPost_ret (results_ct rfl _ _ aO 40 #[.int .i64 aQ, .int .i64 aR, .int .i64 aS] (0, 0) _ rfl (bp_ aB) Tryz.underlying40 rfl (by kernel_rfl)) rfl ?_
 exact ⟨e_, bl_ HB⟩
end
theorem parse_any (b : ByteArray) : ∃ g s m e, slot_Parse.f b = some (g, s, m, e) ∧ (e = 0 → Rt g s m) := by
 rcases parse_cases b with h | ⟨g, s, m, hr, -, h⟩
 ·exact ⟨0, 0, 0, 2, h, fun e => by cases e⟩
 ·exact ⟨g, s, m, 0, h, fun _ => hr⟩
theorem super_val (l0 : List ByteArray) (l1 : List S98) (h1 : l1.length < 1000000) : ∃ g s m e, mount_Super.f 100000 l0 l1 = some (g, s, m, e) ∧ (e = 0 → Rt g s m) := by
 unfold mount_Super.f
 have hd : ∀ i, disk_Read.f l0 l1 i = some (readB l0 l1 i) := fun i => by unfold disk_Read.f; rw [if_pos h1]
 rw [hd, hd]
 simp only [Option.bind_some]
 obtain ⟨x1, x2, x3, e, hx, hxr⟩ := parse_any (readB l0 l1 0).1
 obtain ⟨y1, y2, y3, f, hy, hyr⟩ := parse_any (readB l0 l1 1).1
 have key : ∀ K, K = 99999 + 1 → slot_Pick.f K (readB l0 l1 0).1 (readB l0 l1 1).1 = some (if e ≠ 0 ∧ f ≠ 0 then (0, 0, 0, 0, 4) else if e ≠ 0 ∨ (f = 0 ∧ y1 > x1) then (1, y1, y2, y3, 0) else (0, x1, x2, x3, 0)) := fun K hK => by rw [hK]; exact pick_val 99999 hx hy
 rw [key 100000 rfl]
 simp only [Option.bind_some]
 by_cases c1 : e ≠ 0 ∧ f ≠ 0
 case pos =>
  rw [if_pos c1]
  exact ⟨0, 0, 0, 4, rfl, fun h => by cases h⟩
 rw [if_neg c1]
 by_cases c2 : e ≠ 0 ∨ (f = 0 ∧ y1 > x1)
 case neg =>
  rw [if_neg c2]
  by_cases c3 : (l0.length : Int) < 2
  case pos => exact ⟨0, 0, 0, 4, by simp [c3], fun h => by cases h⟩
  exact ⟨x1, x2, x3, 0, by simp [c3], fun _ => hxr (Classical.byContradiction fun he => c2 (.inl he))⟩
 rw [if_pos c2]
 by_cases c3 : (l0.length : Int) < 2
 case pos => exact ⟨0, 0, 0, 4, by simp [c3], fun h => by cases h⟩
 exact ⟨y1, y2, y3, 0, by simp [c3], fun _ => hyr (c2.elim (fun h => Classical.byContradiction fun hf => c1 ⟨h, hf⟩) (fun h => h.1))⟩
theorem lev2 {b : List Int} (hb : bytesB b) (i : Int) : 0 ≤ lev b i 2 ∧ lev b i 2 < 65536 := by
 have h0 := lt_of_all hb.2 i
 have h1 := lt_of_all hb.2 (i + 1)
 unfold lev
 simp
 omega
theorem lev1 {b : List Int} (hb : bytesB b) (i : Int) : 0 ≤ lev b i 1 ∧ lev b i 1 < 256 := by
 have h0 := lt_of_all hb.2 i
 unfold lev
 simp
 omega
def GoodT (r : List (Nat × Nat) × Int × Int) : Prop := r.2.2 = 0 → 0 ≤ r.2.1 ∧ okTs r.1 = true ∧ r.1.length ≤ 500
theorem todo_end (k : Nat) (b : List Int) (i n : Int) (x10 : Int) (acc : List (Nat × Nat)) (j : Int) (hi : 0 ≤ i) (hacc : okTs acc = true) (hl : acc.length < 1000000) :
  ∃ r, todo_Parse.j1 (k + 1) b i 65536 n x10 acc j false = some r ∧ GoodT r := by
 rw [todo_Parse.j1, if_neg (by decide)]
 by_cases h0 : x10 = 0
 case neg =>
  rw [if_neg h0]
  exact ⟨([], 0, 2), rfl, fun h => by simp at h⟩
 rw [if_pos h0]
 have : todo_Right.f acc 65536 = some (rightC acc 65536) := by unfold todo_Right.f; rw [if_pos ⟨hacc, by decide, by decide, hl⟩]
 rw [this]
 by_cases hr : rightC acc 65536 = true
 case neg => exact ⟨([], 0, 2), by simp [hr], fun h => by simp at h⟩
 refine ⟨(acc, i, 0), by simp [hr], fun _ => ⟨hi, hacc, ?_⟩⟩
 unfold rightC at hr
 simp only [Bool.and_eq_true, decide_eq_true_eq] at hr
 exact hr.1
theorem take_some {b : List Int} (hb : bytesB b) (k : Nat) (a w : Int) (h1 : 1 ≤ w) (h4 : w ≤ 4) : ∃ t, num_Take.f (k + 6) b a w = some t := by
 have hl : b.length ≤ 140737488355328 := Nat.le_trans hb.1 (by decide)
 by_cases h : 0 ≤ a ∧ a + w ≤ (b.length : Int)
 case pos => exact ⟨_, Take_val k b a w hl hb.2 h1 h4 h.1 h.2⟩
 exact ⟨_, Take_none k b a w hl (by omega) (by omega)⟩
theorem j1_fail {k : Nat} {b : List Int} {i n x10 j : Int} {acc : List (Nat × Nat)} {t : Int × Int × Int} (h1 : num_Take.f k b i 2 = some (0, 0, 2)) (h2 : num_Take.f k b 0 1 = some t) :
  todo_Parse.j1 (k + 1) b i 65536 n x10 acc j true = some ([], 0, 2) := by
 rw [todo_Parse.j1, if_pos rfl, h1]
 simp only [Option.bind_some]
 rw [h2]
 simp only [Option.bind_some]
 rw [if_neg (by decide), if_neg (by decide)]
theorem j1_fail2 {k : Nat} {b : List Int} {i n x10 j v p : Int} {acc : List (Nat × Nat)} (h1 : num_Take.f k b i 2 = some (v, p, 0)) (h2 : num_Take.f k b p 1 = some (0, 0, 2)) :
  todo_Parse.j1 (k + 1) b i 65536 n x10 acc j true = some ([], 0, 2) := by
 rw [todo_Parse.j1, if_pos rfl, h1]
 simp only [Option.bind_some]
 rw [h2]
 simp only [Option.bind_some]
 rw [if_pos trivial, if_neg (by decide), if_neg (by decide)]
theorem j1_more {k : Nat} {b : List Int} {i n x10 j v p v2 p2 : Int} {acc : List (Nat × Nat)} (h1 : num_Take.f k b i 2 = some (v, p, 0)) (h2 : num_Take.f k b p 1 = some (v2, p2, 0)) (hv : 0 ≤ v) (hv2 : 0 ≤ v2) (hl : acc.length < 8796093022208) (hj : wrap64 (j + 1) = j + 1) :
  todo_Parse.j1 (k + 1) b i 65536 n x10 acc j true = todo_Parse.l0 k b p2 65536 n x10 (acc ++ [(fl v.toNat, fl v2.toNat)]) (j + 1) := by
 rw [todo_Parse.j1, if_pos rfl, h1]
 simp only [Option.bind_some]
 rw [h2]
 simp only [Option.bind_some]
 rw [if_pos trivial, if_pos trivial, show todo_Of.f v v2 = some (fl v.toNat, fl v2.toNat) by unfold todo_Of.f; rw [if_pos ⟨hv, hv2⟩]]
 simp only [Option.bind_some]
 rw [if_pos hl, hj]
theorem todo_loop (b : List Int) (hb : bytesB b) : ∀ (d k : Nat) (i n : Int) (x10 : Int) (acc : List (Nat × Nat)) (j : Int), (b.length : Int) - i ≤ 3 * d → 2 * d + 20 ≤ k → 0 ≤ i → okTs acc = true → acc.length + d < 900000 → 0 ≤ j → j + d < 1000000 →
  ∃ r, todo_Parse.l0 k b i 65536 n x10 acc j = some r ∧ GoodT r := by
 have hlen : b.length ≤ 140737488355328 := Nat.le_trans hb.1 (by decide)
 intro d
 induction d with
 | zero =>
  intro k i n x10 acc j hd hk hi hacc hl hj hjd
  obtain ⟨k, rfl⟩ : ∃ k', k = k' + 8 := ⟨k - 8, by omega⟩
  have hfail : ∀ x, ∃ r, todo_Parse.j1 (k + 6 + 1) b i 65536 n x10 acc j x = some r ∧ GoodT r := fun x => by
   cases x with
   | false => exact todo_end _ b i n x10 acc j hi hacc (by omega)
   | true =>
    obtain ⟨t, ht⟩ := take_some hb k 0 1 (by omega) (by omega)
    exact ⟨_, j1_fail (Take_none k b i 2 hlen (by omega) (by omega)) ht, fun h => by simp at h⟩
  rw [show k + 8 = (k + 6 + 1) + 1 from rfl, todo_Parse.l0]
  split <;> exact hfail _
 | succ d ih =>
  intro k i n x10 acc j hd hk hi hacc hl hj hjd
  obtain ⟨k, rfl⟩ : ∃ k', k = k' + 8 := ⟨k - 8, by omega⟩
  have hgo : ∀ x, ∃ r, todo_Parse.j1 (k + 6 + 1) b i 65536 n x10 acc j x = some r ∧ GoodT r := fun x => by
   cases x with
   | false => exact todo_end _ b i n x10 acc j hi hacc (by omega)
   | true =>
    by_cases h2 : i + 2 ≤ (b.length : Int)
    case neg =>
     obtain ⟨t, ht⟩ := take_some hb k 0 1 (by omega) (by omega)
     exact ⟨_, j1_fail (Take_none k b i 2 hlen (by omega) (by omega)) ht, fun h => by simp at h⟩
    have ht := Take_val k b i 2 hlen hb.2 (by omega) (by omega) hi h2
    by_cases h3 : i + 2 + 1 ≤ (b.length : Int)
    case neg => exact ⟨_, j1_fail2 ht (Take_none k b (i + 2) 1 hlen (by omega) (by omega)), fun h => by simp at h⟩
    have ht2 := Take_val k b (i + 2) 1 hlen hb.2 (by omega) (by omega) (by omega) h3
    have e2 := lev2 hb i
    have e1 := lev1 hb (i + 2)
    rw [j1_more ht ht2 e2.1 e1.1 (by omega) (w64 (by omega) (by omega))]
    refine ih _ _ _ _ _ _ (by omega) (by omega) (by omega) ?_ (by rw [List.length_append, List.length_singleton]; omega) (by omega) (by omega)
    unfold okTs at hacc ⊢
    rw [List.all_append, hacc]
    simp only [List.all_cons, List.all_nil, Bool.and_true, Bool.true_and]
    rw [okT_fl (by omega), okT_fl (by omega)]; rfl
  rw [show k + 8 = (k + 6 + 1) + 1 from rfl, todo_Parse.l0]
  split <;> exact hgo _
theorem todo_total (b : List Int) (hb : bytesB b) (i : Int) (hi : 0 ≤ i) : ∃ ts i' er, todo_Parse.f 100000 b i 65536 = some (ts, i', er) ∧ (er = 0 → 0 ≤ i' ∧ okTs ts = true ∧ ts.length ≤ 500) := by
 have hlen : b.length ≤ 140737488355328 := Nat.le_trans hb.1 (by decide)
 have hb1 := hb.1
 have key : ∀ K, K = 99994 + 6 → ∃ r, todo_Parse.f K b i 65536 = some r ∧ GoodT r := fun K hK => by
  unfold todo_Parse.f
  by_cases h2 : i + 2 ≤ (b.length : Int)
  case neg =>
   rw [hK, Take_none 99994 b i 2 hlen (by omega) (by omega)]
   exact todo_loop b hb 34000 _ _ _ _ _ _ (by simp only; omega) (by omega) (by simp) rfl (by simp) (by omega) (by omega)
  rw [hK, Take_val 99994 b i 2 hlen hb.2 (by omega) (by omega) hi h2]
  exact todo_loop b hb 34000 _ _ _ _ _ _ (by simp only; omega) (by omega) (by simp only; omega) rfl (by simp) (by omega) (by omega)
 obtain ⟨⟨ts, i', er⟩, h1, h2⟩ := key 100000 rfl
 exact ⟨ts, i', er, h1, h2⟩
section
open Go.RowKit Go.Shelf Go.Proofs.YtfmjepmgcdoelaaGreatW.PrintWords Go.Proofs.YtfmjepmgcdoelaaGreatW.PrintLast Go.Proofs.YtfmjepmgcdoelaaGreatW.PrintMore
section
variable {α : Type} {P : Program}
def Told (P : Program) (gf : Nat) (lb : Array Value) (m : Nat) (encs : α → Array Value) (T : List α → World → α → World → Prop) (KK : World → World → Prop) (S : List α → Prop) (w0 : World) : Prop :=
 ∀ (l : Nat) (J : List α → World → Prop) (W : World), Below w0.heap.size w0 W → (∀ s X Y, J s X → Below X.heap.size X Y → J s Y) →
  (∀ pre x X Y, J pre X → Below X.heap.size X Y → T pre X x Y → YieldAt Fence.wide (m - 1) P l (encs x) Y fun e Z => e = .returned (.bool true) ∧ J (pre ++ [x]) Z ∧ KK Y Z) →
  J [] W → CallsIn Fence.wide m P gf (#[.func (.yield l) #[] #[]] ++ lb) W fun e Z => (∃ v, e = .returned v) ∧ ∃ xs, S xs ∧ J xs Z
theorem grown_put {W : World} {l : Nat} (o : Obj) (hl : l < W.heap.size) : W.grownBy (W.putObj l o) (some l) :=
 ⟨rfl, rfl, rfl, by simp [World.putObj], fun k _ hne => World.putObj_heap_other (fun e => hne (by rw [e]))⟩
theorem wpIn_told {n : Nat} {w : World} {g : Operand} {ps : Array Tmp} {assign body : Code} {Q : Exit → Act → World → Prop} {a : Act}
  {gf : Nat} {lb : Array Value} (hg : a.eval g = .func (.func gf) #[] lb) (eg : ∀ args w, (callFunc gf args).run P w = .ok (.enter gf args) w)
  {encs : α → Array Value} {T : List α → World → α → World → Prop} {KK : World → World → Prop} {S : List α → Prop} (hseq : Told P gf lb (n - 1) encs T KK S w) (hps : ∀ x, (encs x).size = ps.size)
  (I : List α → World → Prop) (hI : ∀ s X Y, I s X → X.grownBy Y (some (w.heap.size + 1)) → I s Y) (h0 : I [] w)
  (hround : ∀ pre x X Y, I pre X → Below X.heap.size X Y → T pre X x Y → w.heap.size + 2 ≤ X.heap.size →
   assign.wpIn (Fence.wide.inRound (w.heap.size + 1)) (n - 1 - 1) P (Exit.then (fun a1 Y1 => Below Y.heap.size Y Y1 ∧ ∀ Y2, Y1.grownBy Y2 (some (w.heap.size + 1)) →
     body.wpIn (Fence.wide.inRound (w.heap.size + 1)) (n - 1 - 1) P (fun e _ Z => e = .normal ∧ Z.heap[w.heap.size + 1]? = Y2.heap[w.heap.size + 1]? ∧ Z.heap[w.heap.size]? = Y2.heap[w.heap.size]? ∧ ∀ Z2, Z.grownBy Z2 (some (w.heap.size + 1)) → I (pre ++ [x]) Z2 ∧ KK Y Z2) a1 Y2) (fun _ _ _ => False))
    { tmps := (ps.zip (encs x)).foldl (fun t (p, v) => t.setIfInBounds p v) a.tmps, defers := [] } Y)
  (hdone : ∀ xs Z, S xs → I xs Z → Z.heap[w.heap.size]? = some (.deferred (some [])) → Q .normal { a with defers := { target := .collected w.heap.size, args := #[] } :: a.defers } Z) :
  (Code.rangeFunc g ps assign body).wpIn Fence.wide n P Q a w := by
 refine wpIn_rangeFunc fun fn hfn => ?_
 obtain ⟨rec, hrec⟩ : ∃ rec : LoopState → Loop, rec = fun st => { state := st, pending := none, fn := fn, tmps := a.tmps, params := ps, assign := assign, body := body, defers := w.heap.size } := ⟨_, rfl⟩
 obtain ⟨W1, hW1⟩ : ∃ W1, (w.alloc (.deferred (some []))).alloc (.loop (rec .ready)) = W1 := ⟨_, rfl⟩
 have hbw : Below w.heap.size w W1 := by rw [← hW1]; exact ((Below.refl _ w).alloc (Nat.le_refl _) _).alloc (by simp) _
 have hs1 : W1.heap.size = w.heap.size + 2 := by rw [← hW1]; simp
 have a1 : W1.heap[w.heap.size + 1]? = some (.loop (rec .ready)) := by
  rw [← hW1]
  have := alloc_new (w.alloc (.deferred (some []))) (.loop (rec .ready))
  rwa [World.size_alloc] at this
 have a2 : W1.heap[w.heap.size]? = some (.deferred (some [])) := by rw [← hW1]; exact blk_alloc (alloc_new w _) _
 refine ⟨w.heap.size + 1, [{ target := .collected w.heap.size, args := #[] }], W1, { target := .fn (.func gf) lb, args := #[.func (.yield (w.heap.size + 1)) #[] #[]] }, W1, gf,
  #[.func (.yield (w.heap.size + 1)) #[] #[]] ++ lb, W1, ?_, ?_, ?_, ?_, (fun h => by cases h), ?_⟩
 ·rw [← hW1, hrec]; exact run_enterLoop_outer _ _ _ _ _
 ·simp only [resolve, hg]
  simp [go_sem]
 ·intro f' _; trivial
 ·simp [invoke, go_sem, eg]
 refine (hseq (w.heap.size + 1) (fun pre W => I pre W ∧ W.heap[w.heap.size + 1]? = some (.loop (rec .ready)) ∧ W.heap[w.heap.size]? = some (.deferred (some [])) ∧ w.heap.size + 2 ≤ W.heap.size) W1 hbw
  (fun s X Y ⟨h1, h2, h3, h4⟩ hb => ⟨hI s X Y h1 (grown_of_below' hb _), (hb.block _ (by omega)).trans h2, (hb.block _ (by omega)).trans h3, Nat.le_trans h4 hb.size⟩) ?_
  ⟨hI _ _ _ h0 (grown_of_below' hbw _), a1, a2, by omega⟩).mono ?_
 ·rintro pre x X Y ⟨hi, hl, hd, hs⟩ hb hT
  have hlY := (hb.block _ (by omega)).trans hl
  have hdY := (hb.block _ (by omega)).trans hd
  have hsY : w.heap.size + 2 ≤ Y.heap.size := Nat.le_trans hs hb.size
  have hy := run_yield (P := P) (args := encs x) hlY (by rw [hrec]; exact hps x)
  rw [hrec] at hy
  refine ⟨fn, _, assign, body, hy, roundIn_of_wpIn hfn (wpIn_mono (hround pre x X Y hi hb hT hs) ?_)⟩
  clear hy
  rintro e a1 Y1 hq
  cases e with
  | normal =>
   obtain ⟨hb1, hbody⟩ := hq
   have hl1 := (hb1.block _ (by omega)).trans hlY
   have hd1 := (hb1.block _ (by omega)).trans hdY
   refine ⟨_, run_beginRound hl1 (by rw [hrec]), ?_⟩
   have hlt1 := blk_lt hl1
   refine wpIn_mono (hbody _ (grown_put _ hlt1)) ?_
   rintro e a3 Z ⟨rfl, hz1, hz2, hz⟩
   have hlZ := hz1.trans (World.putObj_heap_same hlt1)
   have hdZ := (hz2.trans (World.putObj_heap_other (by omega))).trans hd1
   have hltZ := blk_lt hlZ
   obtain ⟨hi2, hk2⟩ := hz _ (grown_put (.loop (rec .ready)) hltZ)
   have he := run_endRound (P := P) none hlZ
   rw [hrec] at he hi2 hk2
   exact ⟨_, _, he, rfl, ⟨hi2, by rw [hrec]; exact World.putObj_heap_same hltZ, (World.putObj_heap_other (by omega)).trans hdZ, Nat.le_trans (show w.heap.size + 2 ≤ Z.heap.size by omega) (grown_put _ hltZ).size⟩, hk2⟩
  | _ => exact hq.elim
 ·rintro e Z ⟨⟨v, rfl⟩, xs, hS, hi, hl, hd, hs⟩
  have := run_endLoop (P := P) hl (by rw [hrec]; simp)
  rw [hrec] at this
  exact ⟨none, _, this, hdone xs _ hS (hI _ _ _ hi (grown_put _ (by omega))) ((World.putObj_heap_other (by omega)).trans hd)⟩
end
end
section
open Go.RowKit Go.Shelf Go.Proofs.YtfmjepmgcdoelaaGreatW.PrintWords Go.Proofs.YtfmjepmgcdoelaaGreatW.PrintLast Go.Proofs.YtfmjepmgcdoelaaGreatW.PrintMore
attribute [local go_sem] Oper.semAt_some
def CellsAt (W : World) (g : Nat) (refs : List Int) : Prop :=
 ∀ j, j < refs.length → ∃ (b1 b2 : Bool) (A : Option Addr) (k c : Nat), W.cell? ⟨g, j * 4, none⟩ = some (.int .i64 (rd refs (j : Nat))) ∧ W.cell? ⟨g, j * 4 + 1, none⟩ = some (.bool b1) ∧ W.cell? ⟨g, j * 4 + 2, none⟩ = some (.bool b2) ∧ W.cell? ⟨g, j * 4 + 3, none⟩ = some (.slice A k c)
theorem CellsAt.below {W W' : World} {g : Nat} {refs : List Int} (h : CellsAt W g refs) (hb : Below W.heap.size W W') : CellsAt W' g refs := fun j hj => by
 obtain ⟨b1, b2, A, k, c, h0, h1, h2, h3⟩ := h j hj
 have hl := World.block_lt_of_cell? W _ h0
 exact ⟨b1, b2, A, k, c, (hb.cell (p := ⟨g, j * 4, none⟩) hl).trans h0, (hb.cell (p := ⟨g, j * 4 + 1, none⟩) hl).trans h1, (hb.cell (p := ⟨g, j * 4 + 2, none⟩) hl).trans h2, (hb.cell (p := ⟨g, j * 4 + 3, none⟩) hl).trans h3⟩
abbrev AtN := Nat × Value
def encN (nF : Nat → Bool × List S84) (x : AtN) : Array Value := #[.int .i64 (x.1 : Nat), .agg #[.bool (nF x.1).1, x.2]]
def TN (nF : Nat → Bool × List S84) (n : Nat) (pre : List AtN) (X : World) (x : AtN) (Y : World) : Prop := x.1 < n ∧ (∀ y ∈ pre, y.1 < x.1) ∧ Kd.R k84 84 Y X.heap.size (fun _ => True) x.2 (nF x.1).2
structure InvN (N0 gh gd g : Nat) (wN W : World) (A0 A1 : Option Addr) (n0 c0 n1 c1 n : Nat) (keep : Int) (refs : List Int) : Prop where
 low : Below N0 wN W
 bh : W.heap[gh]? = some (.cells #[.slice (some ⟨g, 0, none⟩) n n, .int .i64 keep] 30 (0, 0))
 bd : W.heap[gd]? = some (.cells #[.slice A0 n0 c0, .slice A1 n1 c1] 25 (0, 0))
 cs : CellsAt W g refs
section
variable {N0 gh gd g : Nat} {wN W W' : World} {A0 A1 : Option Addr} {n0 c0 n1 c1 n : Nat} {keep : Int} {refs : List Int}
theorem InvN.below (h : InvN N0 gh gd g wN W A0 A1 n0 c0 n1 c1 n keep refs) (hb : Below W.heap.size W W') (hN : N0 ≤ W.heap.size) : InvN N0 gh gd g wN W' A0 A1 n0 c0 n1 c1 n keep refs :=
 ⟨h.low.trans (hb.mono hN), (hb.block _ (blk_lt h.bh)).trans h.bh, (hb.block _ (blk_lt h.bd)).trans h.bd, h.cs.below hb⟩
end
def KN (N0 gh gd g : Nat) (refs : List Int) (Y Z : World) : Prop := Below N0 Y Z ∧ Z.heap[gh]? = Y.heap[gh]? ∧ Z.heap[gd]? = Y.heap[gd]? ∧ (CellsAt Y g refs → CellsAt Z g refs)
theorem InvN.turn {N0 gh gd g : Nat} {wN W W' : World} {A0 A1 : Option Addr} {n0 c0 n1 c1 n : Nat} {keep : Int} {refs : List Int} (h : InvN N0 gh gd g wN W A0 A1 n0 c0 n1 c1 n keep refs) (hk : KN N0 gh gd g refs W W') : InvN N0 gh gd g wN W' A0 A1 n0 c0 n1 c1 n keep refs :=
 ⟨h.low.trans hk.1, hk.2.1.trans h.bh, hk.2.2.1.trans h.bd, hk.2.2.2 h.cs⟩
def idxs (refs : List Int) (k : Nat) : List Nat := (List.range k).filter fun i => decide (rd refs (i : Nat) ≠ 0)
theorem idxs_no {refs : List Int} {k : Nat} (h : rd refs (k : Nat) = 0) : idxs refs (k + 1) = idxs refs k := by
 unfold idxs; rw [List.range_succ, List.filter_append]; simp [h]
theorem idxs_yes {refs : List Int} {k : Nat} (h : rd refs (k : Nat) ≠ 0) : idxs refs (k + 1) = idxs refs k ++ [k] := by
 unfold idxs; rw [List.range_succ, List.filter_append]; simp [h]
theorem idxs_lt {refs : List Int} {k i : Nat} (h : i ∈ idxs refs k) : i < k := by
 unfold idxs at h; rw [List.mem_filter, List.mem_range] at h; exact h.1
theorem nodes1_in (N0 gh gd g : Nat) (wN w0 : World) (A0 A1 : Option Addr) (l0 : List ByteArray) (c0 : Nat) (l1 : List S98) (c1 n : Nat) (keep : Int) (kf : Nat) (refs : List Int) (nF : Nat → Bool × List S84) (nE : Nat → Int) (m : Nat)
  (hn : refs.length = n) (hn2 : n ≤ 2000) (hl1 : l1.length < 1000000) (hC0 : Kd.C Kd.string wN A0 l0.length l0) (hC1 : Kd.C k98 wN A1 l1.length l1) (hc0 : l0.length ≤ c0) (hc1 : l1.length ≤ c1) (hN : N0 = wN.heap.size) (hNw : N0 ≤ w0.heap.size)
  (hnF : ∀ i, i < n → rd refs (i : Nat) ≠ 0 → node_Parse.f kf (readB l0 l1 ((baseN n : Nat) + (i : Nat))).1 = some ((nF i).1, (nF i).2, nE i))
  (hI : InvN N0 gh gd g wN w0 A0 A1 l0.length c0 l1.length c1 n keep refs) :
  Told Tryz.prog 57 #[.pointer (some ⟨gh, 0, none⟩), .pointer (some ⟨gd, 0, none⟩)] m (encN nF) (TN nF n) (KN N0 gh gd g refs) (fun xs => xs.map (·.1) = idxs refs n) w0 := by
 intro l J W hW hJ hY h0
 have HI : Aside0 (InvN N0 gh gd g wN W A0 A1 l0.length c0 l1.length c1 n keep refs ∧ N0 ≤ W.heap.size) := ⟨hI.below hW hNw, Nat.le_trans hNw hW.size⟩
 have HJ := Zk hJ
 have HY := Zk hY
 have H0 := Zk h0
 have HC0 := Zk hC0
 have HC1 := Zk hC1
 have HF := Zk hnF
 have HL := Zk hl1
 have HNL := Zk hn
 subst hN
 clear hC0 hC1 hnF hI hJ hY h0 hl1 hn
 have hu63 := Tryz.underlying63
 have hu65 := Tryz.underlying65
 have hu25 := Tryz.underlying25
 have hu84 := Tryz.underlying84
 refine callsIn_of_wp Tryz.func57 rfl trivial ?_ rfl
 simp only [Tryz.ntmps57, List.size_toArray, List.length_cons, List.length_nil, Nat.reduceAdd, Nat.reduceSub, Array.replicate_succ, Array.replicate_zero, List.push_toArray, List.append_toArray, List.nil_append, List.cons_append]
 have k0 : W.cell? ⟨gh, 0, none⟩ = some (.slice (some ⟨g, 0, none⟩) n n) := (blk_cell HI.out.1.bh 0).trans rfl
 have hdd : ∀ k : Nat, (Fence.wide.depth.isSome = true → 1 ≤ k) := fun k h => by cases h
 have hbn : (baseN n : Int) ≤ 100000 := by unfold baseN areaN; omega
 gi_wp2
 refine ⟨trivial, hdd _, ?_⟩
 refine ((callsIn_wide (n := m - 1)).2 (base_walk n (by omega) _)).mono ?_
 rintro e w' ⟨rfl, hw⟩
 obtain rfl := hw.symm
 gi_wp2
 clear k0 hw
 gi_loopw [18] (fun i wr => ∃ (k : Nat) (pre : List AtN), k ≤ n ∧ i = .int .i64 k ∧ pre.map (·.1) = idxs refs k ∧ J pre wr ∧ InvN wN.heap.size gh gd g wN wr A0 A1 l0.length c0 l1.length c1 n keep refs ∧ wN.heap.size ≤ wr.heap.size)
  (fun i _ => ((n : Int) - intOf i).toNat)
 case atStart => exact ⟨0, [], Nat.zero_le _, rfl, rfl, H0.out, HI.out⟩
 case round =>
  obtain ⟨k, pre, hk, rfl, hpre, hjp, hinv, hNr⟩ := hrel
  have HP := Zk hpre
  have HJP := Zk hjp
  have HV := Zk hinv
  clear hpre hjp hinv
  by_cases hkn : k < n
  case neg =>
   obtain rfl : k = n := by omega
   have hml : decide ((k : Int) < (k : Int)) = false := by simp
   gi_wp2
   go_end0
   exact ⟨⟨_, rfl⟩, pre, HP.out, HJP.out⟩
  obtain ⟨b1, b2, Ak, kk, ck, x0, x1, x2, x3⟩ := HV.out.cs k (by have := HNL.out; omega)
  obtain ⟨r, hr⟩ : ∃ r, rd refs (k : Nat) = r := ⟨_, rfl⟩
  rw [hr] at x0
  have HRR := Zk hr
  have hd0 : wr.cell? ⟨gd, 0, none⟩ = some (.slice A0 l0.length c0) := (blk_cell HV.out.bd 0).trans rfl
  have hd1 : wr.cell? ⟨gd, 1, none⟩ = some (.slice A1 l1.length c1) := (blk_cell HV.out.bd 1).trans rfl
  have hlt := blk_lt HV.out.bd
  have hml : decide ((k : Int) < (n : Int)) = true := decide_eq_true (by omega)
  have hkz : (0 : Int) ≤ k := by omega
  have hkn2 : (k : Int) < n := by omega
  clear hr
  by_cases hr0 : r = 0
  case pos =>
   subst hr0
   gi_wp2
   have hbA := (Below.refl wr.heap.size wr).alloc (Nat.le_refl _) (.cells #[.int .i64 0, .bool b1, .bool b2, .slice Ak kk ck] 65)
   exact ⟨⟨k + 1, pre, hkn, by push_cast; rfl, by rw [HP.out, idxs_no HRR.out], HJ.out _ _ _ HJP.out hbA, HV.out.below hbA hNr, Nat.le_trans hNr hbA.size⟩, by simp [intOf]; omega⟩
  have hrb : (r == 0) = false := by simpa using hr0
  gi_wp2
  have hbA := (Below.refl wr.heap.size wr).alloc (Nat.le_refl _) (.cells #[.int .i64 r, .bool b1, .bool b2, .slice Ak kk ck] 65)
  have HBA := Zk hbA
  have HV2 := Zk (HV.out.below hbA hNr)
  have HPF := Zk (HF.out k hkn (by rw [HRR.out]; exact hr0))
  obtain ⟨sb, se, hse⟩ : ∃ sb se, readB l0 l1 ((baseN n : Nat) + (k : Nat)) = (sb, se) := ⟨_, _, rfl⟩
  rw [hse] at HPF
  obtain ⟨WA, hWA⟩ : ∃ WA, wr.alloc (.cells #[.int .i64 r, .bool b1, .bool b2, .slice Ak kk ck] 65) = WA := ⟨_, rfl⟩
  rw [hWA] at HBA HV2 ⊢
  have hrd : disk_Read.f l0 l1 ((baseN n : Nat) + (k : Nat)) = some (sb, se) := by unfold disk_Read.f; rw [if_pos HL.out, hse]
  refine ⟨trivial, hdd _, ?_⟩
  refine ((callsIn_wide (n := m - 1)).2 (disk_Read.calls A0 c0 l0 A1 c1 l1 _ sb se WA (Kd.C_below HC0.out HV2.out.low) hc0 (Kd.C_below HC1.out HV2.out.low) hc1 hrd)).mono ?_
  rintro e W3 ⟨rfl, hb3⟩
  have HB3 := Zk hb3
  clear hb3 hbA hrd hse hWA
  gi_wp2
  refine ⟨trivial, hdd _, ?_⟩
  refine ((callsIn_wide (n := m - 1)).2 (node_Parse.calls kf sb (nF k).1 (nF k).2 (nE k) W3 HPF.out)).mono ?_
  rintro e W4 ⟨v, rfl, hv, hb4⟩
  obtain ⟨Av, cv, rfl, -, -⟩ := Kd.R_reads hv
  have hb14 : Below wr.heap.size wr W4 := (HBA.out.trans (HB3.out.mono HBA.out.size)).trans (hb4.mono (Nat.le_trans HBA.out.size HB3.out.size))
  have hb15 := hb14.alloc hb14.size (.cells #[.bool (nF k).1, .slice Av (nF k).2.length cv] 63)
  have HB15 := Zk hb15
  have hpl : ∀ y ∈ pre, y.1 < k := fun y hy => idxs_lt (refs := refs) (by rw [← HP.out]; exact List.mem_map_of_mem hy)
  obtain ⟨fn, tmps, assign, body, hy, hR⟩ := HY.out pre (k, .slice Av (nF k).2.length cv) wr _ HJP.out hb15 ⟨hkn, hpl, Kd.R_lower (Kd.R_alloc hv _) (Nat.le_trans HBA.out.size HB3.out.size)⟩
  dsimp only [encN] at hy
  clear hv hb4 hb14 hb15 hpl HPF
  gi_wp2
  refine ⟨hdd _, ?_⟩
  refine hR.mono ?_
  rintro e W5 ⟨rfl, hj5, hk5⟩
  have HJ5 := Zk hj5
  have HV5 := Zk ((HV.out.below HB15.out hNr).turn hk5)
  have HS5 := Zk (Nat.le_trans (Nat.le_trans hNr HB15.out.size) hk5.1.size)
  clear hj5 hk5 hy hR
  gi_wp2
  exact ⟨⟨k + 1, pre ++ [(k, .slice Av (nF k).2.length cv)], hkn, by push_cast; rfl, by rw [List.map_append, HP.out, idxs_yes (by rw [HRR.out]; exact hr0)]; rfl, HJ5.out, HV5.out, HS5.out⟩, by simp [intOf]; omega⟩
theorem nodes_walk (A0 A1 : Option Addr) (n0 c0 n1 c1 n : Nat) (keep : Int) (g : Nat) (w : World) :
  Calls Tryz.prog 21 #[.agg #[.slice A0 n0 c0, .slice A1 n1 c1], .agg #[.slice (some ⟨g, 0, none⟩) n n, .int .i64 keep]] w fun e w' =>
   e = .returned (.func (.func 57) #[] #[.pointer (some ⟨w.heap.size + 1, 0, none⟩), .pointer (some ⟨w.heap.size, 0, none⟩)]) ∧ w'.heap[w.heap.size + 1]? = some (.cells #[.slice (some ⟨g, 0, none⟩) n n, .int .i64 keep] 30 (0, 0)) ∧
    w'.heap[w.heap.size]? = some (.cells #[.slice A0 n0 c0, .slice A1 n1 c1] 25 (0, 0)) ∧ Below w.heap.size w w' := by
 have hmf : ∀ (fn : Fn) (first cap : Array Value) (w : World), (Instr.makeFunc fn first cap).run Tryz.prog w = .ok (.func fn first cap) w := fun _ _ _ _ => rfl
 have hu25 := Tryz.underlying25
 have hu30 := Tryz.underlying30
 go_enter Tryz.func21, Tryz.ntmps21
 go_wp2
 go_ret
 refine ⟨rfl, ?_, blk_alloc (alloc_new w _) _, ((Below.refl _ w).alloc (Nat.le_refl _) _).alloc (by simp) _⟩
 have := alloc_new (w.alloc (.cells #[.slice A0 n0 c0, .slice A1 n1 c1] 25)) (.cells #[.slice (some ⟨g, 0, none⟩) n n, .int .i64 keep] 30)
 rwa [World.size_alloc] at this
end
section
open Go.RowKit Go.Shelf Go.Proofs.YtfmjepmgcdoelaaGreatW.PrintWords Go.Proofs.YtfmjepmgcdoelaaGreatW.PrintLast Go.Proofs.YtfmjepmgcdoelaaGreatW.PrintMore
def bareS (r : Int) : S65 := ⟨r, false, ⟨false, []⟩⟩
theorem k65_sz : k65.sz = 4 := rfl
theorem bareL_row (l : List Int) (j : Nat) (hj : j < l.length) : ((l.flatMap bareV).drop (j * 4)).take 4 = bareV (rd l (j : Nat)) := by
 apply List.ext_getElem?
 intro q
 rw [List.getElem?_take]
 by_cases hq : q < 4
 case pos => rw [if_pos hq, List.getElem?_drop, bareL_at l j q hj hq]
 rw [if_neg hq, List.getElem?_eq_none (by simp [bareV]; omega)]
theorem S_of_cells {W : World} {g base : Nat} {refs : List Int} (hg : W.heap[g]? = some (.cells (cellsA refs) 65 (0, 0))) (hb : base ≤ g) (hl : refs.length ≤ 2000) :
  Kd.S k65 65 W base (fun _ => True) (.slice (some ⟨g, 0, none⟩) refs.length refs.length) (refs.map bareS) := by
 refine Kd.S_bare ⟨fun _ _ => trivial, refs.flatMap bareV, ⟨by rw [List.length_map]; exact bareL_len refs, .inr ⟨g, refs.length, cellsA refs, by rw [List.length_map], hb, hg, by rw [List.length_map]; exact Nat.le_refl _, by simp only [maxLen]; omega, cellsA_size refs, ?_⟩⟩, ?_, fun j p hj => ?_⟩
 ·show (cellsA refs).toList.take ((refs.map bareS).length * 4) = _
  rw [List.length_map]
  unfold cellsA
  rw [List.take_of_length_le (by rw [bareL_len]; exact Nat.le_refl _)]
 ·rw [List.length_map]; exact bareL_len refs
 ·rw [List.getElem?_map] at hj
  obtain ⟨r, hr, rfl⟩ := Option.map_eq_some_iff.1 hj
  have hjl : j < refs.length := by
   rcases Nat.lt_or_ge j refs.length with h | h
   ·exact h
   ·rw [List.getElem?_eq_none h] at hr; cases hr
  show k65.M W base (fun _ => False) (bareS r) (((refs.flatMap bareV).drop (j * 4)).take 4)
  rw [bareL_row refs j hjl, show rd refs (j : Nat) = r by unfold rd; rw [Int.toNat_natCast, List.getD_eq_getElem?_getD, hr]; rfl]
  exact k65_mkM W base _ (bareS r) (Kd.R_nil _ _ _ _ _)
theorem cells_of_S {W : World} {g base n cap : Nat} {ok : Nat → Prop} {xs : List S65} (h : Kd.S k65 65 W base ok (.slice (some ⟨g, 0, none⟩) n cap) xs) : CellsAt W g (xs.map (·.f0)) := by
 intro j hj
 rw [List.length_map] at hj
 have hn := (Kd.S_reads' h).1
 obtain ⟨oki, c, hcl, hM, hcc, -, -, -⟩ := Kd.S_elem h z65 (j : Int) (by omega) (by omega)
 rw [Int.toNat_natCast, List.getD_eq_getElem?_getD, List.getElem?_eq_getElem hj, Option.getD_some] at hM
 obtain ⟨v3, rfl, hv3⟩ := k65_openM hM
 obtain ⟨A, k, rfl, -, -⟩ := Kd.R_reads hv3
 rw [Int.toNat_natCast, k65_sz] at hcc
 have e : rd (xs.map (·.f0)) (j : Nat) = xs[j].f0 := by
  unfold rd
  rw [Int.toNat_natCast, List.getD_eq_getElem?_getD, List.getElem?_map, List.getElem?_eq_getElem hj]; rfl
 rw [e]
 exact ⟨_, _, _, _, _, hcc 0 _ rfl, hcc 1 _ rfl, hcc 2 _ rfl, hcc 3 _ rfl⟩
theorem S_node {W : World} {g base n cap N lp i : Nat} {xs : List S65} {v : Value} {b : Bool} {l : List S84} (h : Kd.S k65 65 W base (fun k => k ≠ lp ∧ k < N) (.slice (some ⟨g, 0, none⟩) n cap) xs) (hv : Kd.R k84 84 W N (fun _ => True) v l) (hi : i < xs.length) (hlp : lp < N) (hbN : base ≤ N) :
  Kd.S k65 65 ((W.setCell ⟨g, i * 4 + 2, none⟩ (.bool b)).setCell ⟨g, i * 4 + 3, none⟩ v) base (fun k => k ≠ lp) (.slice (some ⟨g, 0, none⟩) n cap) (xs.set i { xs[i] with f2 := ⟨b, l⟩ }) ∧
  W.grownBy ((W.setCell ⟨g, i * 4 + 2, none⟩ (.bool b)).setCell ⟨g, i * 4 + 3, none⟩ v) (some g) := by
 have hn := (Kd.S_reads' h).1
 have hgl := (Kd.S_bound h)
 have hgN : g ≠ lp ∧ g < N := by
  obtain ⟨f, hR⟩ := h
  exact hR.1 g (by simp [Value.ownBlock])
 have h2 : Kd.S k65 65 W base (fun k => k ≠ lp ∧ ¬ (N ≤ k ∧ k ≠ lp)) (.slice (some ⟨g, 0, none⟩) n cap) xs := Kd.S_mono h (fun k hk => ⟨hk.1, fun h3 => by omega⟩)
 obtain ⟨oki, c, hcl, hM, hcc, -, hoki, hH⟩ := Kd.S_elem h2 z65 (i : Int) (by omega) (by omega)
 rw [Int.toNat_natCast, List.getD_eq_getElem?_getD, List.getElem?_eq_getElem hi, Option.getD_some] at hM
 obtain ⟨v3, rfl, hv3⟩ := k65_openM hM
 have hv2 : Kd.R k84 84 W base (fun k => N ≤ k ∧ k ≠ lp) v l := Kd.R_lower (Kd.R_mono (Kd.R_bound hv) (fun k hk => ⟨hk.2.1, by have := hk.2.1; omega⟩)) hbN
 have hM2 : k65.M W base (fun k => N ≤ k ∧ k ≠ lp) { xs[i] with f2 := ⟨b, l⟩ } ([Value.int .i64 xs[i].f0, .bool xs[i].f1, .bool xs[i].f2.f0, v3].take 2 ++ [.bool b, v] ++ [Value.int .i64 xs[i].f0, .bool xs[i].f1, .bool xs[i].f2.f0, v3].drop (2 + 2)) :=
  k65_mkM W base _ { xs[i] with f2 := ⟨b, l⟩ } hv2
 have := Kd.S_seg (okg := fun k => N ≤ k ∧ k ≠ lp) (ok := fun k => k ≠ lp) hH (by omega) (by omega) (seg := [.bool b, v]) (j := 2) (Nat.le_refl 4) (x' := { xs[i] with f2 := ⟨b, l⟩ }) hM2 (fun k hk => .inr hk) (fun k hk => ⟨hk.2, by omega⟩)
 rw [Int.toNat_natCast, k65_sz] at this
 exact this
def cellsP (refs : List Int) (nF : Nat → Bool × List S84) (is : List Nat) : List S65 :=
 (List.range refs.length).map fun i => ⟨rd refs (i : Nat), false, if i ∈ is then ⟨(nF i).1, (nF i).2⟩ else ⟨false, []⟩⟩
theorem cellsP_len (refs : List Int) (nF : Nat → Bool × List S84) (is : List Nat) : (cellsP refs nF is).length = refs.length := by unfold cellsP; rw [List.length_map, List.length_range]
theorem cellsP_get {refs : List Int} {nF : Nat → Bool × List S84} {is : List Nat} {i : Nat} (h : i < (cellsP refs nF is).length) : (cellsP refs nF is)[i] = ⟨rd refs (i : Nat), false, if i ∈ is then ⟨(nF i).1, (nF i).2⟩ else ⟨false, []⟩⟩ := by
 have hl := h
 rw [cellsP_len] at hl
 have e : (cellsP refs nF is)[i]? = some (⟨rd refs (i : Nat), false, if i ∈ is then ⟨(nF i).1, (nF i).2⟩ else ⟨false, []⟩⟩ : S65) := by
  unfold cellsP
  rw [List.getElem?_map, List.getElem?_range hl]
  rfl
 exact Option.some.inj ((List.getElem?_eq_getElem h).symm.trans e)
theorem refs_get {refs : List Int} {i : Nat} (h : i < refs.length) : rd refs (i : Nat) = refs[i] := by
 unfold rd; rw [Int.toNat_natCast, List.getD_eq_getElem?_getD, List.getElem?_eq_getElem h]; rfl
theorem cellsP_nil (refs : List Int) (nF : Nat → Bool × List S84) : cellsP refs nF [] = refs.map bareS := by
 apply List.ext_getElem (by rw [cellsP_len, List.length_map])
 intro i h1 h2
 rw [cellsP_get h1, List.getElem_map, refs_get (by rw [cellsP_len] at h1; exact h1)]
 rfl
theorem cellsP_f0 (refs : List Int) (nF : Nat → Bool × List S84) (is : List Nat) : (cellsP refs nF is).map (·.f0) = refs := by
 apply List.ext_getElem (by rw [List.length_map, cellsP_len])
 intro i h1 h2
 rw [List.getElem_map, cellsP_get]
 exact refs_get h2
theorem cellsP_step {refs : List Int} {nF : Nat → Bool × List S84} {is : List Nat} {i : Nat} (h : i < (cellsP refs nF is).length) :
  (cellsP refs nF is).set i { (cellsP refs nF is)[i] with f2 := ⟨(nF i).1, (nF i).2⟩ } = cellsP refs nF (is ++ [i]) := by
 apply List.ext_getElem (by rw [List.length_set, cellsP_len, cellsP_len])
 intro k h1 h2
 rw [cellsP_get h2, List.getElem_set]
 by_cases hk : i = k
 case pos =>
  subst hk
  rw [if_pos rfl, cellsP_get h, if_pos (List.mem_append_right _ (List.mem_singleton.2 rfl))]
 rw [if_neg hk, cellsP_get]
 have : (k ∈ is ++ [i]) = (k ∈ is) := by rw [List.mem_append, List.mem_singleton]; simp [Ne.symm hk]
 simp only [this]
theorem mem_idxs {refs : List Int} {n i : Nat} (h : i < n) : i ∈ idxs refs n ↔ rd refs (i : Nat) ≠ 0 := by
 unfold idxs
 rw [List.mem_filter, List.mem_range]
 simp [h]
theorem cellsP_all (refs : List Int) (nF : Nat → Bool × List S84) : cellsP refs nF (idxs refs refs.length) = (List.range refs.length).map fun i => ⟨rd refs (i : Nat), false, if rd refs (i : Nat) ≠ 0 then ⟨(nF i).1, (nF i).2⟩ else ⟨false, []⟩⟩ := by
 unfold cellsP
 apply List.map_congr_left
 intro i hi
 rw [List.mem_range] at hi
 have := mem_idxs (refs := refs) hi
 by_cases h : rd refs (i : Nat) ≠ 0
 case pos => rw [if_pos h, if_pos (this.2 h)]
 rw [if_neg h, if_neg (fun hc => h (this.1 hc))]
end
section
open Go.RowKit Go.Shelf Go.Proofs.YtfmjepmgcdoelaaGreatW.PrintWords Go.Proofs.YtfmjepmgcdoelaaGreatW.PrintLast Go.Proofs.YtfmjepmgcdoelaaGreatW.PrintMore
attribute [local go_sem] Oper.semAt_some
abbrev MountT := List S65 × Int × List S122 × List (Nat × Nat) × Int × Int × Int
def badM (e : Int) : MountT := ([], 0, [], [], 0, 0, e)
def nodeN (l0 : List ByteArray) (l1 : List S98) (n i : Nat) : Bool × List S84 :=
 match node_Parse.f 100000 (readB l0 l1 ((baseN n : Nat) + (i : Nat))).1 with
 | some (b, l, _) => (b, l)
 | none => (false, [])
def nodeE (l0 : List ByteArray) (l1 : List S98) (n i : Nat) : Int :=
 match node_Parse.f 100000 (readB l0 l1 ((baseN n : Nat) + (i : Nat))).1 with
 | some (_, _, e) => e
 | none => 0
theorem node_at {l0 : List ByteArray} {l1 : List S98} {refs : List Int} {n : Nat} (hn : refs.length = n) (h : (idxs refs n).all (fun i => (node_Parse.f 100000 (readB l0 l1 ((baseN n : Nat) + (i : Nat))).1).isSome) = true) (i : Nat) (hi : i < refs.length) (hr : rd refs (i : Nat) ≠ 0) :
  node_Parse.f 100000 (readB l0 l1 ((baseN refs.length : Nat) + (i : Nat))).1 = some ((nodeN l0 l1 refs.length i).1, (nodeN l0 l1 refs.length i).2, nodeE l0 l1 refs.length i) := by
 rw [← hn] at h
 have h1 := List.all_eq_true.1 h i ((mem_idxs hi).2 hr)
 obtain ⟨⟨b, l, e⟩, hv⟩ := Option.isSome_iff_exists.1 h1
 unfold nodeN nodeE
 rw [hv]
def cellsM (l0 : List ByteArray) (l1 : List S98) (refs : List Int) : List S65 :=
 (List.range refs.length).map fun i => ⟨rd refs (i : Nat), false, if rd refs (i : Nat) ≠ 0 then ⟨(nodeN l0 l1 refs.length i).1, (nodeN l0 l1 refs.length i).2⟩ else ⟨false, []⟩⟩
def mountB (l0 : List ByteArray) (l1 : List S98) (gen sum : Int) (n : Nat) (b : List Int) : Option MountT :=
  if b.length ≤ 100000 ∧ (∀ x ∈ b, 0 ≤ x ∧ x < 256) then
    match bookF b with
    | none => some (badM 2)
    | some (refs, keep, vs, ts, next) =>
      (num_Sum.f b).bind fun q => if q = sum then
        (if refs.length = n then
          (if (idxs refs n).all (fun i => (node_Parse.f 100000 (readB l0 l1 ((baseN n : Nat) + (i : Nat))).1).isSome) = true then
            (mount_Right.f (cellsM l0 l1 refs) keep vs ts next gen).bind fun r => if r = true then some (cellsM l0 l1 refs, keep, vs, ts, next, gen, 0) else some (badM 2)
           else none)
         else some (badM 2))
       else some (badM 2)
  else none
def mount_Mount.f (l0_0 : List ByteArray) (l0_1 : List S98) : Option MountT :=
  if l0_0.length < 1000000 ∧ l0_1.length < 1000000 then
    (mount_Super.f 100000 l0_0 l0_1).bind fun s => if s.2.2.2 = 0 then
      (if cellsN (l0_0.length : Int) = 0 then some (badM 2)
       else if s.2.1 > 1631 + 2 * (cellsN (l0_0.length : Int) : Int) then some (badM 2)
       else if 0 ≤ s.1 then
         (mount_text.f l0_0 l0_1 (2 + s.1 % 2 * (areaN (cellsN (l0_0.length : Int)) : Nat)) s.2.1).bind fun b => mountB l0_0 l0_1 s.1 s.2.2.1 (cellsN (l0_0.length : Int)) b
       else none)
     else some (badM s.2.2.2)
  else none
def MountPost (r : MountT) (w : World) (e : Ending) (w' : World) : Prop :=
 ∃ v0 v2 v3 : Value, e = .returned (.tuple #[.agg #[v0, .int .i64 r.2.1, v2, v3, .int .i64 r.2.2.2.2.1, .int .i64 r.2.2.2.2.2.1], .int .i64 r.2.2.2.2.2.2]) ∧ Kd.S k65 65 w' w.heap.size (fun _ => True) v0 r.1 ∧ Kd.R k122 122 w' w.heap.size (fun _ => True) v2 r.2.2.1 ∧ Kd.R kc 79 w' w.heap.size (fun _ => True) v3 r.2.2.2.1 ∧ Below w.heap.size w w'
theorem mount_res {W : World} {b2 : Nat} {x c0 c1 c2 c3 c4 c5 : Value} (h4 : W.heap[b2]? = some (.cells #[c0, c1, c2, c3, c4, c5] 34 (0, 0))) (tmps : Array Value) (t2 : tmps[2]?.getD undef = .pointer (some ⟨b2, 0, none⟩)) (t3 : tmps[3]?.getD undef = x) :
  (results Tryz.f6 tmps).run Tryz.prog W = .ok (.tuple #[.agg #[c0, c1, c2, c3, c4, c5], x]) W := by
 have hu34 := Tryz.underlying34
 have hu30 := Tryz.underlying30
 have e0 : W.cell? ⟨b2, 0, none⟩ = some c0 := (blk_cell h4 0).trans rfl
 have e1 : W.cell? ⟨b2, 1, none⟩ = some c1 := (blk_cell h4 1).trans rfl
 have e2 : W.cell? ⟨b2, 2, none⟩ = some c2 := (blk_cell h4 2).trans rfl
 have e3 : W.cell? ⟨b2, 3, none⟩ = some c3 := (blk_cell h4 3).trans rfl
 have e4 : W.cell? ⟨b2, 4, none⟩ = some c4 := (blk_cell h4 4).trans rfl
 have e5 : W.cell? ⟨b2, 5, none⟩ = some c5 := (blk_cell h4 5).trans rfl
 simp [results, Tryz.f6, go_sem, t2, t3, e0, e1, e2, e3, e4, e5]
theorem bad_post {w W : World} (er : Int) (hb : Below w.heap.size w W) : MountPost (badM er) w (.returned (.tuple #[.agg #[.slice none 0 0, .int .i64 0, .slice none 0 0, .slice none 0 0, .int .i64 0, .int .i64 0], .int .i64 er])) W :=
 ⟨_, _, _, rfl, Kd.S_nil _ _ _ _ _, Kd.R_nil _ _ _ _ _, Kd.R_nil _ _ _ _ _, hb⟩
abbrev six0 (W : World) (b : Nat) : World := six W b (.slice none 0 0) (.int .i64 0) (.slice none 0 0) (.slice none 0 0) (.int .i64 0) (.int .i64 0)
theorem mount_bad {w W : World} {er : Int} {tmps : Array Value} {r : MountT} (hr : badM er = r) (h2 : W.heap[w.heap.size + 1]? = some (.cells zeroS 34 (0, 0))) (hb : Below w.heap.size w W) (t2 : tmps[2]?.getD undef = .pointer (some ⟨w.heap.size + 1, 0, none⟩)) (t3 : tmps[3]?.getD undef = .int .i64 er) :
  bodyPostM Fence.wide 3 Tryz.prog Tryz.f6 (MountPost r w) Exit.ret { tmps := tmps, defers := [] } (six0 W (w.heap.size + 1)) := by
 have h4 := six_at (.slice none 0 0) (.int .i64 0) (.slice none 0 0) (.slice none 0 0) (.int .i64 0) (.int .i64 0) h2
 refine ⟨_, mount_res h4 tmps t2 t3, ?_⟩
 rw [← hr]
 exact bad_post er (six_B _ _ _ _ _ _ hb (Nat.le_succ _))
theorem mount_badM {w W : World} {er : Int} {D : Nat} {tmps : Array Value} {r : MountT} (hr : badM er = r) (h2 : W.heap[w.heap.size + 1]? = some (.cells zeroS 34 (0, 0))) (hb : Below w.heap.size w W) (hD : W.heap[D]? = some (.deferred (some []))) (hwD : w.heap.size + 1 < D) (t2 : tmps[2]?.getD undef = .pointer (some ⟨w.heap.size + 1, 0, none⟩)) (t3 : tmps[3]?.getD undef = .int .i64 er) :
  bodyPostM Fence.wide 3 Tryz.prog Tryz.f6 (MountPost r w) Exit.ret { tmps := tmps, defers := [{ target := .collected D, args := #[] }] } (six0 W (w.heap.size + 1)) := by
 have h4 := six_at (.slice none 0 0) (.int .i64 0) (.slice none 0 0) (.slice none 0 0) (.int .i64 0) (.int .i64 0) h2
 have hD2 := (six_far (.slice none 0 0) (.int .i64 0) (.slice none 0 0) (.slice none 0 0) (.int .i64 0) (.int .i64 0) (show D ≠ w.heap.size + 1 by omega)).trans hD
 have hb2 := six_B (.slice none 0 0) (.int .i64 0) (.slice none 0 0) (.slice none 0 0) (.int .i64 0) (.int .i64 0) hb (Nat.le_succ _)
 refine ⟨by simp, .inl ⟨_, _, rfl, run_takeDeferred hD2, ?_⟩⟩
 refine ⟨_, mount_res ((World.putObj_heap_other (by omega)).trans h4) tmps t2 t3, ?_⟩
 rw [← hr]
 exact bad_post er (hb2.grown (grown_put _ (blk_lt hD2)) hb2.size (fun k e => by injection e with e; omega))
structure Ms (w W : World) (A0 A1 : Option Addr) (n0 c0 n1 c1 b4 : Nat) (gen len sum : Int) : Prop where
 low : Below w.heap.size w W
 x1 : W.heap[w.heap.size]? = some (.cells #[.slice A0 n0 c0, .slice A1 n1 c1] 25 (0, 0))
 x2 : W.heap[w.heap.size + 1]? = some (.cells zeroS 34 (0, 0))
 x4 : W.heap[b4]? = some (.cells #[.int .i64 gen, .int .i64 len, .int .i64 sum] 40 (0, 0))
theorem Ms.below {w W W' : World} {A0 A1 : Option Addr} {n0 c0 n1 c1 b4 : Nat} {gen len sum : Int} (h : Ms w W A0 A1 n0 c0 n1 c1 b4 gen len sum) (hb : Below W.heap.size W W') : Ms w W' A0 A1 n0 c0 n1 c1 b4 gen len sum :=
 ⟨below_step h.low hb, (hb.block _ (blk_lt h.x1)).trans h.x1, (hb.block _ (blk_lt h.x2)).trans h.x2, (hb.block _ (blk_lt h.x4)).trans h.x4⟩
structure Is (w W : World) (A0 A1 : Option Addr) (n0 c0 n1 c1 b4 : Nat) (gen len sum : Int) (lp b8 g : Nat) (refs : List Int) (keep : Int) (Av : Option Addr) (cv : Nat) (vs : List S122) (At : Option Addr) (ct : Nat) (ts : List (Nat × Nat)) (next : Int) (xs : List S65) : Prop where
 m : Ms w W A0 A1 n0 c0 n1 c1 b4 gen len sum
 h8 : W.heap[b8]? = some (.cells #[.slice (some ⟨g, 0, none⟩) refs.length refs.length, .int .i64 keep, .slice Av vs.length cv, .slice At ts.length ct, .int .i64 next, .int .i64 gen] 34 (0, 0))
 s : Kd.S k65 65 W w.heap.size (fun k => k ≠ lp) (.slice (some ⟨g, 0, none⟩) refs.length refs.length) xs
 v : Kd.R k122 122 W w.heap.size (fun k => k ≠ lp) (.slice Av vs.length cv) vs
 t : Kd.R kc 79 W w.heap.size (fun k => k ≠ lp) (.slice At ts.length ct) ts
section
variable {w W W' : World} {A0 A1 : Option Addr} {n0 c0 n1 c1 b4 : Nat} {gen len sum : Int} {lp b8 g : Nat} {refs : List Int} {keep : Int} {Av : Option Addr} {cv : Nat} {vs : List S122} {At : Option Addr} {ct : Nat} {ts : List (Nat × Nat)} {next : Int} {xs : List S65}
theorem Is.grown (h : Is w W A0 A1 n0 c0 n1 c1 b4 gen len sum lp b8 g refs keep Av cv vs At ct ts next xs) (h4 : b4 < lp) (h8 : b8 < lp) (hw : w.heap.size + 1 < lp) (hg : W.grownBy W' (some lp)) : Is w W' A0 A1 n0 c0 n1 c1 b4 gen len sum lp b8 g refs keep Av cv vs At ct ts next xs := by
 have hb : ∀ k, k < W.heap.size → k ≠ lp → W'.heap[k]? = W.heap[k]? := fun k hk hne => hg.block k hk (fun e => hne (Option.some.inj e))
 exact ⟨⟨h.m.low.grown hg h.m.low.size (fun k e => by injection e with e; omega), (hb _ (blk_lt h.m.x1) (by omega)).trans h.m.x1, (hb _ (blk_lt h.m.x2) (by omega)).trans h.m.x2, (hb _ (blk_lt h.m.x4) (by omega)).trans h.m.x4⟩,
  (hb _ (blk_lt h.h8) (by omega)).trans h.h8, Kd.S_grown h.s hg (fun k hk e => hk (Option.some.inj e)), Kd.R_grown h.v hg (fun k hk e => hk (Option.some.inj e)), Kd.R_grown h.t hg (fun k hk e => hk (Option.some.inj e))⟩
theorem Is.node {N i : Nat} {v : Value} {b : Bool} {l : List S84} (h : Is w W A0 A1 n0 c0 n1 c1 b4 gen len sum lp b8 g refs keep Av cv vs At ct ts next xs) (hS : Kd.S k65 65 W w.heap.size (fun k => k ≠ lp ∧ k < N) (.slice (some ⟨g, 0, none⟩) refs.length refs.length) xs) (hv : Kd.R k84 84 W N (fun _ => True) v l) (hi : i < xs.length) (hlp : lp < N) (hbN : w.heap.size ≤ N) (h4 : b4 < g) (h8 : g < b8) (hwg : w.heap.size + 1 < b4) :
  Is w ((W.setCell ⟨g, i * 4 + 2, none⟩ (.bool b)).setCell ⟨g, i * 4 + 3, none⟩ v) A0 A1 n0 c0 n1 c1 b4 gen len sum lp b8 g refs keep Av cv vs At ct ts next (xs.set i { xs[i] with f2 := ⟨b, l⟩ }) := by
 obtain ⟨h1, hg⟩ := S_node (b := b) hS hv hi hlp hbN
 have hb : ∀ k, k < W.heap.size → k ≠ g → ((W.setCell ⟨g, i * 4 + 2, none⟩ (.bool b)).setCell ⟨g, i * 4 + 3, none⟩ v).heap[k]? = W.heap[k]? := fun k hk hne => hg.block k hk (fun e => hne (Option.some.inj e))
 obtain ⟨cells, hgc⟩ := Kd.S_typed h.s g rfl
 exact ⟨⟨h.m.low.grown hg h.m.low.size (fun k e => by injection e with e; omega), (hb _ (blk_lt h.m.x1) (by omega)).trans h.m.x1, (hb _ (blk_lt h.m.x2) (by omega)).trans h.m.x2, (hb _ (blk_lt h.m.x4) (by omega)).trans h.m.x4⟩,
  (hb _ (blk_lt h.h8) (by omega)).trans h.h8, h1, Kd.R_mono (Kd.R_grown (Kd.R_types h.v hgc (by decide)) hg (fun k hk e => hk.2 (Option.some.inj e))) (fun k hk => hk.1), Kd.R_mono (Kd.R_grown (Kd.R_types h.t hgc (by decide)) hg (fun k hk e => hk.2 (Option.some.inj e))) (fun k hk => hk.1)⟩
end
theorem cellsM_len (l0 : List ByteArray) (l1 : List S98) (refs : List Int) : (cellsM l0 l1 refs).length = refs.length := by unfold cellsM; rw [List.length_map, List.length_range]
theorem mount_good {w W : World} {A0 A1 : Option Addr} {n0 c0 n1 c1 b4 : Nat} {gen len sum : Int} {lp b8 g D : Nat} {refs : List Int} {keep : Int} {Av : Option Addr} {cv : Nat} {vs : List S122} {At : Option Addr} {ct : Nat} {ts : List (Nat × Nat)} {next : Int} {xs : List S65} {tmps : Array Value} {r : MountT}
  (h : Is w W A0 A1 n0 c0 n1 c1 b4 gen len sum lp b8 g refs keep Av cv vs At ct ts next xs) (hr : (xs, keep, vs, ts, next, gen, 0) = r) (hD : W.heap[D]? = some (.deferred (some []))) (hwD : w.heap.size + 1 < D) (t2 : tmps[2]?.getD undef = .pointer (some ⟨w.heap.size + 1, 0, none⟩)) (t3 : tmps[3]?.getD undef = .int .i64 0) :
  bodyPostM Fence.wide 3 Tryz.prog Tryz.f6 (MountPost r w) Exit.ret { tmps := tmps, defers := [{ target := .collected D, args := #[] }] } (six W (w.heap.size + 1) (.slice (some ⟨g, 0, none⟩) refs.length refs.length) (.int .i64 keep) (.slice Av vs.length cv) (.slice At ts.length ct) (.int .i64 next) (.int .i64 gen)) := by
 have h4 := six_at (.slice (some ⟨g, 0, none⟩) refs.length refs.length) (.int .i64 keep) (.slice Av vs.length cv) (.slice At ts.length ct) (.int .i64 next) (.int .i64 gen) h.m.x2
 have hfar := fun (k : Nat) (hk : k ≠ w.heap.size + 1) => six_far (W := W) (.slice (some ⟨g, 0, none⟩) refs.length refs.length) (.int .i64 keep) (.slice Av vs.length cv) (.slice At ts.length ct) (.int .i64 next) (.int .i64 gen) hk
 have hb2 := six_B (.slice (some ⟨g, 0, none⟩) refs.length refs.length) (.int .i64 keep) (.slice Av vs.length cv) (.slice At ts.length ct) (.int .i64 next) (.int .i64 gen) h.m.low (Nat.le_succ _)
 have hs : Kd.S k65 65 (six W (w.heap.size + 1) (.slice (some ⟨g, 0, none⟩) refs.length refs.length) (.int .i64 keep) (.slice Av vs.length cv) (.slice At ts.length ct) (.int .i64 next) (.int .i64 gen)) w.heap.size (fun k => k < W.heap.size ∧ k ≠ D) (.slice (some ⟨g, 0, none⟩) refs.length refs.length) xs :=
  Kd.S_mono (ok := fun k => k < W.heap.size ∧ k ≠ w.heap.size + 1 ∧ k ≠ D) (Kd.S_step (Kd.S_mono (Kd.S_bound h.s) (fun k hk => ⟨hk.2.2.1, fun e => by
   obtain ⟨q, hq, cells, hc⟩ := hk.2.2.2
   rw [e, h.m.x2] at hc
   injection hc with hc
   injection hc with _ hc
   subst hc
   revert hq; decide, fun e => by
   obtain ⟨q, hq, cells, hc⟩ := hk.2.2.2
   rw [e, hD] at hc
   cases hc⟩)) (fun k hk _ => hfar k hk.2.1)) (fun k hk => ⟨hk.1, hk.2.2⟩)
 have hv : Kd.R k122 122 (six W (w.heap.size + 1) (.slice (some ⟨g, 0, none⟩) refs.length refs.length) (.int .i64 keep) (.slice Av vs.length cv) (.slice At ts.length ct) (.int .i64 next) (.int .i64 gen)) w.heap.size (fun k => k < W.heap.size ∧ k ≠ D) (.slice Av vs.length cv) vs :=
  Kd.R_mono (ok := fun k => k < W.heap.size ∧ k ≠ w.heap.size + 1 ∧ k ≠ D) (Kd.R_step (Kd.R_mono (Kd.R_bound h.v) (fun k hk => ⟨hk.2.2.1, fun e => by
   obtain ⟨q, hq, cells, hc⟩ := hk.2.2.2
   rw [e, h.m.x2] at hc
   injection hc with hc
   injection hc with _ hc
   subst hc
   revert hq; decide, fun e => by
   obtain ⟨q, hq, cells, hc⟩ := hk.2.2.2
   rw [e, hD] at hc
   cases hc⟩)) (fun k hk _ => hfar k hk.2.1)) (fun k hk => ⟨hk.1, hk.2.2⟩)
 have ht : Kd.R kc 79 (six W (w.heap.size + 1) (.slice (some ⟨g, 0, none⟩) refs.length refs.length) (.int .i64 keep) (.slice Av vs.length cv) (.slice At ts.length ct) (.int .i64 next) (.int .i64 gen)) w.heap.size (fun k => k < W.heap.size ∧ k ≠ D) (.slice At ts.length ct) ts :=
  Kd.R_mono (ok := fun k => k < W.heap.size ∧ k ≠ w.heap.size + 1 ∧ k ≠ D) (Kd.R_step (Kd.R_mono (Kd.R_bound h.t) (fun k hk => ⟨hk.2.2.1, fun e => by
   obtain ⟨q, hq, cells, hc⟩ := hk.2.2.2
   rw [e, h.m.x2] at hc
   injection hc with hc
   injection hc with _ hc
   subst hc
   revert hq; decide, fun e => by
   obtain ⟨q, hq, cells, hc⟩ := hk.2.2.2
   rw [e, hD] at hc
   cases hc⟩)) (fun k hk _ => hfar k hk.2.1)) (fun k hk => ⟨hk.1, hk.2.2⟩)
 have hD2 := (hfar D (by omega)).trans hD
 generalize six W (w.heap.size + 1) (.slice (some ⟨g, 0, none⟩) refs.length refs.length) (.int .i64 keep) (.slice Av vs.length cv) (.slice At ts.length ct) (.int .i64 next) (.int .i64 gen) = X at h4 hb2 hs hv ht hD2 ⊢
 have hgp := grown_put (.deferred none) (blk_lt hD2)
 refine ⟨by simp, .inl ⟨_, _, rfl, run_takeDeferred hD2, ?_⟩⟩
 refine ⟨_, mount_res ((World.putObj_heap_other (by omega)).trans h4) tmps t2 t3, ?_⟩
 rw [← hr]
 exact ⟨_, _, _, rfl, Kd.S_mono (Kd.S_grown hs hgp (fun k hk e => hk.2 (Option.some.inj e))) (fun _ _ => trivial), Kd.R_mono (Kd.R_grown hv hgp (fun k hk e => hk.2 (Option.some.inj e))) (fun _ _ => trivial), Kd.R_mono (Kd.R_grown ht hgp (fun k hk e => hk.2 (Option.some.inj e))) (fun _ _ => trivial), hb2.grown hgp hb2.size (fun k e => by injection e with e; omega)⟩
theorem cellsN_le (b : Int) : cellsN b ≤ 2000 := by
 unfold cellsN
 exact Nat.le_trans List.countP_le_length (by simp)
def hMt.T9 : Bool × List (List Nat × List Nat) := (true, [([], []), ([0], [0]), ([1], [1]), ([2], [2]), ([3, 2, 2], [2, 3]), ([2], [2]), ([5, 2], [2, 5]), ([4, 6, 2], [2, 4, 6]), ([2, 7], [2, 7]), ([8, 4], [8]), ([9], [9]), ([10, 9], [9, 10]), ([11, 9], [9, 11]), ([12, 9], [9, 12]), ([9], [9]), ([13, 14, 9], [9, 13, 14]), ([9, 15], [9, 15])])
def hMt.B9 : List Nat := [0, 1, 3, 7, 15, 7, 39, 127, 255, 511, 1023, 2047, 4095, 8191, 1023, 32767, 65535]
theorem hMt.tab9 : rtab .any (opsOf Tryz.f6 9) = hMt.T9 := by kernel_rfl
theorem hMt.bits9 : waitsOk hMt.T9.2 hMt.B9 = true := by kernel_rfl
theorem mount_walk (A0 : Option Addr) (c0 : Nat) (l0 : List ByteArray) (A1 : Option Addr) (c1 : Nat) (l1 : List S98) (r : MountT) (w : World) (hr0 : Kd.C Kd.string w A0 l0.length l0) (hc0 : l0.length ≤ c0) (hr1 : Kd.C k98 w A1 l1.length l1) (hc1 : l1.length ≤ c1) (h : mount_Mount.f l0 l1 = some r) :
  Calls Tryz.prog 6 #[.agg #[.slice A0 l0.length c0, .slice A1 l1.length c1]] w (MountPost r w) := by
 unfold mount_Mount.f at h
 by_cases hl : l0.length < 1000000 ∧ l1.length < 1000000
 case neg => rw [if_neg hl] at h; cases h
 rw [if_pos hl] at h
 obtain ⟨⟨gen, len, sum, er⟩, hs, h⟩ := Option.bind_eq_some_iff.1 h
 obtain ⟨hl0, hl1⟩ := hl
 have HL1 := Zk hl1
 have HL0 := Zk hl0
 obtain ⟨wA, hwA⟩ : ∃ W, (w.alloc (.cells #[.slice A0 l0.length c0, .slice A1 l1.length c1] 25)).alloc (.cells zeroS 34) = W := ⟨_, rfl⟩
 have hbA : Below w.heap.size w wA := by rw [← hwA]; exact ((Below.refl _ w).alloc (Nat.le_refl _) _).alloc (by simp) _
 have H1 := Zk (show wA.heap[w.heap.size]? = some (.cells #[.slice A0 l0.length c0, .slice A1 l1.length c1] 25 (0, 0)) by rw [← hwA]; exact blk_alloc (alloc_new w _) _)
 have H2 := Zk (show wA.heap[w.heap.size + 1]? = some (.cells zeroS 34 (0, 0)) by
  rw [← hwA]
  have := alloc_new (w.alloc (.cells #[.slice A0 l0.length c0, .slice A1 l1.length c1] 25)) (.cells zeroS 34)
  rwa [World.size_alloc] at this)
 have HBA := Zk hbA
 have HR0 := Zk (fun (W : World) (hb : Below w.heap.size w W) => Kd.C_below hr0 hb)
 have HR1 := Zk (fun (W : World) (hb : Below w.heap.size w W) => Kd.C_below hr1 hb)
 have HSU := Zk (mount_Super.calls 100000 A0 c0 l0 A1 c1 l1 gen len sum er wA (HR0.out _ hbA) hc0 (HR1.out _ hbA) hc1 hs)
 have HH := Zk h
 have d0 : wA.cell? ⟨w.heap.size, 0, none⟩ = some (.slice A0 l0.length c0) := (blk_cell H1.out 0).trans rfl
 have d1 : wA.cell? ⟨w.heap.size, 1, none⟩ = some (.slice A1 l1.length c1) := (blk_cell H1.out 1).trans rfl
 have hu25 := Tryz.underlying25
 have hu34 := Tryz.underlying34
 have hu30 := Tryz.underlying30
 have hu40 := Tryz.underlying40
 clear h hs hbA hr0 hr1
 refine (callsIn_wide (n := 3)).1 ?_
 refine callsIn_of_wp_marks Tryz.func6 rfl trivial ?_ rfl
 simp only [Tryz.ntmps6, List.size_toArray, List.length_cons, List.length_nil, Nat.reduceAdd, Nat.reduceSub, Array.replicate_succ, Array.replicate_zero, List.push_toArray, List.append_toArray, List.nil_append, List.cons_append]
 refine wpIn_wide.2 ?_
 go_wp2_with fail
 refine HSU.out.mono ?_
 rintro e w2 ⟨rfl, hb2⟩
 obtain ⟨b4, hb4⟩ : ∃ b, w2.heap.size = b := ⟨_, rfl⟩
 obtain ⟨w3, hw3⟩ : ∃ W, w2.alloc (.cells #[.int .i64 gen, .int .i64 len, .int .i64 sum] 40) = W := ⟨_, rfl⟩
 have HM3 : Aside0 (Ms w w3 A0 A1 l0.length c0 l1.length c1 b4 gen len sum) := ⟨by
  have hb23 : Below wA.heap.size wA w3 := by rw [← hw3]; exact hb2.alloc hb2.size _
  exact ⟨below_step HBA.out hb23, (hb23.block _ (blk_lt H1.out)).trans H1.out, (hb23.block _ (blk_lt H2.out)).trans H2.out, by rw [← hw3, ← hb4]; exact alloc_new _ _⟩⟩
 have G4 := Zk (show w.heap.size + 1 < b4 by have := blk_lt H2.out; have := hb2.size; omega)
 have hh := HH.out
 clear hb2 H1 H2 HBA hwA HH HSU d0 d1
 by_cases her : er = 0
 case neg =>
  rw [if_neg her] at hh
  have HE := Zk (Option.some.inj hh)
  have herb : (er != 0) = true := by simp [her]
  have z0 : w3.cell? ⟨w.heap.size + 1, 0, none⟩ = some (.slice none 0 0) := (blk_cell HM3.out.x2 0).trans rfl
  have y0 := blk_frozen HM3.out.x2 0
  have z1 : w3.cell? ⟨w.heap.size + 1, 1, none⟩ = some (.int .i64 0) := (blk_cell HM3.out.x2 1).trans rfl
  have y1 := blk_frozen HM3.out.x2 1
  have z2 : w3.cell? ⟨w.heap.size + 1, 2, none⟩ = some (.slice none 0 0) := (blk_cell HM3.out.x2 2).trans rfl
  have y2 := blk_frozen HM3.out.x2 2
  have z3 : w3.cell? ⟨w.heap.size + 1, 3, none⟩ = some (.slice none 0 0) := (blk_cell HM3.out.x2 3).trans rfl
  have y3 := blk_frozen HM3.out.x2 3
  have z4 : w3.cell? ⟨w.heap.size + 1, 4, none⟩ = some (.int .i64 0) := (blk_cell HM3.out.x2 4).trans rfl
  have y4 := blk_frozen HM3.out.x2 4
  have z5 : w3.cell? ⟨w.heap.size + 1, 5, none⟩ = some (.int .i64 0) := (blk_cell HM3.out.x2 5).trans rfl
  have y5 := blk_frozen HM3.out.x2 5
  clear hh
  go_wp2
  exact mount_bad HE.out HM3.out.x2 HM3.out.low rfl rfl
 subst her
 rw [if_pos rfl] at hh
 obtain ⟨n, hn⟩ : ∃ n, cellsN (l0.length : Int) = n := ⟨_, rfl⟩
 have hn2 : n ≤ 2000 := by rw [← hn]; exact cellsN_le _
 have HPC := Zk (plan_Cells.calls (l0.length : Int) n w3 (by unfold plan_Cells.f; rw [hn]))
 rw [hn] at hh
 have HH := Zk hh
 have d0 : w3.cell? ⟨w.heap.size, 0, none⟩ = some (.slice A0 l0.length c0) := (blk_cell HM3.out.x1 0).trans rfl
 clear hh hn
 go_wp2_with fail
 refine HPC.out.mono ?_
 rintro e w4 ⟨rfl, hb34⟩
 have HM4 := Zk (HM3.out.below hb34)
 have hh := HH.out
 clear hb34 d0 HPC HM3 hw3
 by_cases hn0 : n = 0
 case pos =>
  subst hn0
  rw [if_pos rfl] at hh
  have HE := Zk (Option.some.inj hh)
  have z0 : w4.cell? ⟨w.heap.size + 1, 0, none⟩ = some (.slice none 0 0) := (blk_cell HM4.out.x2 0).trans rfl
  have y0 := blk_frozen HM4.out.x2 0
  have z1 : w4.cell? ⟨w.heap.size + 1, 1, none⟩ = some (.int .i64 0) := (blk_cell HM4.out.x2 1).trans rfl
  have y1 := blk_frozen HM4.out.x2 1
  have z2 : w4.cell? ⟨w.heap.size + 1, 2, none⟩ = some (.slice none 0 0) := (blk_cell HM4.out.x2 2).trans rfl
  have y2 := blk_frozen HM4.out.x2 2
  have z3 : w4.cell? ⟨w.heap.size + 1, 3, none⟩ = some (.slice none 0 0) := (blk_cell HM4.out.x2 3).trans rfl
  have y3 := blk_frozen HM4.out.x2 3
  have z4 : w4.cell? ⟨w.heap.size + 1, 4, none⟩ = some (.int .i64 0) := (blk_cell HM4.out.x2 4).trans rfl
  have y4 := blk_frozen HM4.out.x2 4
  have z5 : w4.cell? ⟨w.heap.size + 1, 5, none⟩ = some (.int .i64 0) := (blk_cell HM4.out.x2 5).trans rfl
  have y5 := blk_frozen HM4.out.x2 5
  clear hh HH
  go_wp2
  exact mount_bad HE.out HM4.out.x2 HM4.out.low rfl rfl
 rw [if_neg hn0] at hh
 have hnb : ((n : Int) == 0) = false := by simp; omega
 have q1 : w4.cell? ⟨b4, 1, none⟩ = some (.int .i64 len) := (blk_cell HM4.out.x4 1).trans rfl
 by_cases hlen : len > 1631 + 2 * (n : Int)
 case pos =>
  rw [if_pos hlen] at hh
  have HE := Zk (Option.some.inj hh)
  have z0 : w4.cell? ⟨w.heap.size + 1, 0, none⟩ = some (.slice none 0 0) := (blk_cell HM4.out.x2 0).trans rfl
  have y0 := blk_frozen HM4.out.x2 0
  have z1 : w4.cell? ⟨w.heap.size + 1, 1, none⟩ = some (.int .i64 0) := (blk_cell HM4.out.x2 1).trans rfl
  have y1 := blk_frozen HM4.out.x2 1
  have z2 : w4.cell? ⟨w.heap.size + 1, 2, none⟩ = some (.slice none 0 0) := (blk_cell HM4.out.x2 2).trans rfl
  have y2 := blk_frozen HM4.out.x2 2
  have z3 : w4.cell? ⟨w.heap.size + 1, 3, none⟩ = some (.slice none 0 0) := (blk_cell HM4.out.x2 3).trans rfl
  have y3 := blk_frozen HM4.out.x2 3
  have z4 : w4.cell? ⟨w.heap.size + 1, 4, none⟩ = some (.int .i64 0) := (blk_cell HM4.out.x2 4).trans rfl
  have y4 := blk_frozen HM4.out.x2 4
  have z5 : w4.cell? ⟨w.heap.size + 1, 5, none⟩ = some (.int .i64 0) := (blk_cell HM4.out.x2 5).trans rfl
  have y5 := blk_frozen HM4.out.x2 5
  clear hh HH
  go_wp2
  exact mount_bad HE.out HM4.out.x2 HM4.out.low rfl rfl
 rw [if_neg hlen] at hh
 by_cases hg0 : 0 ≤ gen
 case neg => rw [if_neg hg0] at hh; cases hh
 rw [if_pos hg0] at hh
 obtain ⟨b, hb, hh2⟩ := Option.bind_eq_some_iff.1 hh
 have HTX := Zk (fun W (hW : Ms w W A0 A1 l0.length c0 l1.length c1 b4 gen len sum) => mount_text.calls A0 c0 l0 A1 c1 l1 _ _ b W (HR0.out _ hW.low) hc0 (HR1.out _ hW.low) hc1 hb)
 have HH2 := Zk hh2
 have d0 : w4.cell? ⟨w.heap.size, 0, none⟩ = some (.slice A0 l0.length c0) := (blk_cell HM4.out.x1 0).trans rfl
 have d1 : w4.cell? ⟨w.heap.size, 1, none⟩ = some (.slice A1 l1.length c1) := (blk_cell HM4.out.x1 1).trans rfl
 have q0 : w4.cell? ⟨b4, 0, none⟩ = some (.int .i64 gen) := (blk_cell HM4.out.x4 0).trans rfl
 clear hh hh2 HH hb
 have HAR := Zk (fun W => area_walk n (by omega) W)
 have han : areaN n ≤ 1000 := by unfold areaN; omega
 obtain ⟨an, hane⟩ : ∃ an, areaN n = an := ⟨_, rfl⟩
 have htm : gen.tmod 2 = gen % 2 := Int.tmod_eq_emod_of_nonneg hg0
 obtain ⟨g2, hg2e⟩ : ∃ g, gen % 2 = g := ⟨_, rfl⟩
 have hg2 : g2 = 0 ∨ g2 = 1 := by omega
 rw [hane] at HAR HTX han
 rw [hg2e] at HTX htm
 have hw1 : IntKind.i64.wrap (g2 * (an : Nat)) = g2 * (an : Nat) := by rw [i64_w]; exact w64 (by rcases hg2 with rfl | rfl <;> omega) (by rcases hg2 with rfl | rfl <;> omega)
 have hw2 : IntKind.i64.wrap (2 + g2 * (an : Nat)) = 2 + g2 * (an : Nat) := by rw [i64_w]; exact w64 (by rcases hg2 with rfl | rfl <;> omega) (by rcases hg2 with rfl | rfl <;> omega)
 have HM4d := Zk (HM4.out.below (below_drew (Below.refl _ w4)))
 have lt1 := blk_lt HM4.out.x1
 have lt4 := blk_lt HM4.out.x4
 clear hane hg2e hg2
 go_wp2
 go_region_held3 (fun w' => w'.cell? ⟨w.heap.size, 0, none⟩ = some (.slice A0 l0.length c0) ∧ w'.cell? ⟨w.heap.size, 1, none⟩ = some (.slice A1 l1.length c1) ∧ w'.cell? ⟨b4, 0, none⟩ = some (.int .i64 gen) ∧ w'.cell? ⟨b4, 1, none⟩ = some (.int .i64 len)) (go_keep)
  (first | (go_at_call 18; refine (HAR.out _).mono ?_; rintro e w' ⟨rfl, hw'⟩; obtain rfl := hw'.symm) | (go_at_call 17; refine (HTX.out _ HM4d.out).mono ?_; rintro e w5 ⟨v7, rfl, hv7, hb5⟩; have p0 : w5.cell? ⟨w.heap.size, 0, none⟩ = some (.slice A0 l0.length c0) := (hb5.cell (p := ⟨w.heap.size, 0, none⟩) lt1).trans d0; have p1 : w5.cell? ⟨w.heap.size, 1, none⟩ = some (.slice A1 l1.length c1) := (hb5.cell (p := ⟨w.heap.size, 1, none⟩) lt1).trans d1; have p2 : w5.cell? ⟨b4, 0, none⟩ = some (.int .i64 gen) := (hb5.cell (p := ⟨b4, 0, none⟩) lt4).trans q0; have p3 : w5.cell? ⟨b4, 1, none⟩ = some (.int .i64 len) := (hb5.cell (p := ⟨b4, 1, none⟩) lt4).trans q1))
 have HM5 := Zk (HM4d.out.below hb5)
 have hh := HH2.out
 unfold mountB at hh
 by_cases hby : b.length ≤ 100000 ∧ ∀ x ∈ b, 0 ≤ x ∧ x < 256
 case neg => rw [if_neg hby] at hh; cases hh
 rw [if_pos hby] at hh
 obtain ⟨Ab, cb, rfl, hcb, hCb⟩ := Kd.R_reads hv7
 have HBK := Zk (book_walk Ab cb b gen w5 hby hCb hcb (todo_total b hby))
 have HCB := Zk hCb
 have HW5 := Zk HM5.out.low.size
 have HB54 := Zk (blk_lt HM5.out.x4)
 have HCC := Zk hcb
 have HH3 := Zk hh
 clear hh hv7 hb5 hby hCb hcb HH2 HTX HAR hw1 hw2 htm HM4 HM4d d0 d1 q0 q1 p0 p1 lt1 lt4
 go_wp2_with fail
 refine HBK.out.mono ?_
 rintro e w6 ⟨hb6, hbn, hbs⟩
 have HM6 := Zk (HM5.out.below hb6)
 have HCB6 := Zk (Kd.C_below HCB.out hb6)
 have hh := HH3.out
 obtain ⟨bf, hbf⟩ : ∃ x, bookF b = x := ⟨_, rfl⟩
 rw [hbf] at hh hbn hbs
 obtain ⟨b8, hb8⟩ : ∃ x, w6.heap.size = x := ⟨_, rfl⟩
 clear HBK HCB HM5 HH3 hbf p2 p3
 rcases bf with _ | ⟨refs, keep, vs, ts, next⟩
 ·obtain rfl := hbn rfl
  have HE := Zk (Option.some.inj hh)
  obtain ⟨w7, hw7⟩ : ∃ W, w6.alloc (.cells zeroS 34) = W := ⟨_, rfl⟩
  have HM7 : Aside0 (Ms w w7 A0 A1 l0.length c0 l1.length c1 b4 gen len sum) := ⟨by rw [← hw7]; exact HM6.out.below ((Below.refl _ w6).alloc (Nat.le_refl _) _)⟩
  have Q2 := Zk (show w7.cell? ⟨b4, 2, none⟩ = some (.int .i64 sum) from (blk_cell HM7.out.x4 2).trans rfl)
  clear hh hbn hbs
  unfold zeroS at hw7 ⊢
  have HW7 := Zk hw7
  clear hw7
  go_wp2
  rw [HW7.out]
  clear HW7
  replace Q2 : Aside0 (w7.drew.cell? ⟨b4, 2, none⟩ = some (.int .i64 sum)) := ⟨Q2.out⟩
  replace HM7 := Zk (HM7.out.below (below_drew (Below.refl _ _)))
  refine wp_region_noPanic ?_
  refine start_ (n := 17) (S := fun w' => w'.cell? ⟨b4, 2, none⟩ = some (.int .i64 sum)) (ds := []) #[false, false, false, false, false, false, false, false, false, false, false, false, false, false, false, false, false] (by kernel_rfl) rfl rfl Q2.out (fun hHeld => ?_)
  refine with_tabW hMt.tab9 hMt.bits9 (fun HT_ HW_ => ?_)
  generalize w7.drew = wda9 at Q2 HM7 hHeld ⊢
  refine pu_ 0 53 ?_
  refine pu_ 1 54 ?_
  refine pu_ 2 55 ?_
  refine ps_ 3 56 ?_
  refine ps_ 4 57 ?_
  refine ps_ 5 58 ?_
  refine ps_ 6 59 ?_
  refine ps_ 7 60 ?_
  refine pu_ 8 61 ?_
  refine pu_ 9 62 ?_
  refine ps_ 10 63 ?_
  refine ps_ 11 64 ?_
  refine ps_ 12 65 ?_
  refine ps_ 13 66 ?_
  refine ps_ 14 67 ?_
  refine ps_ 15 68 ?_
  refine pu_ 16 69 ?_
  refine done_ (done_of HT_.out (by kernel_rfl)) ?_
  refine NoPanic.normal ?_
  clear hHeld HT_ HW_
  have z0 : wda9.cell? ⟨w.heap.size + 1, 0, none⟩ = some (.slice none 0 0) := (blk_cell HM7.out.x2 0).trans rfl
  have y0 := blk_frozen HM7.out.x2 0
  have z1 : wda9.cell? ⟨w.heap.size + 1, 1, none⟩ = some (.int .i64 0) := (blk_cell HM7.out.x2 1).trans rfl
  have y1 := blk_frozen HM7.out.x2 1
  have z2 : wda9.cell? ⟨w.heap.size + 1, 2, none⟩ = some (.slice none 0 0) := (blk_cell HM7.out.x2 2).trans rfl
  have y2 := blk_frozen HM7.out.x2 2
  have z3 : wda9.cell? ⟨w.heap.size + 1, 3, none⟩ = some (.slice none 0 0) := (blk_cell HM7.out.x2 3).trans rfl
  have y3 := blk_frozen HM7.out.x2 3
  have z4 : wda9.cell? ⟨w.heap.size + 1, 4, none⟩ = some (.int .i64 0) := (blk_cell HM7.out.x2 4).trans rfl
  have y4 := blk_frozen HM7.out.x2 4
  have z5 : wda9.cell? ⟨w.heap.size + 1, 5, none⟩ = some (.int .i64 0) := (blk_cell HM7.out.x2 5).trans rfl
  have y5 := blk_frozen HM7.out.x2 5
  go_wp2
  exact mount_bad HE.out HM7.out.x2 HM7.out.low rfl rfl
 ·obtain ⟨g, v1, v2, rfl, hg6, hgc, hv6, ht6⟩ := hbs refs keep vs ts next rfl
  obtain ⟨Av, cv, rfl, -, -⟩ := Kd.R_reads hv6
  obtain ⟨At, ct, rfl, -, -⟩ := Kd.R_reads ht6
  obtain ⟨w7, hw7⟩ : ∃ W, w6.alloc (.cells #[.slice (some ⟨g, 0, none⟩) refs.length refs.length, .int .i64 keep, .slice Av vs.length cv, .slice At ts.length ct, .int .i64 next, .int .i64 gen] 34) = W := ⟨_, rfl⟩
  have hb67 : Below w6.heap.size w6 w7 := by rw [← hw7]; exact (Below.refl _ w6).alloc (Nat.le_refl _) _
  have HM7 := Zk (HM6.out.below hb67)
  have H8 := Zk (show w7.heap[b8]? = some (.cells #[.slice (some ⟨g, 0, none⟩) refs.length refs.length, .int .i64 keep, .slice Av vs.length cv, .slice At ts.length ct, .int .i64 next, .int .i64 gen] 34 (0, 0)) by rw [← hw7, ← hb8]; exact alloc_new _ _)
  have HG := Zk ((hb67.block _ (blk_lt hgc)).trans hgc)
  have G8 := Zk (show g < b8 by rw [← hb8]; exact blk_lt hgc)
  have G7 := Zk (show b4 < g by have := HB54.out; omega)
  have HV := Zk (Kd.R_lower (Kd.R_below hv6 hb67) HW5.out)
  have HT := Zk (Kd.R_lower (Kd.R_below ht6 hb67) HW5.out)
  have HCB := Zk (Kd.C_below HCB6.out hb67)
  have HW7 := Zk hw7
  have Q2 := Zk (show w7.cell? ⟨b4, 2, none⟩ = some (.int .i64 sum) from (blk_cell HM7.out.x4 2).trans rfl)
  have Q8 := Zk (show w7.cell? ⟨b8, 0, none⟩ = some (.slice (some ⟨g, 0, none⟩) refs.length refs.length) from (blk_cell H8.out 0).trans rfl)
  obtain ⟨q, hq, hh2⟩ := Option.bind_eq_some_iff.1 (show ((num_Sum.f b).bind _) = some r from hh)
  have HSM := Zk (fun W (hr : Kd.C (Kd.int .u8) W Ab b.length b) => (num_Sum.calls Ab cb b q W hr HCC.out hq).mono (fun e w' h => (⟨h.1, h.2.below⟩ : e = .returned (.int .i64 q) ∧ Below W.heap.size W w')))
  clear hw7 hbn hbs hg6 hgc hv6 ht6 hb67 hq HM6 HCB6 hh
  by_cases hqs : q = sum
  case neg =>
   rw [if_neg hqs] at hh2
   have hqb : (q != sum) = true := by simp [hqs]
   have HE := Zk (Option.some.inj hh2)
   clear hh2
   go_wp2
   rw [HW7.out]
   clear HW7
   replace Q2 : Aside0 (w7.drew.cell? ⟨b4, 2, none⟩ = some (.int .i64 sum)) := ⟨Q2.out⟩
   replace Q8 : Aside0 (w7.drew.cell? ⟨b8, 0, none⟩ = some (.slice (some ⟨g, 0, none⟩) refs.length refs.length)) := ⟨Q8.out⟩
   replace HM7 := Zk (HM7.out.below (below_drew (Below.refl _ _)))
   replace H8 := Zk (blk_drew H8.out)
   replace HG := Zk (blk_drew HG.out)
   replace HV := Zk (Kd.R_drew HV.out)
   replace HT := Zk (Kd.R_drew HT.out)
   replace HCB := Zk (Kd.C_drew HCB.out)
   refine wp_region_noPanic ?_
   refine start_ (n := 17) (S := fun w' => w'.cell? ⟨b4, 2, none⟩ = some (.int .i64 sum) ∧ w'.cell? ⟨b8, 0, none⟩ = some (.slice (some ⟨g, 0, none⟩) refs.length refs.length)) (ds := []) #[false, false, false, false, false, false, false, false, false, false, false, false, false, false, false, false, false] (by kernel_rfl) rfl rfl ⟨Q2.out, Q8.out⟩ (fun hHeld => ?_)
   refine with_tabW hMt.tab9 hMt.bits9 (fun HT_ HW_ => ?_)
   generalize w7.drew = wdb9 at Q2 Q8 HM7 H8 HG HV HT HCB hHeld ⊢
   refine pu_ 0 53 ?_
   refine pu_ 1 54 ?_
   refine pu_ 2 55 ?_
   refine pu_ 3 56 ?_
   refine pu_ 5 58 ?_
   refine tk_ 6 59 ?_
   refine one_ (i := 4) (N := some 57) #[true, true, true, true, true, true, true, false, false, false, false, false, false, false, false, false, false] rfl rfl (one_of HT_.out (by kernel_rfl)) (by decide) (fun K hK => ?_)
   refine goes_ Tryz.func20 (by kernel_rfl) rfl #[.slice Ab b.length cb] (by rfl) rfl rfl (by (try simp only [List.map_toArray, List.map_cons, List.map_nil]); first | done | rfl | (simp only [List.length_drop, List.length_take]; rfl)) ?_
   with_reducible refine (HSM.out _ HCB.out).mono ?_
   rintro e wcb4 ⟨rfl, hb⟩
   refine ⟨_, rfl, ?_⟩
   replace Q2 : Aside0 (wcb4.cell? ⟨b4, 2, none⟩ = some (.int .i64 sum)) := ⟨(hb.cell (World.block_lt_of_cell? wdb9 _ Q2.out)).trans Q2.out⟩
   replace Q8 : Aside0 (wcb4.cell? ⟨b8, 0, none⟩ = some (.slice (some ⟨g, 0, none⟩) refs.length refs.length)) := ⟨(hb.cell (World.block_lt_of_cell? wdb9 _ Q8.out)).trans Q8.out⟩
   replace HM7 := Zk (HM7.out.below hb)
   replace H8 := Zk (blk_below H8.out hb)
   replace HG := Zk (blk_below HG.out hb)
   replace HV := Zk (Kd.R_below HV.out hb)
   replace HT := Zk (Kd.R_below HT.out hb)
   replace HCB := Zk (Kd.C_below HCB.out hb)
   clear hb hHeld
   refine hK.out _ _ ⟨Q2.out, Q8.out⟩ (fun hHeld => ?_)
   clear hK K
   refine norm_ (a' := ?_) ?_ ?_
   rotate_left
   ·show Act.put _ (some 57) _ = _
    simp only [Act.put, List.setIfInBounds_toArray, List.set_cons_zero, List.set_cons_succ, i64_w, i32_w]
    rfl
   refine pu_ 7 60 ?_
   refine pu_ 8 61 ?_
   refine pu_ 9 62 ?_
   refine ps_ 10 63 ?_
   refine ps_ 11 64 ?_
   refine ps_ 12 65 ?_
   refine ps_ 13 66 ?_
   refine ps_ 14 67 ?_
   refine ps_ 15 68 ?_
   refine pu_ 16 69 ?_
   refine done_ (done_of HT_.out (by kernel_rfl)) ?_
   refine NoPanic.normal ?_
   clear hHeld HT_ HW_
   have z0 : wcb4.cell? ⟨w.heap.size + 1, 0, none⟩ = some (.slice none 0 0) := (blk_cell HM7.out.x2 0).trans rfl
   have y0 := blk_frozen HM7.out.x2 0
   have z1 : wcb4.cell? ⟨w.heap.size + 1, 1, none⟩ = some (.int .i64 0) := (blk_cell HM7.out.x2 1).trans rfl
   have y1 := blk_frozen HM7.out.x2 1
   have z2 : wcb4.cell? ⟨w.heap.size + 1, 2, none⟩ = some (.slice none 0 0) := (blk_cell HM7.out.x2 2).trans rfl
   have y2 := blk_frozen HM7.out.x2 2
   have z3 : wcb4.cell? ⟨w.heap.size + 1, 3, none⟩ = some (.slice none 0 0) := (blk_cell HM7.out.x2 3).trans rfl
   have y3 := blk_frozen HM7.out.x2 3
   have z4 : wcb4.cell? ⟨w.heap.size + 1, 4, none⟩ = some (.int .i64 0) := (blk_cell HM7.out.x2 4).trans rfl
   have y4 := blk_frozen HM7.out.x2 4
   have z5 : wcb4.cell? ⟨w.heap.size + 1, 5, none⟩ = some (.int .i64 0) := (blk_cell HM7.out.x2 5).trans rfl
   have y5 := blk_frozen HM7.out.x2 5
   go_wp2
   exact mount_bad HE.out HM7.out.x2 HM7.out.low rfl rfl
  rw [if_pos hqs] at hh2
  have hqb : (q != sum) = false := by simp [hqs]
  have hqb2 : (q == sum) = true := by simp [hqs]
  by_cases hrn : refs.length = n
  case neg =>
   rw [if_neg hrn] at hh2
   have hrb : ((refs.length : Int) != (n : Int)) = true := by simp; omega
   have HE := Zk (Option.some.inj hh2)
   clear hh2 hqs hrn
   go_wp2
   rw [HW7.out]
   clear HW7
   replace Q2 : Aside0 (w7.drew.cell? ⟨b4, 2, none⟩ = some (.int .i64 sum)) := ⟨Q2.out⟩
   replace Q8 : Aside0 (w7.drew.cell? ⟨b8, 0, none⟩ = some (.slice (some ⟨g, 0, none⟩) refs.length refs.length)) := ⟨Q8.out⟩
   replace HM7 := Zk (HM7.out.below (below_drew (Below.refl _ _)))
   replace H8 := Zk (blk_drew H8.out)
   replace HG := Zk (blk_drew HG.out)
   replace HV := Zk (Kd.R_drew HV.out)
   replace HT := Zk (Kd.R_drew HT.out)
   replace HCB := Zk (Kd.C_drew HCB.out)
   refine wp_region_noPanic ?_
   refine start_ (n := 17) (S := fun w' => w'.cell? ⟨b4, 2, none⟩ = some (.int .i64 sum) ∧ w'.cell? ⟨b8, 0, none⟩ = some (.slice (some ⟨g, 0, none⟩) refs.length refs.length)) (ds := []) #[false, false, false, false, false, false, false, false, false, false, false, false, false, false, false, false, false] (by kernel_rfl) rfl rfl ⟨Q2.out, Q8.out⟩ (fun hHeld => ?_)
   refine with_tabW hMt.tab9 hMt.bits9 (fun HT_ HW_ => ?_)
   generalize w7.drew = wdc9 at Q2 Q8 HM7 H8 HG HV HT HCB hHeld ⊢
   refine pu_ 0 53 ?_
   refine pu_ 1 54 ?_
   refine pu_ 2 55 ?_
   refine pu_ 3 56 ?_
   refine pu_ 5 58 ?_
   refine tk_ 6 59 ?_
   refine one_ (i := 4) (N := some 57) #[true, true, true, true, true, true, true, false, false, false, false, false, false, false, false, false, false] rfl rfl (one_of HT_.out (by kernel_rfl)) (by decide) (fun K hK => ?_)
   refine goes_ Tryz.func20 (by kernel_rfl) rfl #[.slice Ab b.length cb] (by rfl) rfl rfl (by (try simp only [List.map_toArray, List.map_cons, List.map_nil]); first | done | rfl | (simp only [List.length_drop, List.length_take]; rfl)) ?_
   with_reducible refine (HSM.out _ HCB.out).mono ?_
   rintro e wcc4 ⟨rfl, hb⟩
   refine ⟨_, rfl, ?_⟩
   replace Q2 : Aside0 (wcc4.cell? ⟨b4, 2, none⟩ = some (.int .i64 sum)) := ⟨(hb.cell (World.block_lt_of_cell? wdc9 _ Q2.out)).trans Q2.out⟩
   replace Q8 : Aside0 (wcc4.cell? ⟨b8, 0, none⟩ = some (.slice (some ⟨g, 0, none⟩) refs.length refs.length)) := ⟨(hb.cell (World.block_lt_of_cell? wdc9 _ Q8.out)).trans Q8.out⟩
   replace HM7 := Zk (HM7.out.below hb)
   replace H8 := Zk (blk_below H8.out hb)
   replace HG := Zk (blk_below HG.out hb)
   replace HV := Zk (Kd.R_below HV.out hb)
   replace HT := Zk (Kd.R_below HT.out hb)
   replace HCB := Zk (Kd.C_below HCB.out hb)
   clear hb hHeld
   refine hK.out _ _ ⟨Q2.out, Q8.out⟩ (fun hHeld => ?_)
   clear hK K
   refine norm_ (a' := ?_) ?_ ?_
   rotate_left
   ·show Act.put _ (some 57) _ = _
    simp only [Act.put, List.setIfInBounds_toArray, List.set_cons_zero, List.set_cons_succ, i64_w, i32_w]
    rfl
   refine pu_ 7 60 ?_
   refine pu_ 8 61 ?_
   refine pu_ 9 62 ?_
   refine pu_ 10 63 ?_
   refine pu_ 11 64 ?_
   refine tk_ 12 65 ?_
   refine pu_ 13 66 ?_
   refine pu_ 14 67 ?_
   refine pu_ 15 68 ?_
   refine pu_ 16 69 ?_
   refine done_ (done_of HT_.out (by kernel_rfl)) ?_
   refine NoPanic.normal ?_
   clear hHeld HT_ HW_
   have z0 : wcc4.cell? ⟨w.heap.size + 1, 0, none⟩ = some (.slice none 0 0) := (blk_cell HM7.out.x2 0).trans rfl
   have y0 := blk_frozen HM7.out.x2 0
   have z1 : wcc4.cell? ⟨w.heap.size + 1, 1, none⟩ = some (.int .i64 0) := (blk_cell HM7.out.x2 1).trans rfl
   have y1 := blk_frozen HM7.out.x2 1
   have z2 : wcc4.cell? ⟨w.heap.size + 1, 2, none⟩ = some (.slice none 0 0) := (blk_cell HM7.out.x2 2).trans rfl
   have y2 := blk_frozen HM7.out.x2 2
   have z3 : wcc4.cell? ⟨w.heap.size + 1, 3, none⟩ = some (.slice none 0 0) := (blk_cell HM7.out.x2 3).trans rfl
   have y3 := blk_frozen HM7.out.x2 3
   have z4 : wcc4.cell? ⟨w.heap.size + 1, 4, none⟩ = some (.int .i64 0) := (blk_cell HM7.out.x2 4).trans rfl
   have y4 := blk_frozen HM7.out.x2 4
   have z5 : wcc4.cell? ⟨w.heap.size + 1, 5, none⟩ = some (.int .i64 0) := (blk_cell HM7.out.x2 5).trans rfl
   have y5 := blk_frozen HM7.out.x2 5
   go_wp2
   exact mount_bad HE.out HM7.out.x2 HM7.out.low rfl rfl
  rw [if_pos hrn] at hh2
  have hrb : ((refs.length : Int) != (n : Int)) = false := by simp [hrn]
  have HH4 := Zk hh2
  have HRN := Zk hrn
  clear hh2 hqs hrn
  go_wp2
  rw [HW7.out]
  clear HW7
  replace Q2 : Aside0 (w7.drew.cell? ⟨b4, 2, none⟩ = some (.int .i64 sum)) := ⟨Q2.out⟩
  replace Q8 : Aside0 (w7.drew.cell? ⟨b8, 0, none⟩ = some (.slice (some ⟨g, 0, none⟩) refs.length refs.length)) := ⟨Q8.out⟩
  replace HM7 := Zk (HM7.out.below (below_drew (Below.refl _ _)))
  replace H8 := Zk (blk_drew H8.out)
  replace HG := Zk (blk_drew HG.out)
  replace HV := Zk (Kd.R_drew HV.out)
  replace HT := Zk (Kd.R_drew HT.out)
  replace HCB := Zk (Kd.C_drew HCB.out)
  refine wp_region_noPanic ?_
  refine start_ (n := 17) (S := fun w' => w'.cell? ⟨b4, 2, none⟩ = some (.int .i64 sum) ∧ w'.cell? ⟨b8, 0, none⟩ = some (.slice (some ⟨g, 0, none⟩) refs.length refs.length)) (ds := []) #[false, false, false, false, false, false, false, false, false, false, false, false, false, false, false, false, false] (by kernel_rfl) rfl rfl ⟨Q2.out, Q8.out⟩ (fun hHeld => ?_)
  refine with_tabW hMt.tab9 hMt.bits9 (fun HT_ HW_ => ?_)
  generalize w7.drew = wdc9 at Q2 Q8 HM7 H8 HG HV HT HCB hHeld ⊢
  refine pu_ 0 53 ?_
  refine pu_ 1 54 ?_
  refine pu_ 2 55 ?_
  refine pu_ 3 56 ?_
  refine pu_ 5 58 ?_
  refine tk_ 6 59 ?_
  refine one_ (i := 4) (N := some 57) #[true, true, true, true, true, true, true, false, false, false, false, false, false, false, false, false, false] rfl rfl (one_of HT_.out (by kernel_rfl)) (by decide) (fun K hK => ?_)
  refine goes_ Tryz.func20 (by kernel_rfl) rfl #[.slice Ab b.length cb] (by rfl) rfl rfl (by (try simp only [List.map_toArray, List.map_cons, List.map_nil]); first | done | rfl | (simp only [List.length_drop, List.length_take]; rfl)) ?_
  with_reducible refine (HSM.out _ HCB.out).mono ?_
  rintro e wcc4 ⟨rfl, hb⟩
  refine ⟨_, rfl, ?_⟩
  replace Q2 : Aside0 (wcc4.cell? ⟨b4, 2, none⟩ = some (.int .i64 sum)) := ⟨(hb.cell (World.block_lt_of_cell? wdc9 _ Q2.out)).trans Q2.out⟩
  replace Q8 : Aside0 (wcc4.cell? ⟨b8, 0, none⟩ = some (.slice (some ⟨g, 0, none⟩) refs.length refs.length)) := ⟨(hb.cell (World.block_lt_of_cell? wdc9 _ Q8.out)).trans Q8.out⟩
  replace HM7 := Zk (HM7.out.below hb)
  replace H8 := Zk (blk_below H8.out hb)
  replace HG := Zk (blk_below HG.out hb)
  replace HV := Zk (Kd.R_below HV.out hb)
  replace HT := Zk (Kd.R_below HT.out hb)
  replace HCB := Zk (Kd.C_below HCB.out hb)
  clear hb hHeld
  refine hK.out _ _ ⟨Q2.out, Q8.out⟩ (fun hHeld => ?_)
  clear hK K
  refine norm_ (a' := ?_) ?_ ?_
  rotate_left
  ·show Act.put _ (some 57) _ = _
   simp only [Act.put, List.setIfInBounds_toArray, List.set_cons_zero, List.set_cons_succ, i64_w, i32_w]
   rfl
  refine pu_ 7 60 ?_
  refine pu_ 8 61 ?_
  refine pu_ 9 62 ?_
  refine pu_ 10 63 ?_
  refine pu_ 11 64 ?_
  refine tk_ 12 65 ?_
  refine pu_ 13 66 ?_
  refine pu_ 14 67 ?_
  refine pu_ 15 68 ?_
  refine pu_ 16 69 ?_
  refine done_ (done_of HT_.out (by kernel_rfl)) ?_
  refine NoPanic.normal ?_
  clear hHeld HT_ HW_
  have d0 : wcc4.cell? ⟨w.heap.size, 0, none⟩ = some (.slice A0 l0.length c0) := (blk_cell HM7.out.x1 0).trans rfl
  have d1 : wcc4.cell? ⟨w.heap.size, 1, none⟩ = some (.slice A1 l1.length c1) := (blk_cell HM7.out.x1 1).trans rfl
  have e0 : wcc4.cell? ⟨b8, 0, none⟩ = some (.slice (some ⟨g, 0, none⟩) refs.length refs.length) := (blk_cell H8.out 0).trans rfl
  have e1 : wcc4.cell? ⟨b8, 1, none⟩ = some (.int .i64 keep) := (blk_cell H8.out 1).trans rfl
  have hh4 := HH4.out
  by_cases hal : (idxs refs n).all (fun i => (node_Parse.f 100000 (readB l0 l1 ((baseN n : Nat) + (i : Nat))).1).isSome) = true
  case neg => rw [if_neg hal] at hh4; cases hh4
  rw [if_pos hal] at hh4
  obtain ⟨rr, hrr, hh5⟩ := Option.bind_eq_some_iff.1 hh4
  have HAL := Zk hal
  have HRR := Zk hrr
  have HH5 := Zk hh5
  clear hh4 HH4 hal hrr hh5
  go_wp2_with fail
  refine (nodes_walk A0 A1 l0.length c0 l1.length c1 refs.length keep g wcc4).mono ?_
  rintro e wL ⟨rfl, hgh, hgd, hbL⟩
  obtain ⟨gd, hgde⟩ : ∃ x, wcc4.heap.size = x := ⟨_, rfl⟩
  rw [hgde] at hgh hgd
  have HML := Zk (HM7.out.below hbL)
  have H8L := Zk ((hbL.block _ (blk_lt H8.out)).trans H8.out)
  have HGL := Zk ((hbL.block _ (blk_lt HG.out)).trans HG.out)
  have HVL := Zk (Kd.R_below HV.out hbL)
  have HTL := Zk (Kd.R_below HT.out hbL)
  have G9 := Zk (show b8 < gd by rw [← hgde]; exact blk_lt H8.out)
  have HGH := Zk hgh
  have HGD := Zk hgd
  clear hgh hgd hbL d0 d1 e0 e1 HM7 H8 HG HV HT HCB
  go_wp2
  have gw := HML.out.low.size
  have lb4 := blk_lt HML.out.x4
  have lb8 := blk_lt H8L.out
  have lgh := blk_lt HGH.out
  have g4 := G4.out
  have g7 := G7.out
  have g8 := G8.out
  have g9 := G9.out
  have hrl2 : refs.length ≤ 2000 := by have := HRN.out; omega
  have HS0 := Zk (S_of_cells (base := w.heap.size) HGL.out (by omega) hrl2)
  have HI0 : Aside0 (Is w wL A0 A1 l0.length c0 l1.length c1 b4 gen len sum (wL.heap.size + 1) b8 g refs keep Av cv vs At ct ts next (cellsP refs (nodeN l0 l1 refs.length) [])) := ⟨⟨HML.out, H8L.out, by rw [cellsP_nil]; exact Kd.S_mono (Kd.S_bound HS0.out) (fun k hk => by have := hk.2.2.1; omega), Kd.R_mono (Kd.R_bound HVL.out) (fun k hk => by have := hk.2.2.1; omega), Kd.R_mono (Kd.R_bound HTL.out) (fun k hk => by have := hk.2.2.1; omega)⟩⟩
  have HCA : Aside0 (CellsAt wL g refs) := ⟨by
   have := cells_of_S HI0.out.s
   rwa [cellsP_f0] at this⟩
  refine (wpIn_wide (n := 3)).1 ?_
  refine wpIn_told (α := AtN) (gf := 57) (lb := #[.pointer (some ⟨gd + 1, 0, none⟩), .pointer (some ⟨gd, 0, none⟩)]) rfl (enters_of Tryz.func57 (by kernel_rfl) rfl)
   (nodes1_in w.heap.size (gd + 1) gd g w wL A0 A1 l0 c0 l1 c1 refs.length keep 100000 refs (nodeN l0 l1 refs.length) (nodeE l0 l1 refs.length) 2 rfl hrl2 HL1.out (HR0.out w (Below.refl _ w)) (HR1.out w (Below.refl _ w)) hc0 hc1 rfl gw (node_at HRN.out HAL.out) ⟨HML.out.low, HGH.out, HGD.out, HCA.out⟩) (fun _ => rfl)
   (fun (pre : List AtN) W => Is w W A0 A1 l0.length c0 l1.length c1 b4 gen len sum (wL.heap.size + 1) b8 g refs keep Av cv vs At ct ts next (cellsP refs (nodeN l0 l1 refs.length) (pre.map (·.1))))
   (fun s X Y h hg => Is.grown h (by omega) (by omega) (by omega) hg) HI0.out ?hround ?hdone
  case hround =>
   rintro pre ⟨i, v⟩ X Y hi hb ⟨hin, -, hv⟩ hs
   replace hv : Kd.R k84 84 Y X.heap.size (fun _ => True) v (nodeN l0 l1 refs.length i).2 := hv
   replace hin : i < refs.length := hin
   replace hi : Is w X A0 A1 l0.length c0 l1.length c1 b4 gen len sum (wL.heap.size + 1) b8 g refs keep Av cv vs At ct ts next (cellsP refs (nodeN l0 l1 refs.length) (pre.map (·.1))) := hi
   obtain ⟨nb, hnb⟩ : ∃ x, (nodeN l0 l1 refs.length i).1 = x := ⟨_, rfl⟩
   obtain ⟨nl, hnl⟩ : ∃ x, (nodeN l0 l1 refs.length i).2 = x := ⟨_, rfl⟩
   rw [hnl] at hv
   obtain ⟨Ax, cx, rfl, -, -⟩ := Kd.R_reads hv
   have HNB := Zk hnb
   have HNL := Zk hnl
   have HXS := Zk (Kd.S_below (Kd.S_mono (Kd.S_bound hi.s) (ok' := fun k => k ≠ wL.heap.size + 1 ∧ k < X.heap.size) (fun k hk => ⟨hk.1, hk.2.2.1⟩)) hb)
   have HIY := Zk (Is.grown hi (by omega) (by omega) (by omega) (grown_of_below' hb _))
   have HV0 := Zk hv
   have hxy := hb.size
   have hyx := hi.m.low.size
   clear hi hb hv hnb hnl
   dsimp only [encN]
   rw [HNB.out]
   gi_wp2
   have hbY1 := (Below.refl Y.heap.size Y).alloc (Nat.le_refl _) (.cells #[.bool nb, .slice Ax nl.length cx] 63)
   refine ⟨hbY1, fun Y2 hg2 => ?_⟩
   have HG2 := Zk hg2
   have HBY1 := Zk hbY1
   have HI2 := Zk (Is.grown (Is.grown HIY.out (by omega) (by omega) (by omega) (grown_of_below' hbY1 _)) (by omega) (by omega) (by omega) hg2)
   have HX2 := Zk (Kd.S_grown (Kd.S_alloc HXS.out (.cells #[.bool nb, .slice Ax nl.length cx] 63)) hg2 (fun k hk e => hk.1 (Option.some.inj e)))
   have HV2 := Zk (Kd.R_mono (Kd.R_grown (Kd.R_mono (Kd.R_bound (Kd.R_alloc HV0.out (.cells #[.bool nb, .slice Ax nl.length cx] 63))) (ok' := fun k => k ≠ wL.heap.size + 1) (fun k hk => by have := hk.2.1; omega)) hg2 (fun k hk e => hk (Option.some.inj e))) (ok' := fun _ => True) (fun _ _ => trivial))
   have HBX := Zk (show Y2.heap[Y.heap.size]? = some (.cells #[.bool nb, .slice Ax nl.length cx] 63 (0, 0)) from (hg2.block _ (by simp) (fun e => by injection e with e; omega)).trans (alloc_new Y _))
   have t0 : Y2.cell? ⟨Y.heap.size, 0, none⟩ = some (.bool nb) := (blk_cell HBX.out 0).trans rfl
   have t1 : Y2.cell? ⟨Y.heap.size, 1, none⟩ = some (.slice Ax nl.length cx) := (blk_cell HBX.out 1).trans rfl
   have e0 : Y2.cell? ⟨b8, 0, none⟩ = some (.slice (some ⟨g, 0, none⟩) refs.length refs.length) := (blk_cell HI2.out.h8 0).trans rfl
   have hca := cells_of_S HI2.out.s
   rw [cellsP_f0] at hca
   obtain ⟨b1', b2', A', k', c', -, -, q2, q3⟩ := hca i hin
   obtain ⟨gcs, hgcs⟩ := Kd.S_typed HI2.out.s g rfl
   have fz2 := blk_frozen hgcs (i * 4 + 2)
   have fz3 := blk_frozen hgcs (i * 4 + 3)
   have HGC := Zk hgcs
   have hiz : (0 : Int) ≤ i := by omega
   have hil : (i : Int) < (refs.length : Int) := by omega
   clear hg2 hbY1 hca hgcs HIY HXS HV0
   gi_wp2
   have hsz : i < (cellsP refs (nodeN l0 l1 refs.length) (pre.map (·.1))).length := by rw [cellsP_len]; exact hin
   have hnode := Is.node (b := nb) HI2.out HX2.out HV2.out hsz (by omega) (by omega) g7 g8 g4
   have hgr := (S_node (b := nb) HX2.out HV2.out hsz (by omega) (by omega)).2
   have he : (cellsP refs (nodeN l0 l1 refs.length) (pre.map (·.1))).set i { (cellsP refs (nodeN l0 l1 refs.length) (pre.map (·.1)))[i] with f2 := ⟨nb, nl⟩ } = cellsP refs (nodeN l0 l1 refs.length) (pre.map (·.1) ++ [i]) := by rw [← HNB.out, ← HNL.out]; exact cellsP_step hsz
   rw [he] at hnode
   have hY2 := HG2.out.size
   have hY1 := HBY1.out.size
   have hgY : g < Y2.heap.size := blk_lt HGC.out
   refine ⟨hgr.block _ (by omega) (fun e => by injection e with e; omega), hgr.block _ (by omega) (fun e => by injection e with e; omega), fun Z2 hz2 => ?_⟩
   have hI3 := Is.grown hnode (by omega) (by omega) (by omega) hz2
   have hca2 := cells_of_S hI3.s
   rw [cellsP_f0] at hca2
   have hk : ∀ k, k < Y.heap.size → k ≠ g → k ≠ wL.heap.size + 1 → Z2.heap[k]? = Y.heap[k]? := fun k h1 h2 h3 =>
    (((hz2.block k (Nat.lt_of_lt_of_le (Nat.lt_of_lt_of_le (Nat.lt_of_lt_of_le h1 hY1) hY2) hgr.size) (fun e => h3 (Option.some.inj e))).trans (hgr.block k (Nat.lt_of_lt_of_le (Nat.lt_of_lt_of_le h1 hY1) hY2) (fun e => h2 (Option.some.inj e)))).trans (HG2.out.block k (Nat.lt_of_lt_of_le h1 hY1) (fun e => h3 (Option.some.inj e)))).trans (HBY1.out.block k h1)
   refine ⟨hI3, ?_, hk _ (by omega) (by omega) (by omega), hk _ (by omega) (by omega) (by omega), fun _ => hca2⟩
   have B1 : Below w.heap.size Y (Y.alloc (.cells #[.bool nb, .slice Ax nl.length cx] 63)) := HBY1.out.mono (by omega)
   have B2 := B1.grown HG2.out (by omega) (fun k e => by injection e with e; omega)
   have B3 := B2.grown hgr (by omega) (fun k e => by injection e with e; omega)
   exact B3.grown hz2 (by have := hgr.size; omega) (fun k e => by injection e with e; omega)
  case hdone =>
   rintro xs Z hS hi hD
   replace hi : Is w Z A0 A1 l0.length c0 l1.length c1 b4 gen len sum (wL.heap.size + 1) b8 g refs keep Av cv vs At ct ts next (cellsM l0 l1 refs) := by
    have h1 : Is w Z A0 A1 l0.length c0 l1.length c1 b4 gen len sum (wL.heap.size + 1) b8 g refs keep Av cv vs At ct ts next (cellsP refs (nodeN l0 l1 refs.length) (xs.map (·.1))) := hi
    rw [show xs.map (·.1) = idxs refs refs.length from hS, cellsP_all] at h1
    exact h1
   have HIZ := Zk hi
   have HD := Zk hD
   obtain ⟨D, hDe⟩ : ∃ D, wL.heap.size = D := ⟨_, rfl⟩
   have hDw : w.heap.size + 1 < D := by omega
   rw [hDe] at HD ⊢
   obtain ⟨A6, c6, ev, hc6, hC6⟩ := Kd.S_reads hi.s
   have ev2 := ev
   rw [cellsM_len] at ev2
   cases ev2
   clear ev
   obtain ⟨A7, c7, ev, hc7, hC7⟩ := Kd.R_reads hi.v
   cases ev
   obtain ⟨A8, c8, ev, hc8, hC8⟩ := Kd.R_reads hi.t
   cases ev
   have HMR := Zk (mount_Right.calls _ _ (cellsM l0 l1 refs) keep _ _ vs _ _ ts next gen rr Z hC6 hc6 hC7 hc7 hC8 hc8 HRR.out)
   rw [cellsM_len] at HMR
   have e0 : Z.cell? ⟨b8, 0, none⟩ = some (.slice (some ⟨g, 0, none⟩) refs.length refs.length) := (blk_cell HIZ.out.h8 0).trans rfl
   have e1 : Z.cell? ⟨b8, 1, none⟩ = some (.int .i64 keep) := (blk_cell HIZ.out.h8 1).trans rfl
   have e2 : Z.cell? ⟨b8, 2, none⟩ = some (.slice Av vs.length cv) := (blk_cell HIZ.out.h8 2).trans rfl
   have e3 : Z.cell? ⟨b8, 3, none⟩ = some (.slice At ts.length ct) := (blk_cell HIZ.out.h8 3).trans rfl
   have e4 : Z.cell? ⟨b8, 4, none⟩ = some (.int .i64 next) := (blk_cell HIZ.out.h8 4).trans rfl
   have e5 : Z.cell? ⟨b8, 5, none⟩ = some (.int .i64 gen) := (blk_cell HIZ.out.h8 5).trans rfl
   clear hi hD hS hC6 hC7 hC8 hc6 hc7 hc8
   simp only []
   go_wp2_with fail
   refine HMR.out.mono ?_
   rintro e W' ⟨rfl, hbW⟩
   have HIW := Zk (Is.grown HIZ.out (by omega) (by omega) (by omega) (grown_of_below' hbW _))
   have HDW := Zk ((hbW.block _ (blk_lt HD.out)).trans HD.out)
   have hh5 := HH5.out
   clear e0 e1 e2 e3 e4 e5 hbW HIZ HD HMR
   have z0 : W'.cell? ⟨w.heap.size + 1, 0, none⟩ = some (.slice none 0 0) := (blk_cell HIW.out.m.x2 0).trans rfl
   have y0 := blk_frozen HIW.out.m.x2 0
   have z1 : W'.cell? ⟨w.heap.size + 1, 1, none⟩ = some (.int .i64 0) := (blk_cell HIW.out.m.x2 1).trans rfl
   have y1 := blk_frozen HIW.out.m.x2 1
   have z2 : W'.cell? ⟨w.heap.size + 1, 2, none⟩ = some (.slice none 0 0) := (blk_cell HIW.out.m.x2 2).trans rfl
   have y2 := blk_frozen HIW.out.m.x2 2
   have z3 : W'.cell? ⟨w.heap.size + 1, 3, none⟩ = some (.slice none 0 0) := (blk_cell HIW.out.m.x2 3).trans rfl
   have y3 := blk_frozen HIW.out.m.x2 3
   have z4 : W'.cell? ⟨w.heap.size + 1, 4, none⟩ = some (.int .i64 0) := (blk_cell HIW.out.m.x2 4).trans rfl
   have y4 := blk_frozen HIW.out.m.x2 4
   have z5 : W'.cell? ⟨w.heap.size + 1, 5, none⟩ = some (.int .i64 0) := (blk_cell HIW.out.m.x2 5).trans rfl
   have y5 := blk_frozen HIW.out.m.x2 5
   have e0 : W'.cell? ⟨b8, 0, none⟩ = some (.slice (some ⟨g, 0, none⟩) refs.length refs.length) := (blk_cell HIW.out.h8 0).trans rfl
   have e1 : W'.cell? ⟨b8, 1, none⟩ = some (.int .i64 keep) := (blk_cell HIW.out.h8 1).trans rfl
   have e2 : W'.cell? ⟨b8, 2, none⟩ = some (.slice Av vs.length cv) := (blk_cell HIW.out.h8 2).trans rfl
   have e3 : W'.cell? ⟨b8, 3, none⟩ = some (.slice At ts.length ct) := (blk_cell HIW.out.h8 3).trans rfl
   have e4 : W'.cell? ⟨b8, 4, none⟩ = some (.int .i64 next) := (blk_cell HIW.out.h8 4).trans rfl
   have e5 : W'.cell? ⟨b8, 5, none⟩ = some (.int .i64 gen) := (blk_cell HIW.out.h8 5).trans rfl
   by_cases hrr2 : rr = true
   case pos =>
    subst hrr2
    rw [if_pos rfl] at hh5
    have HE := Zk (Option.some.inj hh5)
    clear hh5 HH5
    go_wp2
    exact mount_good HIW.out HE.out HDW.out hDw rfl rfl
   obtain rfl : rr = false := by simpa using hrr2
   rw [if_neg hrr2] at hh5
   have HE := Zk (Option.some.inj hh5)
   clear hh5 HH5 hrr2
   go_wp2
   exact mount_badM HE.out HIW.out.m.x2 HIW.out.m.low HDW.out hDw rfl rfl
theorem mount_Mount.calls (A0_0 : Option Addr) (c0_0 : Nat) (l0_0 : List ByteArray) (A0_1 : Option Addr) (c0_1 : Nat) (l0_1 : List S98) (r1 : List S65) (r2 : Int) (r3 : List S122) (r4 : List (Nat × Nat)) (r5 r6 r7 : Int) (w : World) (hr0_0 : Kd.C Kd.string w A0_0 l0_0.length l0_0) (hc0_0 : l0_0.length ≤ c0_0) (hr0_1 : Kd.C k98 w A0_1 l0_1.length l0_1) (hc0_1 : l0_1.length ≤ c0_1) (h : mount_Mount.f l0_0 l0_1 = some (r1, r2, r3, r4, r5, r6, r7)) :
  Calls Tryz.prog 6 #[.agg #[.slice A0_0 l0_0.length c0_0, .slice A0_1 l0_1.length c0_1]] w fun e w' => ∃ v0_ v1_ v2_ : Value, e = .returned (.tuple #[.agg #[v0_, .int .i64 r2, v1_, v2_, .int .i64 r5, .int .i64 r6], .int .i64 r7]) ∧ Kd.S k65 65 w' w.heap.size (fun _ => True) v0_ r1 ∧ Kd.R k122 122 w' w.heap.size (fun _ => True) v1_ r3 ∧ Kd.R kc 79 w' w.heap.size (fun _ => True) v2_ r4 ∧ Below w.heap.size w w' :=
 mount_walk A0_0 c0_0 l0_0 A0_1 c0_1 l0_1 (r1, r2, r3, r4, r5, r6, r7) w hr0_0 hc0_0 hr0_1 hc0_1 h
end
end Go.Proofs.YtfmjepmgcdoelaaGreat.P
