import Derived.Test.YtkdoihcjhccliaaK
-- PRINTED by print.py (a twelfth state) out of the translation. Not trusted: Lean checks it.
import Derived.Test.YtkdoihcjhccliaaQ0
import Derived.Test.YtkdoihcjhccliaaQ3
import Derived.Test.YtkdoihcjhccliaaQ5
import Derived.Test.YtkdoihcjhccliaaQ10
import Derived.Test.YtkdoihcjhccliaaQ17
namespace Go.Proofs.Ytkdoihcjhccliaa.Q
open Go.RowKit Go.Proofs.YtkdoihcjhccliaaW.PrintWords Go.Proofs.YtkdoihcjhccliaaW.PrintLast Go.Proofs.YtkdoihcjhccliaaW.PrintMore
attribute [local go_sem] dF dG eG eH cz cB dH dI   -- for this text's walks alone
set_option linter.unusedVariables false
set_option linter.unusedSimpArgs false

/-! ### cu: function 76 -/
mutual
def cu.l0 : Nat → Int → List Bool → Int → List Int → Int → Int → Int → List (S98) → List Int → List Int → Int → Int → Option (Int × Int × Int)
  | 0, _, _, _, _, _, _, _, _, _, _, _, _ => none
  | k + 1, x3, x4, x5, x30, x31, x32, N9, qp, oG, Oa, pJ, pK => if x32 < x31 then (if 0 ≤ x32 then (if x32 < (x30.length : Int) then (if (oG.length : Int) = 0 then (none) else (if 0 ≤ (Int.tmod (wrap64 (x32 + 1)) (oG.length : Int)) then (if (Int.tmod (wrap64 (x32 + 1)) (oG.length : Int)) < (oG.length : Int) then (if (rd x30 x32) ≥ 0 then (if (rd x30 x32) < (qp.length : Int) then (if (rd oG (Int.tmod (wrap64 (x32 + 1)) (oG.length : Int))) ≥ 0 then (if (rd oG (Int.tmod (wrap64 (x32 + 1)) (oG.length : Int))) < (qp.length : Int) then (if 0 ≤ (rd x30 x32) then (if 0 ≤ (rd oG (Int.tmod (wrap64 (x32 + 1)) (oG.length : Int))) then (if ((aa qp (rd x30 x32)).f1) = ((aa qp (rd oG (Int.tmod (wrap64 (x32 + 1)) (oG.length : Int)))).f0) then (if 0 ≤ ((aa qp (rd x30 x32)).f1) then (if ((aa qp (rd x30 x32)).f1) < (x4.length : Int) then (if (fF false x4 ((aa qp (rd x30 x32)).f1) = true) then (some (221, pJ, pK)) else (cu.l0 k x3 (x4.set (((aa qp (rd x30 x32)).f1) : Int).toNat true) (wrap64 (x5 + ((aa qp (rd x30 x32)).f3))) x30 x31 (wrap64 (x32 + 1)) N9 qp oG Oa pJ pK)) else (none)) else (none)) else (some (221, pJ, pK))) else (none)) else (none)) else (some (221, pJ, pK))) else (some (221, pJ, pK))) else (some (221, pJ, pK))) else (some (221, pJ, pK))) else (none)) else (none))) else (none)) else (none)) else ((bv.f k N9 qp Oa x3).bind fun Tf => (if Tf.1 = 0 then (cu.l1 k x3 x5 Tf.2 (Tf.2.length : Int) 0 pJ pK) else (some (Tf.1, pJ, pK))))
def cu.l1 : Nat → Int → Int → List Int → Int → Int → Int → Int → Option (Int × Int × Int)
  | 0, _, _, _, _, _, _, _ => none
  | k + 1, x3, x5, x106, x107, acm, pJ, pK => if acm < x107 then (if 0 ≤ acm then (if acm < (x106.length : Int) then (if (rd x106 acm) ≥ x5 then (cu.l1 k x3 x5 x106 x107 (wrap64 (acm + 1)) pJ pK) else (some (221, pJ, pK))) else (none)) else (none)) else ((dE.f k x5 x3).bind fun acn => (some (0, acn.1, acn.2.1)))
end
def cu.f (k : Nat) (ay : Int) (ae : List (S98)) (dV : List Int) (iB : List Int) (rY : Int) (rZ : Int) : Option (Int × Int × Int) := (dM.f k ay ae).bind fun Tg => (if Tg = 0 then (if (dV.length : Int) > 0 then (if (dV.length : Int) ≤ ay then (if 0 ≤ ay then (if (ay : Int).toNat ≤ 281474976710656 then (cu.l0 k (dV.length : Int) (List.replicate (ay : Int).toNat false) 0 dV (dV.length : Int) 0 ay ae dV iB rY rZ) else (none)) else (none)) else (some (221, rY, rZ))) else (some (221, rY, rZ))) else (some (Tg, rY, rZ)))
def cu.T8 : Bool × List (List Nat × List Nat) := (true, [([], []), ([0], [0]), ([], []), ([2], [2]), ([], []), ([4], [4]), ([5], [5]), ([3, 6], [3, 6]), ([1, 7], [1, 7]), ([8], [8]), ([9, 0, 1, 2, 3, 4, 5, 6, 7, 8, 9], [9])])
def cu.B8 : List Nat := [0, 1, 0, 4, 0, 16, 48, 124, 255, 511, 1023]
theorem cu.tab8 : oO .any (opsOf Try.f76 8) = cu.T8 := by kernel_rfl
theorem cu.WB : gM cu.T8.2 cu.B8 = true := by kernel_rfl
set_option maxHeartbeats 8000000 in
set_option maxRecDepth 100000 in
theorem cu.calls (k : Nat) (ay : Int) (bX : Option Addr) (bN : Nat) (ae : List (S98)) (pz : Option Addr) (oz : Nat) (dV : List Int) (nZ : Option Addr) (og : Nat) (iB : List Int) (rY : Int) (rZ : Int) (r1 : Int) (r2 : Int) (r3 : Int) (w wc0 : World) (pM vk yn gbx gr : Nat) (dB : Kd.C k98 w bX ae.length ae) (dC : ae.length ≤ bN) (qb : Kd.C (Kd.int .i64) w pz dV.length dV) (qc : dV.length ≤ oz) (qd : Kd.C (Kd.int .i64) w nZ iB.length iB) (qf : iB.length ≤ og) (hB : Below w.heap.size w wc0) (hb0_ : wc0.heap[pM]? = some (.cells #[.int .i64 ay, .slice bX ae.length bN] 24 (0, 0))) (hg0_ : w.heap.size ≤ pM) (hb1_ : wc0.heap[vk]? = some (.cells #[.slice pz dV.length oz, .slice nZ iB.length og] 72 (0, 0))) (hg1_ : w.heap.size ≤ vk) (hb2_ : wc0.heap[yn]? = some (.cells #[.int .i64 rY, .int .i64 rZ] 74 (0, 0))) (hg2_ : w.heap.size ≤ yn) (hb3_ : wc0.heap[gbx]? = some (.cells #[.int .i64 0] 30 (0, 0))) (hg3_ : w.heap.size ≤ gbx) (hb4_ : wc0.heap[gr]? = some (.cells #[.int .i64 0, .int .i64 0] 74 (0, 0))) (hg4_ : w.heap.size ≤ gr) (hn0_1_ : pM ≠ vk) (hn0_2_ : pM ≠ yn) (hn0_3_ : pM ≠ gbx) (hn0_4_ : pM ≠ gr) (hn1_2_ : vk ≠ yn) (hn1_3_ : vk ≠ gbx) (hn1_4_ : vk ≠ gr) (hn2_3_ : yn ≠ gbx) (hn2_4_ : yn ≠ gr) (hn3_4_ : gbx ≠ gr) (h : cu.f k ay ae dV iB rY rZ = some (r1, r2, r3)) (hr_ : r1 = 0 := by first | rfl | assumption | omega) :
    Calls Try.prog 76 #[.pointer (some ⟨pM, 0, none⟩), .pointer (some ⟨vk, 0, none⟩), .pointer (some ⟨yn, 0, none⟩)] wc0 fun e w' => oQ r1 (e = .returned (.tuple #[])) (e = gave r1) ∧ w'.heap[yn]? = some (.cells #[.int .i64 r2, .int .i64 r3] 74 (0, 0)) ∧ w'.heap[gbx]? = some (.cells #[.int .i64 0] 30 (0, 0)) ∧ w'.heap[gr]? = some (.cells #[.int .i64 0, .int .i64 0] 74 (0, 0)) ∧ Below w.heap.size w w' := by
 have hu24 := Try.underlying24
 have hu74 := Try.underlying74
 have bU := ak dB
 have eU := ak dC
 clear dB dC
 have tX := ak qb
 have Ey := ak qc
 clear qb qc
 have wH := ak qd
 have Aa := ak qf
 clear qd qf
 have HB := ak hB
 clear hB
 have jf := ak hb0_
 have GW236 := ak hg0_
 have GE236 := ak hg0_
 have kT := ak hb1_
 have GW237 := ak hg1_
 have GE237 := ak hg1_
 have nz := ak hb2_
 have GW238 := ak hg2_
 have GE238 := ak hg2_
 have bC := ak hb3_
 have SS := ak hg3_
 have KD := ak hg3_
 have oZ := ak hb4_
 have GW998 := ak hg4_
 have GE998 := ak hg4_
 have Ba := ak hn0_1_
 have Bb := ak hn0_1_.symm
 have Bc := ak hn0_2_
 have yo := ak hn0_2_.symm
 have Bd := ak hn0_3_
 have Be := ak hn0_3_.symm
 have Bf := ak hn0_4_
 have Bg := ak hn0_4_.symm
 have GL := ak hn1_2_
 have GM := ak hn1_2_.symm
 have GN := ak hn1_3_
 have Ob := ak hn1_3_.symm
 have GQ := ak hn1_4_
 have Oc := ak hn1_4_.symm
 have Od := ak hn2_3_
 have aco := ak hn2_3_.symm
 have Oe := ak hn2_4_
 have acp := ak hn2_4_.symm
 have acr := ak hn3_4_
 have acs := ak hn3_4_.symm
 clear hb0_ hg0_ hb1_ hg1_ hb2_ hg2_ hb3_ hg3_ hb4_ hg4_ hn0_1_ hn0_2_ hn0_3_ hn0_4_ hn1_2_ hn1_3_ hn1_4_ hn2_3_ hn2_4_ hn3_4_
 have H : ((dM.f k ay ae).bind fun Tg => (if Tg = 0 then (if (dV.length : Int) > 0 then (if (dV.length : Int) ≤ ay then (if 0 ≤ ay then (if (ay : Int).toNat ≤ 281474976710656 then (cu.l0 k (dV.length : Int) (List.replicate (ay : Int).toNat false) 0 dV (dV.length : Int) 0 ay ae dV iB rY rZ) else (none)) else (none)) else (some (221, rY, rZ))) else (some (221, rY, rZ))) else (some (Tg, rY, rZ)))) = some (r1, r2, r3) := h
 clear h
 replace H := Option.bind_eq_some_iff.mp H
 obtain ⟨Tg, A40, H⟩ := H
 replace H : (if Tg = 0 then (if (dV.length : Int) > 0 then (if (dV.length : Int) ≤ ay then (if 0 ≤ ay then (if (ay : Int).toNat ≤ 281474976710656 then (cu.l0 k (dV.length : Int) (List.replicate (ay : Int).toNat false) 0 dV (dV.length : Int) 0 ay ae dV iB rY rZ) else (none)) else (none)) else (some (221, rY, rZ))) else (some (221, rY, rZ))) else (some (Tg, rY, rZ))) = some (r1, r2, r3) := H
 by_cases c5 : Tg = 0
 rotate_left
 ·
  rw [if_neg c5] at H
  have A4 := ak A40
  clear A40
  simp only [Option.some.injEq, Prod.mk.injEq] at H
  obtain ⟨rfl, rfl, rfl⟩ := H; exact nb hr_
 subst c5
 have H1 : (if (dV.length : Int) > 0 then (if (dV.length : Int) ≤ ay then (if 0 ≤ ay then (if (ay : Int).toNat ≤ 281474976710656 then (cu.l0 k (dV.length : Int) (List.replicate (ay : Int).toNat false) 0 dV (dV.length : Int) 0 ay ae dV iB rY rZ) else (none)) else (none)) else (some (221, rY, rZ))) else (some (221, rY, rZ))) = some (r1, r2, r3) := by rw [if_pos rfl] at H; exact H
 clear H
 have H := H1
 clear H1
 have A4 := ak A40
 clear A40
 by_cases c6 : (dV.length : Int) > 0
 rotate_left
 ·
  rw [if_neg c6] at H
  have c6b0 := decide_eq_false c6
  have c6b1 : decide (0 < dV.length) = false := decide_eq_false (by omega)
  clear c6
  simp only [Option.some.injEq, Prod.mk.injEq] at H
  obtain ⟨rfl, rfl, rfl⟩ := H; exact nb hr_
 rw [if_pos c6] at H
 have c6b0 := decide_eq_true c6
 have c6b1 : decide (0 < dV.length) = true := decide_eq_true (by omega)
 clear c6
 by_cases c7 : (dV.length : Int) ≤ ay
 rotate_left
 ·
  rw [if_neg c7] at H
  have c7b0 := decide_eq_false c7
  clear c7
  simp only [Option.some.injEq, Prod.mk.injEq] at H
  obtain ⟨rfl, rfl, rfl⟩ := H; exact nb hr_
 rw [if_pos c7] at H
 have c7b0 := decide_eq_true c7
 clear c7
 have A8 := ak (show aQ.f true 221 = some () from rfl)
 by_cases c9 : 0 ≤ ay
 rotate_left
 ·
  rw [if_neg c9] at H
  exact absurd H (by simp)
 rw [if_pos c9] at H
 have c9b0 := eq_true c9
 have c9b1 : decide (0 ≤ ay) = true := decide_eq_true c9
 clear c9
 by_cases c10 : (ay : Int).toNat ≤ 281474976710656
 rotate_left
 ·
  rw [if_neg c10] at H
  exact absurd H (by simp)
 rw [if_pos c10] at H
 have c10b0 := eq_true c10
 have c10b1 : decide ((ay : Int).toNat ≤ 281474976710656) = true := decide_eq_true c10
 clear c10
 obtain ⟨y240, WR⟩ : ∃ y_ : List Bool, y_ = (List.replicate (ay : Int).toNat false) := ⟨_, rfl⟩
 replace H : (cu.l0 k (dV.length : Int) y240 0 dV (dV.length : Int) 0 ay ae dV iB rY rZ) = some (r1, r2, r3) := by first | (rw [WR]; exact H) | exact H
 have acu := ak WR
 clear WR
 have H' := ak H
 clear H
 have hnb11 := Ba.out
 have hnc11 := Bb.out
 have hnb12 := Bc.out
 have hnc12 := yo.out
 have hnb13 := Bd.out
 have hnc13 := Be.out
 have hnb14 := Bf.out
 have hnc14 := Bg.out
 have WS : wc0.cell? ⟨pM, 0, none⟩ = some (.int .i64 ay) := (aH jf.out 0).trans rfl
 have WT : wc0.cell? ⟨pM, 1, none⟩ = some (.slice bX ae.length bN) := (aH jf.out 1).trans rfl
 have WU := bG jf.out 0
 have WV := bG jf.out 1
 go_enter Try.func76, Try.ntmps76
 go_wp2_with (first | ((with_reducible refine au (f := 50) rfl ?_); refine gl 13 Try.func50 #[.agg #[.int .i64 ay, .slice bX ae.length bN]] ?_; (with_reducible refine (dM.ok k ay _ _ ae  _ (Kd.cZ bU.out lb) eU.out A4.out).mono ?_); rintro e w16 ⟨rfl, hb⟩; refine ⟨_, rfl, ?_⟩; replace jf := ak (bo jf hb); replace kT := ak (bo kT hb); replace nz := ak (bo nz hb); replace bC := ak (bI (g := gbx) (o := .cells #[.int .i64 0] 30 (0, 0)) (bx bC.out) hb); replace oZ := ak (bI (g := gr) (o := .cells #[.int .i64 0, .int .i64 0] 74 (0, 0)) (bx oZ.out) hb); replace HB := ak (bl hb); clear hb; have ⟨_, _⟩ := nn GL; have ⟨_, _⟩ := nn GN; have ⟨_, _⟩ := nn GQ; have WW : w16.cell? ⟨vk, 0, none⟩ = some (.slice pz dV.length oz) := (aH kT.out 0).trans rfl; have WX : w16.cell? ⟨vk, 1, none⟩ = some (.slice nZ iB.length og) := (aH kT.out 1).trans rfl; have WY := bG kT.out 0; have WZ := bG kT.out 1; have W9 : w16.cell? ⟨pM, 0, none⟩ = some (.int .i64 ay) := (aH jf.out 0).trans rfl; have Xa : w16.cell? ⟨pM, 1, none⟩ = some (.slice bX ae.length bN) := (aH jf.out 1).trans rfl; have Xb := bG jf.out 0; have Xc := bG jf.out 1) | ((with_reducible refine au (f := 51) rfl ?_); refine gl 25 Try.func51 #[.bool true, .int .i64 221] ?_; (with_reducible refine (aQ.calls true 221  _ A8.out).mono ?_); rintro e w' ⟨rfl, ⟨nd, rfl⟩⟩; refine ⟨_, rfl, ?_⟩) | ((with_reducible refine aC (N := 28) rfl ?_); (try (refine oC (by rfl) ?_; dsimp only)); refine Kd.ni Kd.bool _ 4 rfl (N := 28) rfl 26 _ _ rfl ay rfl rfl Try.underlying26 (.bool false) 1 IC rfl (by decide) (by omega) false (ok := fun _ => True) (okp := fun _ => True) rfl (fun _ hk => hk) trivial (oda) (Nat.le_trans (Nat.mul_le_mul_right _ (oda : ay.toNat ≤ 281474976710656)) (by omega)) (Below.refl _ _) (Nat.le_refl _) ?_; intro v241 w22 ho23 hb hg_ hnew_; clear hg_ hnew_; (first | rw [← acu.out] at ho23 | (simp only [Int.reduceToNat] at ho23; rw [← acu.out] at ho23)); have HO242 := ak (Kd.bY ho23 (ax lb)); replace jf := ak (bo jf hb); replace kT := ak (bo kT hb); replace nz := ak (bo nz hb); replace bC := ak (bI (g := gbx) (o := .cells #[.int .i64 0] 30 (0, 0)) (bx bC.out) hb); replace oZ := ak (bI (g := gr) (o := .cells #[.int .i64 0, .int .i64 0] 74 (0, 0)) (bx oZ.out) hb); replace HB := ak (bl hb); clear hb ho23; have Xd : w22.cell? ⟨vk, 0, none⟩ = some (.slice pz dV.length oz) := (aH kT.out 0).trans rfl; have Xe : w22.cell? ⟨vk, 1, none⟩ = some (.slice nZ iB.length og) := (aH kT.out 1).trans rfl; have Xf := bG kT.out 0; have Xg := bG kT.out 1))
 go_loopg [5, 32] k (fun kq v5 v32 w' => ∃ (kJ : List Bool) (bV : Int) (jK : Int), v5 = .int .i64 bV ∧ v32 = .int .i64 jK ∧ ag (cu.l0 kq (dV.length : Int) kJ bV dV (dV.length : Int) jK ay ae dV iB rY rZ = some (r1, r2, r3)) ∧ ag (kq ≤ k) ∧ ag (Kd.R Kd.bool 4 w' w.heap.size (fun _ => True) v241 kJ) ∧ ag (w'.heap[pM]? = some (.cells #[.int .i64 ay, (.slice bX ae.length bN)] 24 (0, 0))) ∧ ag (w'.heap[vk]? = some (.cells #[(.slice pz dV.length oz), (.slice nZ iB.length og)] 72 (0, 0))) ∧ ag (w'.heap[yn]? = some (.cells #[.int .i64 rY, .int .i64 rZ] 74 (0, 0))) ∧ ag (w'.heap[gbx]? = some (.cells #[.int .i64 0] 30 (0, 0))) ∧ ag (w'.heap[gr]? = some (.cells #[.int .i64 0, .int .i64 0] 74 (0, 0))) ∧ ag (Below w.heap.size w w'))
 case atStart => exact ⟨(y240), (0), (0), sr, sr, H', ⟨Nat.le_refl _⟩, ⟨rx HO242.out⟩, xb jf, xb kT, xb nz, xb bC, xb oZ, ⟨lb⟩⟩
 clear H'
 try clear c1; try clear p2; try clear c5; try clear c6; try clear c6b0; try clear c6b1; try clear c7; try clear c7b0; try clear c9; try clear c9b0; try clear c9b1; try clear c10; try clear c10b0; try clear c10b1; try clear c11; try clear c12; try clear c13; try clear c14; try clear c17; try clear c18; try clear c19; try clear WS; try clear WT; try clear WW; try clear WX; try clear W9; try clear Xa; try clear Xd; try clear Xe; try clear WU; try clear WV; try clear WY; try clear WZ; try clear Xb; try clear Xc; try clear Xf; try clear Xg
 obtain ⟨kJ, bV, jK, rfl, rfl, HA, HK1, jv, jf, kT, nz, bC, oZ, HB⟩ := hrel
 cases gk with
 | zero => exact absurd HA.out (by simp [cu.l0])
 | succ k1 => ?_
 have H := HA.out
 clear HA
 simp only [cu.l0] at H
 by_cases c25 : jK < (dV.length : Int)
 rotate_left
 ·
  rw [if_neg c25] at H
  have c25b0 := decide_eq_false c25
  clear c25
  replace H := Option.bind_eq_some_iff.mp H
  obtain ⟨⟨t250, KM⟩, A880, H⟩ := H
  replace H : (if t250 = 0 then (cu.l1 k1 (dV.length : Int) bV KM (KM.length : Int) 0 rY rZ) else (some (t250, rY, rZ))) = some (r1, r2, r3) := H
  by_cases c89 : t250 = 0
  rotate_left
  ·
   rw [if_neg c89] at H
   have A88 := ak A880
   clear A880
   simp only [Option.some.injEq, Prod.mk.injEq] at H
   obtain ⟨rfl, rfl, rfl⟩ := H; exact nb hr_
  subst c89
  have H1 : (cu.l1 k1 (dV.length : Int) bV KM (KM.length : Int) 0 rY rZ) = some (r1, r2, r3) := by rw [if_pos rfl] at H; exact H
  clear H
  have H := H1
  clear H1
  have A88 := ak A880
  clear A880
  have H' := ak H
  clear H
  have hnb90 := Ba.out
  have hnc90 := Bb.out
  have hnb91 := Bc.out
  have hnc91 := yo.out
  have hnb92 := Bd.out
  have hnc92 := Be.out
  have hnb93 := Bf.out
  have hnc93 := Bg.out
  have Xh : wr.cell? ⟨pM, 0, none⟩ = some (.int .i64 ay) := (aH jf.out 0).trans rfl
  have Xi : wr.cell? ⟨pM, 1, none⟩ = some (.slice bX ae.length bN) := (aH jf.out 1).trans rfl
  have Xj := bG jf.out 0
  have Xk := bG jf.out 1
  have hnb95 := GL.out
  have hnc95 := GM.out
  have hnb96 := GN.out
  have hnc96 := Ob.out
  have hnb97 := GQ.out
  have hnc97 := Oc.out
  have Xl : wr.cell? ⟨vk, 0, none⟩ = some (.slice pz dV.length oz) := (aH kT.out 0).trans rfl
  have Xm : wr.cell? ⟨vk, 1, none⟩ = some (.slice nZ iB.length og) := (aH kT.out 1).trans rfl
  have Xn := bG kT.out 0
  have Xo := bG kT.out 1
  go_wp2_with (first | ((with_reducible refine au (f := 62) rfl ?_); refine gl 106 Try.func62 #[.agg #[.int .i64 ay, .slice bX ae.length bN], .slice nZ iB.length og, .int .i64 (dV.length : Int)] ?_; (with_reducible refine (bv.ok k1 ay _ _ ae _ _ iB (dV.length : Int) KM _ (Kd.cZ bU.out lb) eU.out (Kd.cZ wH.out lb) Aa.out A88.out).mono ?_); rintro e w99 ⟨v252, rfl, ho0, hb⟩; refine ⟨_, rfl, ?_⟩; have acv := ak (Kd.bY ho0 (ax lb)); replace jv := ak (ro jv hb); replace jf := ak (bo jf hb); replace kT := ak (bo kT hb); replace nz := ak (bo nz hb); replace bC := ak (bI (g := gbx) (o := .cells #[.int .i64 0] 30 (0, 0)) (bx bC.out) hb); replace oZ := ak (bI (g := gr) (o := .cells #[.int .i64 0, .int .i64 0] 74 (0, 0)) (bx oZ.out) hb); replace HB := ak (bl hb); clear hb; (try clear ho0); obtain ⟨Ao100, co100, eo100⟩ := Kd.bT acv.out; subst eo100))
  go_loopg [108] k1 (fun kq v108 w' => ∃ (vo : Int), v108 = .int .i64 vo ∧ ag (cu.l1 kq (dV.length : Int) bV KM (KM.length : Int) vo rY rZ = some (r1, r2, r3)) ∧ ag (kq ≤ k1) ∧ ag (Kd.R (Kd.int .i64) 2 w' w.heap.size (fun _ => True) (.slice Ao100 KM.length co100) KM) ∧ ag (w'.heap[pM]? = some (.cells #[.int .i64 ay, (.slice bX ae.length bN)] 24 (0, 0))) ∧ ag (w'.heap[vk]? = some (.cells #[(.slice pz dV.length oz), (.slice nZ iB.length og)] 72 (0, 0))) ∧ ag (w'.heap[yn]? = some (.cells #[.int .i64 rY, .int .i64 rZ] 74 (0, 0))) ∧ ag (w'.heap[gbx]? = some (.cells #[.int .i64 0] 30 (0, 0))) ∧ ag (w'.heap[gr]? = some (.cells #[.int .i64 0, .int .i64 0] 74 (0, 0))) ∧ ag (Below w.heap.size w w'))
  case atStart => exact ⟨(0), sr, H', ⟨Nat.le_refl _⟩, ⟨rx acv.out⟩, xb jf, xb kT, xb nz, xb bC, xb oZ, ⟨lb⟩⟩
  clear H'
  try clear c1; try clear c2; try clear p2; try clear q2; try clear hx2; try clear c3; try clear c5; try clear c6; try clear c7; try clear c8; try clear c9; try clear p24; try clear q24; try clear hx24; try clear c25; try clear c25b0; try clear c26; try clear c27; try clear c30; try clear c31; try clear c32; try clear c32b0; try clear c33; try clear c33b0; try clear c34; try clear c34b0; try clear c51; try clear c62; try clear c70; try clear c71; try clear c72; try clear c73; try clear c76; try clear c77; try clear c78; try clear c79; try clear c82; try clear c83; try clear c84; try clear c85; try clear c89; try clear c90; try clear c91; try clear c92; try clear c93; try clear c95; try clear c96; try clear c97; try clear hcz74_0; try clear hcz74_1; try clear hcz80_0; try clear hcz80_1; try clear hcz86_0; try clear hcz86_1; try clear Xh; try clear Xi; try clear Xl; try clear Xm; try clear hfz74_0; try clear hfz74_1; try clear hfz80_0; try clear hfz80_1; try clear hfz86_0; try clear hfz86_1; try clear Xj; try clear Xk; try clear Xn; try clear Xo; try clear I6; try clear Bh; try clear p243; try clear p244; try clear q243; try clear q244
  obtain ⟨vo, rfl, HA, HK2, J5, jf, kT, nz, bC, oZ, HB⟩ := hrel
  cases gk with
  | zero => exact absurd HA.out (by simp [cu.l1])
  | succ k2 => ?_
  have H := HA.out
  clear HA
  simp only [cu.l1] at H
  by_cases aai : vo < (KM.length : Int)
  rotate_left
  ·
   rw [if_neg aai] at H
   have acw := decide_eq_false aai
   clear aai
   replace H := Option.bind_eq_some_iff.mp H
   obtain ⟨⟨t255, t256, t257⟩, acx, H⟩ := H
   replace H : (some (0, t255, t256)) = some (r1, r2, r3) := H
   have A106 := ak acx
   clear acx
   simp only [Option.some.injEq, Prod.mk.injEq] at H
   obtain ⟨rfl, rfl, rfl⟩ := H
   go_wp2_with (first | ((with_reducible refine au (f := 77) rfl ?_); refine gl 120 Try.func77 #[.int .i64 bV, .int .i64 (dV.length : Int)] ?_; (with_reducible refine (dE.calls k2 bV (dV.length : Int) t255 t256 t257 _ A106.out).mono ?_); rintro e Xp ⟨rfl, hb⟩; refine ⟨_, rfl, ?_⟩; replace J5 := ak (ro J5 hb); replace jf := ak (bo jf hb); replace kT := ak (bo kT hb); replace nz := ak (bo nz hb); replace bC := ak (bI (g := gbx) (o := .cells #[.int .i64 0] 30 (0, 0)) (bx bC.out) hb); replace oZ := ak (bI (g := gr) (o := .cells #[.int .i64 0, .int .i64 0] 74 (0, 0)) (bx oZ.out) hb); replace HB := ak (bl hb); clear hb; have ⟨_, _⟩ := nn yo; have ⟨_, _⟩ := nn GM; have ⟨_, _⟩ := nn Od; have ⟨_, _⟩ := nn Oe; have hcz112_0 : Xp.cell? ⟨yn, 0, none⟩ = some (.int .i64 rY) := (aH nz.out 0).trans rfl; have hcz112_1 : Xp.cell? ⟨yn, 1, none⟩ = some (.int .i64 rZ) := (aH nz.out 1).trans rfl; have hfz112_0 := bG nz.out 0; have hfz112_1 := bG nz.out 1))
   first | go_end0 | ((try simp only [Exit.inBlock, Exit.then]); refine bodyPost_ret (results_none rfl _ _ _) rfl ?_)
   exact ⟨oQ.ok (by first | rfl | (simp <;> rfl)), bz, bz, bz, lb⟩
  rw [if_pos aai] at H
  have acw := decide_eq_true aai
  clear aai
  by_cases c102 : 0 ≤ vo
  rotate_left
  ·
   rw [if_neg c102] at H
   exact absurd H (by simp)
  rw [if_pos c102] at H
  have c102b0 := decide_eq_true c102
  clear c102
  by_cases VJ : vo < (KM.length : Int)
  rotate_left
  ·
   rw [if_neg VJ] at H
   exact absurd H (by simp)
  rw [if_pos VJ] at H
  have c103b0 := decide_eq_true VJ
  clear VJ
  by_cases aaj : (rd KM vo) ≥ bV
  rotate_left
  ·
   rw [if_neg aaj] at H
   have acy := decide_eq_false aaj
   clear aaj
   simp only [Option.some.injEq, Prod.mk.injEq] at H
   obtain ⟨rfl, rfl, rfl⟩ := H; exact nb hr_
  rw [if_pos aaj] at H
  have acy := decide_eq_true aaj
  clear aaj
  have A105 := ak (show aQ.f true 221 = some () from rfl)
  have H' := ak H
  clear H
  have p254 : 0 ≤ (vo : Int) := oda
  have q254 : vo < (KM.length : Int) := oda
  obtain ⟨ad254, e254, hx254_0⟩ := Kd.bB (Kd.aA J5.out).2.2 vo p254 q254
  cases e254
  replace p254 := eq_true p254
  replace q254 := eq_true q254
  go_wp2_with (first | ((with_reducible refine au (f := 51) rfl ?_); refine gl 115 Try.func51 #[.bool true, .int .i64 221] ?_; (with_reducible refine (aQ.calls true 221  _ A105.out).mono ?_); rintro e w' ⟨rfl, ⟨nd, rfl⟩⟩; refine ⟨_, rfl, ?_⟩))
  go_roundg k2
  case measure => have := HK1.out; have := HK2.out; omega
  case rel => exact ⟨(wrap64 (vo + 1)), sr, H', ⟨by have := HK1.out; have := HK2.out; omega⟩, ⟨rx J5.out⟩, xb jf, xb kT, xb nz, xb bC, xb oZ, ⟨lb⟩⟩
 rw [if_pos c25] at H
 have c25b0 := decide_eq_true c25
 clear c25
 by_cases c26 : 0 ≤ jK
 rotate_left
 ·
  rw [if_neg c26] at H
  exact absurd H (by simp)
 rw [if_pos c26] at H
 have c26b0 := decide_eq_true c26
 clear c26
 by_cases c27 : jK < (dV.length : Int)
 rotate_left
 ·
  rw [if_neg c27] at H
  exact absurd H (by simp)
 rw [if_pos c27] at H
 have c27b0 := decide_eq_true c27
 clear c27
 by_cases c28 : (dV.length : Int) = 0
 ·
  rw [if_pos c28] at H
  exact absurd H (by simp)
 rw [if_neg c28] at H
 have c28b0 := bn c28
 have c28b1 : ((dV.length : Int) != 0) = true := bne_iff_ne.mpr c28
 have c28b2 : ¬ (dV = []) := fun h_ => c28 (by rw [h_]; rfl)
 obtain ⟨ji29, hji29⟩ : ∃ j_ : Int, (Int.tmod (wrap64 (jK + 1)) (dV.length : Int)) = j_ := ⟨_, rfl⟩
 replace H : (if 0 ≤ (ji29) then (if (ji29) < (dV.length : Int) then (if (rd dV jK) ≥ 0 then (if (rd dV jK) < (ae.length : Int) then (if (rd dV (ji29)) ≥ 0 then (if (rd dV (ji29)) < (ae.length : Int) then (if 0 ≤ (rd dV jK) then (if 0 ≤ (rd dV (ji29)) then (if ((aa ae (rd dV jK)).f1) = ((aa ae (rd dV (ji29))).f0) then (if 0 ≤ ((aa ae (rd dV jK)).f1) then (if ((aa ae (rd dV jK)).f1) < (kJ.length : Int) then (if (fF false kJ ((aa ae (rd dV jK)).f1) = true) then (some (221, rY, rZ)) else (cu.l0 k1 (dV.length : Int) (kJ.set (((aa ae (rd dV jK)).f1) : Int).toNat true) (wrap64 (bV + ((aa ae (rd dV jK)).f3))) dV (dV.length : Int) (wrap64 (jK + 1)) ay ae dV iB rY rZ)) else (none)) else (none)) else (some (221, rY, rZ))) else (none)) else (none)) else (some (221, rY, rZ))) else (some (221, rY, rZ))) else (some (221, rY, rZ))) else (some (221, rY, rZ))) else (none)) else (none)) = some (r1, r2, r3) := by first | (rw [hji29] at H; exact H) | (simp only [hji29] at H ⊢; exact H)
 by_cases c30 : 0 ≤ (ji29)
 rotate_left
 ·
  rw [if_neg c30] at H
  exact absurd H (by simp)
 rw [if_pos c30] at H
 have c30b0 := decide_eq_true c30
 clear c30
 by_cases c31 : (ji29) < (dV.length : Int)
 rotate_left
 ·
  rw [if_neg c31] at H
  exact absurd H (by simp)
 rw [if_pos c31] at H
 have c31b0 := decide_eq_true c31
 clear c31
 by_cases c32 : (rd dV jK) ≥ 0
 rotate_left
 ·
  rw [if_neg c32] at H
  have c32b0 := decide_eq_false c32
  clear c32
  simp only [Option.some.injEq, Prod.mk.injEq] at H
  obtain ⟨rfl, rfl, rfl⟩ := H; exact nb hr_
 rw [if_pos c32] at H
 have c32b0 := decide_eq_true c32
 clear c32
 by_cases c33 : (rd dV jK) < (ae.length : Int)
 rotate_left
 ·
  rw [if_neg c33] at H
  have c33b0 := decide_eq_false c33
  clear c33
  simp only [Option.some.injEq, Prod.mk.injEq] at H
  obtain ⟨rfl, rfl, rfl⟩ := H; exact nb hr_
 rw [if_pos c33] at H
 have c33b0 := decide_eq_true c33
 clear c33
 by_cases c34 : (rd dV (ji29)) ≥ 0
 rotate_left
 ·
  rw [if_neg c34] at H
  have c34b0 := decide_eq_false c34
  clear c34
  simp only [Option.some.injEq, Prod.mk.injEq] at H
  obtain ⟨rfl, rfl, rfl⟩ := H; exact nb hr_
 rw [if_pos c34] at H
 have c34b0 := decide_eq_true c34
 clear c34
 by_cases c35 : (rd dV (ji29)) < (ae.length : Int)
 rotate_left
 ·
  rw [if_neg c35] at H
  have c35b0 := decide_eq_false c35
  clear c35
  simp only [Option.some.injEq, Prod.mk.injEq] at H
  obtain ⟨rfl, rfl, rfl⟩ := H; exact nb hr_
 rw [if_pos c35] at H
 have c35b0 := decide_eq_true c35
 clear c35
 have A36 := ak (show aQ.f true 221 = some () from rfl)
 by_cases c37 : 0 ≤ (rd dV jK)
 rotate_left
 ·
  rw [if_neg c37] at H
  exact absurd H (by simp)
 rw [if_pos c37] at H
 have c37b0 := decide_eq_true c37
 clear c37
 by_cases c38 : 0 ≤ (rd dV (ji29))
 rotate_left
 ·
  rw [if_neg c38] at H
  exact absurd H (by simp)
 rw [if_pos c38] at H
 have c38b0 := decide_eq_true c38
 clear c38
 by_cases c39 : ((aa ae (rd dV jK)).f1) = ((aa ae (rd dV (ji29))).f0)
 rotate_left
 ·
  rw [if_neg c39] at H
  have c39b0 := bn c39
  have c39b1 : (((aa ae (rd dV jK)).f1) != ((aa ae (rd dV (ji29))).f0)) = true := bne_iff_ne.mpr c39
  simp only [Option.some.injEq, Prod.mk.injEq] at H
  obtain ⟨rfl, rfl, rfl⟩ := H; exact nb hr_
 rw [if_pos c39] at H
 have c39b0 := be c39
 have c39b1 : (((aa ae (rd dV jK)).f1) != ((aa ae (rd dV (ji29))).f0)) = false := bne_eq_false_iff_eq.mpr c39
 clear c39
 by_cases c40 : 0 ≤ ((aa ae (rd dV jK)).f1)
 rotate_left
 ·
  rw [if_neg c40] at H
  exact absurd H (by simp)
 rw [if_pos c40] at H
 have c40b0 := decide_eq_true c40
 clear c40
 by_cases c41 : ((aa ae (rd dV jK)).f1) < (kJ.length : Int)
 rotate_left
 ·
  rw [if_neg c41] at H
  exact absurd H (by simp)
 rw [if_pos c41] at H
 have c41b0 := decide_eq_true c41
 clear c41
 obtain ⟨bq42, hbq42⟩ : ∃ b_ : Bool, b_ = (fF false kJ ((aa ae (rd dV jK)).f1)) := ⟨_, rfl⟩
 replace H : (if (bq42 = true) then (some (221, rY, rZ)) else (cu.l0 k1 (dV.length : Int) (kJ.set (((aa ae (rd dV jK)).f1) : Int).toNat true) (wrap64 (bV + ((aa ae (rd dV jK)).f3))) dV (dV.length : Int) (wrap64 (jK + 1)) ay ae dV iB rY rZ)) = some (r1, r2, r3) := by rw [← hbq42] at H; exact H
 have Nbq42 := ak hbq42
 clear hbq42
 by_cases c43 : (bq42 = true)
 ·
  subst c43
  have H1 : (some (221, rY, rZ)) = some (r1, r2, r3) := by rw [if_pos rfl] at H; exact H
  clear H
  have H := H1
  clear H1
  simp only [Option.some.injEq, Prod.mk.injEq] at H
  obtain ⟨rfl, rfl, rfl⟩ := H; exact nb hr_
 replace c43 := Bool.eq_false_iff.mpr c43
 subst c43
 have H1 : (cu.l0 k1 (dV.length : Int) (kJ.set (((aa ae (rd dV jK)).f1) : Int).toNat true) (wrap64 (bV + ((aa ae (rd dV jK)).f3))) dV (dV.length : Int) (wrap64 (jK + 1)) ay ae dV iB rY rZ) = some (r1, r2, r3) := by rw [if_neg (show ¬ (false = true) by decide)] at H; exact H
 clear H
 have H := H1
 clear H1
 have A51 := ak (show aQ.f true 221 = some () from rfl)
 obtain ⟨y248, Xq⟩ : ∃ y_ : List Bool, y_ = (kJ.set (((aa ae (rd dV jK)).f1) : Int).toNat true) := ⟨_, rfl⟩
 replace H : (cu.l0 k1 (dV.length : Int) y248 (wrap64 (bV + ((aa ae (rd dV jK)).f3))) dV (dV.length : Int) (wrap64 (jK + 1)) ay ae dV iB rY rZ) = some (r1, r2, r3) := by first | (rw [Xq]; exact H) | exact H
 have Ny248 := ak Xq
 clear Xq
 have H' := ak H
 clear H
 have p243 : 0 ≤ (jK : Int) := oda
 have q243 : jK < (dV.length : Int) := oda
 obtain ⟨Xr, e243, I6⟩ := Kd.bB tX.out jK p243 q243
 cases e243
 (try replace I6 := hbc HB I6)
 replace p243 := eq_true p243
 replace q243 := eq_true q243
 try go_wp2
 replace jv := ak (Kd.fH jv.out); replace jf := ak (aK jf.out); replace kT := ak (aK kT.out); replace nz := ak (aK nz.out); replace bC := ak (aK bC.out); replace oZ := ak (aK oZ.out); replace HB := ak (bJ HB.out)
 have p244 : 0 ≤ ((ji29) : Int) := oda
 have q244 : (ji29) < (dV.length : Int) := oda
 obtain ⟨ad244, e244, Bh⟩ := Kd.bB tX.out (ji29) p244 q244
 have Xt := Bh
 obtain rfl : Xr = ad244 := (by injection e244)
 (try replace Bh := hbc HB Bh)
 replace p244 := eq_true p244
 replace q244 := eq_true q244
 refine stC 11 [] (cX (bc0 kT) (cX (bc1 kT) (cY (hbc HB Xt)))) cu.tab8 cu.WB fun hHeld HT_ HW_ => ?_
 generalize wr.drew = w53 at jv jf kT nz bC oZ HB Bh hHeld ⊢
 refine pv HT_ 0 37 ?_; refine pv HT_ 2 39 ?_; refine pv HT_ 3 40 ?_; refine pv HT_ 4 41 ?_; refine tv HT_ HW_ hHeld 1 38 ?_; refine tv HT_ HW_ hHeld 5 42 ?_; refine pv HT_ 6 43 ?_; refine pv HT_ 7 44 ?_; refine pv HT_ 8 45 ?_; refine tv HT_ HW_ hHeld 9 46 ?_; refine pv HT_ 10 8 ?_
 refine kN (fV HT_.out (by kernel_rfl)) ?_
 have hnb54 := Ba.out
 have hnc54 := Bb.out
 have hnb55 := Bc.out
 have hnc55 := yo.out
 have hnb56 := Bd.out
 have hnc56 := Be.out
 have hnb57 := Bf.out
 have hnc57 := Bg.out
 have Og : w53.cell? ⟨pM, 0, none⟩ = some (.int .i64 ay) := (aH jf.out 0).trans rfl
 have Oh : w53.cell? ⟨pM, 1, none⟩ = some (.slice bX ae.length bN) := (aH jf.out 1).trans rfl
 have Oi := bG jf.out 0
 have Oj := bG jf.out 1
 try go_wp2_with (first | ((with_reducible refine au (f := 51) rfl ?_); refine gl 67 Try.func51 #[.bool true, .int .i64 221] ?_; (with_reducible refine (aQ.calls true 221  _ A36.out).mono ?_); rintro e w' ⟨rfl, ⟨nd, rfl⟩⟩; refine ⟨_, rfl, ?_⟩; (try (rw [nu w53]; generalize hq_ : World.drewN w53 _ = w53; have n0_ : ag (Kd.R Kd.bool 4 w53 w.heap.size (fun _ => True) v241 kJ) := ⟨by rw [← hq_]; exact (rx jv.out)⟩; have n1_ : ag (w53.heap[pM]? = some (.cells #[.int .i64 ay, .slice bX ae.length bN] 24 (0, 0))) := ⟨by rw [← hq_]; exact (bx jf.out)⟩; have n2_ : ag (w53.heap[vk]? = some (.cells #[.slice (some Xr) dV.length oz, .slice nZ iB.length og] 72 (0, 0))) := ⟨by rw [← hq_]; exact (bx kT.out)⟩; have n3_ : ag (w53.heap[yn]? = some (.cells #[.int .i64 rY, .int .i64 rZ] 74 (0, 0))) := ⟨by rw [← hq_]; exact (bx nz.out)⟩; have n4_ : ag (w53.heap[gr]? = some (.cells #[.int .i64 0, .int .i64 0] 74 (0, 0))) := ⟨by rw [← hq_]; exact (bx oZ.out)⟩; have n5_ : ag (w53.heap[gbx]? = some (.cells #[.int .i64 0] 30 (0, 0))) := ⟨by rw [← hq_]; exact (bx bC.out)⟩; have n6_ : ag (Below w.heap.size w w53) := ⟨by rw [← hq_]; exact lb⟩; clear jv jf kT nz oZ bC HB hq_; have jv := n0_; have jf := n1_; have kT := n2_; have nz := n3_; have oZ := n4_; have bC := n5_; have HB := n6_; clear n0_ n1_ n2_ n3_ n4_ n5_ n6_)); have Og : w53.cell? ⟨pM, 0, none⟩ = some (.int .i64 ay) := (aH jf.out 0).trans rfl; have Oh : w53.cell? ⟨pM, 1, none⟩ = some (.slice bX ae.length bN) := (aH jf.out 1).trans rfl; have Oi := bG jf.out 0; have Oj := bG jf.out 1; obtain ⟨p245, q245, Ol, e245, Om, Oo, Oq, Ot⟩ := wq (dU bU.out (rd dV jK)); cases e245; replace Om := hbc HB Om; replace Oo := hbc HB Oo; replace Oq := hbc HB Oq; replace Ot := hbc HB Ot; obtain ⟨p246, q246, ad246, e246, Ou, Ov, Ow, Ox⟩ := wq (dU bU.out (rd dV (ji29))); obtain rfl : Ol = ad246 := (by injection e246); replace Ou := hbc HB Ou; replace Ov := hbc HB Ov; replace Ow := hbc HB Ow; replace Ox := hbc HB Ox; obtain ⟨Ao59, co59, eo59⟩ := Kd.bT jv.out; subst eo59; obtain ⟨p247, q247, ad247, e247, Oy⟩ := wq (Kd.gu (Kd.aA jv.out).2.2 ((aa ae (rd dV jK)).f1)); (try rw [← Nbq42.out] at Oy); cases e247) | ((with_reducible refine au (f := 51) rfl ?_); refine gl 89 Try.func51 #[.bool true, .int .i64 221] ?_; (with_reducible refine (aQ.calls true 221  _ A51.out).mono ?_); rintro e w' ⟨rfl, ⟨nd, rfl⟩⟩; refine ⟨_, rfl, ?_⟩; (try (rw [nu w53]; generalize hq_ : World.drewN w53 _ = w53; have n0_ : ag (Kd.R Kd.bool 4 w53 w.heap.size (fun _ => True) (.slice (some ad247) kJ.length co59) kJ) := ⟨by rw [← hq_]; exact (rx jv.out)⟩; have n1_ : ag (w53.heap[pM]? = some (.cells #[.int .i64 ay, .slice (some Ol) ae.length bN] 24 (0, 0))) := ⟨by rw [← hq_]; exact (bx jf.out)⟩; have n2_ : ag (w53.heap[vk]? = some (.cells #[.slice (some Xr) dV.length oz, .slice nZ iB.length og] 72 (0, 0))) := ⟨by rw [← hq_]; exact (bx kT.out)⟩; have n3_ : ag (w53.heap[yn]? = some (.cells #[.int .i64 rY, .int .i64 rZ] 74 (0, 0))) := ⟨by rw [← hq_]; exact (bx nz.out)⟩; have n4_ : ag (w53.heap[gr]? = some (.cells #[.int .i64 0, .int .i64 0] 74 (0, 0))) := ⟨by rw [← hq_]; exact (bx oZ.out)⟩; have n5_ : ag (w53.heap[gbx]? = some (.cells #[.int .i64 0] 30 (0, 0))) := ⟨by rw [← hq_]; exact (bx bC.out)⟩; have n6_ : ag (Below w.heap.size w w53) := ⟨by rw [← hq_]; exact lb⟩; clear jv jf kT nz oZ bC HB hq_; have jv := n0_; have jf := n1_; have kT := n2_; have nz := n3_; have oZ := n4_; have bC := n5_; have HB := n6_; clear n0_ n1_ n2_ n3_ n4_ n5_ n6_)); have Og : w53.cell? ⟨pM, 0, none⟩ = some (.int .i64 ay) := (aH jf.out 0).trans rfl; have Oh : w53.cell? ⟨pM, 1, none⟩ = some (.slice (some Ol) ae.length bN) := (aH jf.out 1).trans rfl; have Oi := bG jf.out 0; have Oj := bG jf.out 1; have p52 : 0 ≤ (((aa ae (rd dV jK)).f1) : Int) := oda; have q52 : (((aa ae (rd dV jK)).f1) : Int) < ((kJ.length : Int) : Int) := oda; obtain ⟨go52, co52, eo52, gb52, gl52, cl52, HG52⟩ := Kd.l9 jv.out (by omega); (first | cases eo52 | (injection eo52 with ea_ en_ ec_; (first | subst ea_ | (injection ea_ with ea_; subst ea_)); subst ec_; clear en_)); have GB52 := ak gb52; have GG52 := ak HG52; clear gb52 gl52 HG52; (first | simp only [add_plain] at Oy | skip); obtain ⟨UH, UI⟩ := Kd.gJ false jv.out (((aa ae (rd dV jK)).f1) : Int) p52 q52; replace p52 := eq_true p52; replace q52 := eq_true q52; obtain ⟨hy60_, hz60_⟩ := Kd.gJ false jv.out (((aa ae (rd dV jK)).f1) : Int) (oda) (oda); have HP60 := Kd.lL jv.out (((aa ae (rd dV jK)).f1) : Int) true) | ((with_reducible refine fG (t := 4) (p := 92) rfl ?_); refine eQ (t := 4) (p := 92) (v := ?vo_w61) (w1 := (w53.setCell ⟨go52, (((aa ae (rd dV jK)).f1) : Int).toNat, none⟩ (.bool true))) ?hg ?ho ?hn ?hr ?_; (case ho => rfl); (case hg => rfl); (case hn => rfl); (case hr => first | (go_simp; done) | (go_simp; rfl)); intro w61 hw; have hg : w53.grownBy w61 (some go52) := (by rw [hw]; exact HP60.2); have hp_ : Kd.R Kd.bool 4 w61 w.heap.size (fun _ => True) (.slice (some ⟨go52, 0, none⟩) kJ.length co59) y248 := (by rw [hw, Ny248.out]; exact HP60.1); clear HP60; replace jf := ak (bH (bx jf.out) hg (Kd.gQ jv.out jf.out (by decide))); replace kT := ak (bH (bx kT.out) hg (Kd.gQ jv.out kT.out (by decide))); replace nz := ak (bH (bx nz.out) hg (Kd.gQ jv.out nz.out (by decide))); replace bC := ak (bH (g := gbx) (o := .cells #[.int .i64 0] 30 (0, 0)) (bx bC.out) hg (Kd.gQ jv.out bC.out (by decide))); replace oZ := ak (bH (g := gr) (o := .cells #[.int .i64 0, .int .i64 0] 74 (0, 0)) (bx oZ.out) hg (Kd.gQ jv.out oZ.out (by decide))); replace jv := ak (hp_); replace HB := ak ((by rw [hw]; exact bR (HB.out) GB52.out : Below w.heap.size w w61)); clear hg hw hp_; have hcz62_0 : w61.cell? ⟨pM, 0, none⟩ = some (.int .i64 ay) := (aH jf.out 0).trans rfl; have hcz62_1 : w61.cell? ⟨pM, 1, none⟩ = some (.slice (some Ol) ae.length bN) := (aH jf.out 1).trans rfl; have hfz62_0 := bG jf.out 0; have hfz62_1 := bG jf.out 1; obtain ⟨p249, q249, ad249, e249, Oz, OA, OB, OC⟩ := wq (dU bU.out (rd dV jK)); obtain rfl : Ol = ad249 := (by injection e249); replace Oz := hbc HB Oz; replace OA := hbc HB OA; replace OB := hbc HB OB; replace OC := hbc HB OC))
 go_roundg k1
 case measure => have := HK1.out; omega
 case rel => exact ⟨(y248), (wrap64 (bV + ((aa ae (rd dV jK)).f3))), (wrap64 (jK + 1)), sr, sr, H', ⟨by have := HK1.out; omega⟩, ⟨rx jv.out⟩, xb jf, xb kT, xb nz, xb bC, xb oZ, ⟨lb⟩⟩
end Go.Proofs.Ytkdoihcjhccliaa.Q
