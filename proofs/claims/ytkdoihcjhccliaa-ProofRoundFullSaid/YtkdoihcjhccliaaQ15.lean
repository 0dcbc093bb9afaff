import Derived.Test.YtkdoihcjhccliaaK
import Derived.Test.YtkdoihcjhccliaaQ0
import Derived.Test.YtkdoihcjhccliaaQ3
import Derived.Test.YtkdoihcjhccliaaQ5
import Derived.Test.YtkdoihcjhccliaaQ10
import Derived.Test.YtkdoihcjhccliaaQ14
namespace Go.Proofs.Ytkdoihcjhccliaa.Q
open Go.RowKit Go.Proofs.YtkdoihcjhccliaaW.PrintWords Go.Proofs.YtkdoihcjhccliaaW.PrintLast Go.Proofs.YtkdoihcjhccliaaW.PrintMore
attribute [local go_sem] dF dG eG eH cz cB dH dI   -- for this text's walks alone
set_option linter.unusedVariables false
set_option linter.unusedSimpArgs false

/-! ### aj: function 66 -/
mutual
def aj.l0 : Nat → List (S98) → Int → Int → Int → List (S98) → List Int → List Int → Int → Option (Int × Int)
  | 0, _, _, _, _, _, _, _, _ => none
  | k + 1, x17, x18, x19, mi, lw, jH, mK, jI => if x19 < x18 then (if 0 ≤ x19 then (if x19 < (x17.length : Int) then (if ((aa x17 x19).f3) ≥ 0 then (aj.l0 k x17 x18 (wrap64 (x19 + 1)) mi lw jH mK jI) else (some (80, jI))) else (none)) else (none)) else (if (jH.length : Int) = (lw.length : Int) then (if 0 ≤ mi then (if (mi : Int).toNat ≤ 35184372088832 then (aj.l1 k (List.replicate (mi : Int).toNat 0) lw (lw.length : Int) 0 mi lw jH mK jI) else (none)) else (none)) else (some (221, jI)))
def aj.l1 : Nat → List Int → List (S98) → Int → Int → Int → List (S98) → List Int → List Int → Int → Option (Int × Int)
  | 0, _, _, _, _, _, _, _, _, _ => none
  | k + 1, x5, x40, x41, x42, mi, lw, jH, mK, jI => if x42 < x41 then (if 0 ≤ x42 then (if x42 < (x40.length : Int) then (if x42 < (jH.length : Int) then (if (rd jH x42) ≥ 1 then (if (rd jH x42) ≤ 1048576 then (if 0 ≤ ((aa x40 x42).f0) then (if ((aa x40 x42).f0) < (x5.length : Int) then ((some (x5.set (((aa x40 x42).f0) : Int).toNat (wrap64 ((rd x5 ((aa x40 x42).f0)) + (rd jH x42))) : List Int)).bind fun Sa => (if 0 ≤ ((aa x40 x42).f1) then (if ((aa x40 x42).f1) < (x5.length : Int) then (aj.l1 k (Sa.set (((aa x40 x42).f1) : Int).toNat (wrap64 ((rd Sa ((aa x40 x42).f1)) - (rd jH x42)))) x40 x41 (wrap64 (x42 + 1)) mi lw jH mK jI) else (none)) else (none))) else (none)) else (none)) else (some (221, jI))) else (some (221, jI))) else (none)) else (none)) else (none)) else (aj.l2 k x5 (x5.length : Int) 0 mi lw jH mK jI)
def aj.l2 : Nat → List Int → Int → Int → Int → List (S98) → List Int → List Int → Int → Option (Int × Int)
  | 0, _, _, _, _, _, _, _, _ => none
  | k + 1, x87, x88, x89, mi, lw, jH, mK, jI => if x89 < x88 then (if 0 ≤ x89 then (if x89 < (x87.length : Int) then (if (rd x87 x89) = 0 then (aj.l2 k x87 x88 (wrap64 (x89 + 1)) mi lw jH mK jI) else (some (221, jI))) else (none)) else (none)) else ((aM.f k mi lw).bind fun aaR => (if aaR = true then ((bv.f k mi lw mK 1).bind fun sH => (if sH.1 = 0 then (aj.l3 k sH.2 (sH.2.length : Int) 0 mi lw jH mK jI) else (some (sH.1, jI)))) else (some (221, jI))))
def aj.l3 : Nat → List Int → Int → Int → Int → List (S98) → List Int → List Int → Int → Option (Int × Int)
  | 0, _, _, _, _, _, _, _, _ => none
  | k + 1, x103, x104, x105, mi, lw, jH, mK, jI => if x105 < x104 then (if 0 ≤ x105 then (if x105 < (x103.length : Int) then (if (rd x103 x105) = 0 then (aj.l3 k x103 x104 (wrap64 (x105 + 1)) mi lw jH mK jI) else (if (rd x103 x105) > 0 then (if x105 < (jH.length : Int) then (if (rd jH x105) = 1 then (aj.l3 k x103 x104 (wrap64 (x105 + 1)) mi lw jH mK jI) else (some (221, jI))) else (none)) else (some (221, jI)))) else (none)) else (none)) else (aj.l4 k lw (lw.length : Int) 0 jH mK jI)
def aj.l4 : Nat → List (S98) → Int → Int → List Int → List Int → Int → Option (Int × Int)
  | 0, _, _, _, _, _, _ => none
  | k + 1, x127, x128, VB, jH, mK, jI => if VB < x128 then (if 0 ≤ VB then (if VB < (x127.length : Int) then (if VB < (jH.length : Int) then (aj.l4 k x127 x128 (wrap64 (VB + 1)) jH mK (wrap64 (jI + (wrap64 (((aa x127 VB).f3) * (rd jH VB)))))) else (none)) else (none)) else (none)) else (some (0, jI))
end
def aj.f (k : Nat) (ay : Int) (ae : List (S98)) (dV : List Int) (iB : List Int) (a2 : Int) : Option (Int × Int) := (dM.f k ay ae).bind fun t203 => (if t203 = 0 then (aj.l0 k ae (ae.length : Int) 0 ay ae dV iB a2) else (some (t203, a2)))
def aj.T12 : Bool × List (List Nat × List Nat) := (true, [([], []), ([], []), ([1], [1]), ([0, 2], [0, 2]), ([3], [3]), ([], []), ([5], [5]), ([], []), ([6, 7], [6, 7]), ([8], [8]), ([4, 9], [4, 9]), ([0, 2, 0, 1, 2, 3, 4, 5, 6, 7, 8, 9, 10], [0, 2]), ([11, 10, 0, 1, 2, 3, 4, 5, 6, 7, 8, 9, 10], [10, 11])])
def aj.B12 : List Nat := [0, 0, 2, 7, 15, 0, 32, 0, 224, 480, 1023, 2047, 4095]
theorem aj.SQ : oO .any (opsOf Try.f66 12) = aj.T12 := by kernel_rfl
theorem aj.JZ : gM aj.T12.2 aj.B12 = true := by kernel_rfl
def aj.T13 : Bool × List (List Nat × List Nat) := (true, [([], []), ([], []), ([1], [1]), ([0, 2], [0, 2]), ([3], [3]), ([], []), ([5], [5]), ([], []), ([6, 7], [6, 7]), ([8], [8]), ([4, 9], [4, 9]), ([0, 2, 0, 1, 2, 3, 4, 5, 6, 7, 8, 9, 10], [0, 2]), ([11, 10, 0, 1, 2, 3, 4, 5, 6, 7, 8, 9, 10], [10, 11])])
def aj.B13 : List Nat := [0, 0, 2, 7, 15, 0, 32, 0, 224, 480, 1023, 2047, 4095]
theorem aj.VC : oO .any (opsOf Try.f66 13) = aj.T13 := by kernel_rfl
theorem aj.Me : gM aj.T13.2 aj.B13 = true := by kernel_rfl
def aj.T29 : Bool × List (List Nat × List Nat) := (true, [([], []), ([], []), ([1], [1]), ([], []), ([3], [3]), ([], []), ([4, 5], [4, 5]), ([6], [6]), ([2, 7], [2, 7]), ([0, 8], [0, 8]), ([9, 0, 1, 2, 3, 4, 5, 6, 7, 8, 9], [9])])
def aj.B29 : List Nat := [0, 0, 2, 0, 8, 0, 56, 120, 254, 511, 1023]
theorem aj.tab29 : oO .any (opsOf Try.f66 29) = aj.T29 := by kernel_rfl
theorem aj.aaS : gM aj.T29.2 aj.B29 = true := by kernel_rfl
set_option maxHeartbeats 8000000 in
set_option maxRecDepth 100000 in
theorem aj.calls (k : Nat) (ay : Int) (bX : Option Addr) (bN : Nat) (ae : List (S98)) (pz : Option Addr) (oz : Nat) (dV : List Int) (nZ : Option Addr) (og : Nat) (iB : List Int) (a2 : Int) (r1 : Int) (r2 : Int) (w wc0 : World) (wX wY pE gbx : Nat) (dB : Kd.C k98 w bX ae.length ae) (dC : ae.length ≤ bN) (qb : Kd.C (Kd.int .i64) w pz dV.length dV) (qc : dV.length ≤ oz) (qd : Kd.C (Kd.int .i64) w nZ iB.length iB) (qf : iB.length ≤ og) (hB : Below w.heap.size w wc0) (hb0_ : wc0.heap[wX]? = some (.cells #[.int .i64 ay, .slice bX ae.length bN] 24 (0, 0))) (hg0_ : w.heap.size ≤ wX) (hb1_ : wc0.heap[wY]? = some (.cells #[.slice pz dV.length oz, .slice nZ iB.length og] 51 (0, 0))) (hg1_ : w.heap.size ≤ wY) (hb2_ : wc0.heap[pE]? = some (.cells #[.int .i64 a2] 2 (0, 0))) (hg2_ : w.heap.size ≤ pE) (hb3_ : wc0.heap[gbx]? = some (.cells #[.int .i64 0] 30 (0, 0))) (hg3_ : w.heap.size ≤ gbx) (hn0_1_ : wX ≠ wY) (hn0_2_ : wX ≠ pE) (hn0_3_ : wX ≠ gbx) (hn1_2_ : wY ≠ pE) (hn1_3_ : wY ≠ gbx) (hn2_3_ : pE ≠ gbx) (h : aj.f k ay ae dV iB a2 = some (r1, r2)) (hr_ : r1 = 0 := by first | rfl | assumption | omega) :
    Calls Try.prog 66 #[.pointer (some ⟨wX, 0, none⟩), .pointer (some ⟨wY, 0, none⟩), .pointer (some ⟨pE, 0, none⟩)] wc0 fun e w' => oQ r1 (e = .returned (.tuple #[])) (e = gave r1) ∧ w'.heap[pE]? = some (.cells #[.int .i64 r2] 2 (0, 0)) ∧ w'.heap[gbx]? = some (.cells #[.int .i64 0] 30 (0, 0)) ∧ Below w.heap.size w w' := by
 have hu24 := Try.underlying24; have hu98 := Try.underlying98; have bU := ak dB; have eU := ak dC; clear dB dC; have tX := ak qb; have Ey := ak qc; clear qb qc; have wH := ak qd; have Aa := ak qf; clear qd qf; have HB := ak hB; clear hB; have iF := ak hb0_; have GW200 := ak hg0_; have aaT := ak hg0_; have iq := ak hb1_; have GW201 := ak hg1_; have aaU := ak hg1_; have iN := ak hb2_; have GW202 := ak hg2_; have aaV := ak hg2_; have bC := ak hb3_; have SS := ak hg3_; have KD := ak hg3_; have Ab := ak hn0_1_; have Ac := ak hn0_1_.symm; have uy := ak hn0_2_; have Mf := ak hn0_2_.symm; have xW := ak hn0_3_; have aaW := ak hn0_3_.symm; have uz := ak hn1_2_; have Mg := ak hn1_2_.symm; have xX := ak hn1_3_; have aaX := ak hn1_3_.symm; have Mh := ak hn2_3_; have Mi := ak hn2_3_.symm; clear hb0_ hg0_ hb1_ hg1_ hb2_ hg2_ hb3_ hg3_ hn0_1_ hn0_2_ hn0_3_ hn1_2_ hn1_3_ hn2_3_; have H : ((dM.f k ay ae).bind fun t203 => (if t203 = 0 then (aj.l0 k ae (ae.length : Int) 0 ay ae dV iB a2) else (some (t203, a2)))) = some (r1, r2) := h; clear h; replace H := Option.bind_eq_some_iff.mp H; obtain ⟨t203, A40, H⟩ := H
 by_cases c5 : t203 = 0
 rotate_left
 ·
  rw [if_neg c5] at H; have A4 := ak A40; clear A40
  simp only [Option.some.injEq, Prod.mk.injEq] at H
  obtain ⟨rfl, rfl⟩ := H; exact nb hr_
 subst c5
 replace H := ip H; have A4 := ak A40; clear A40; have H' := ak H; clear H; have ⟨_, _⟩ := nn Ab; have ⟨_, _⟩ := nn uy; have ⟨_, _⟩ := nn xW; have ⟨_, _, _, _⟩ := cf2 iF
 go_enter Try.func66, Try.ntmps66
 go_wp2_with (first | ((with_reducible refine au (f := 50) rfl ?_); refine gl 15 Try.func50 #[.agg #[.int .i64 ay, .slice bX ae.length bN]] ?_; (with_reducible refine (dM.ok k ay _ _ ae  _ (Kd.cZ bU.out lb) eU.out A4.out).mono ?_); rintro e w10 ⟨rfl, hb⟩; refine ⟨_, rfl, ?_⟩; replace iF := ak (bo iF hb); replace iq := ak (bo iq hb); replace iN := ak (bo iN hb); replace bC := ak (bI (g := gbx) (o := .cells #[.int .i64 0] 30 (0, 0)) (bx bC.out) hb); replace HB := ak (bl hb); clear hb; have ⟨_, _, _, _⟩ := cf2 iF))
 go_loopg [19] k (fun kq v19 w' => ∃ (zB : Int), v19 = .int .i64 zB ∧ ag (aj.l0 kq ae (ae.length : Int) zB ay ae dV iB a2 = some (r1, r2)) ∧ ag (kq ≤ k) ∧ ag (w'.heap[wX]? = some (.cells #[.int .i64 ay, (.slice bX ae.length bN)] 24 (0, 0))) ∧ ag (w'.heap[wY]? = some (.cells #[(.slice pz dV.length oz), (.slice nZ iB.length og)] 51 (0, 0))) ∧ ag (w'.heap[pE]? = some (.cells #[.int .i64 a2] 2 (0, 0))) ∧ ag (w'.heap[gbx]? = some (.cells #[.int .i64 0] 30 (0, 0))) ∧ ag (Below w.heap.size w w'))
 case atStart => exact ⟨(0), sr, H', ⟨Nat.le_refl _⟩, xb iF, xb iq, xb iN, xb bC, ⟨lb⟩⟩
 clear H'; obtain ⟨zB, rfl, HA, HK1, iF, iq, iN, bC, HB⟩ := hrel
 cases gk with
 | zero => exact absurd HA.out (by simp [aj.l0])
 | succ k1 => ?_
 have H := HA.out; clear HA
 simp only [aj.l0] at H
 by_cases c12 : zB < (ae.length : Int)
 ·
  rw [if_pos c12] at H; have c12b0 := decide_eq_true c12; clear c12; replace H := if2 H; obtain ⟨c13b0, c14b0, H⟩ := H
  by_cases c15 : ((aa ae zB).f3) ≥ 0
  rotate_left
  ·
   rw [if_neg c15] at H; have c15b0 := decide_eq_false c15; clear c15
   simp only [Option.some.injEq, Prod.mk.injEq] at H
   obtain ⟨rfl, rfl⟩ := H; exact nb hr_
  rw [if_pos c15] at H; have c15b0 := decide_eq_true c15; clear c15; have A16 := ak (show aQ.f true 80 = some () from rfl); have H' := ak H; clear H; obtain ⟨p204, q204, ad204, e204, Mj, Mk, Ml, Mm⟩ := wq (dU bU.out zB); cases e204
  (try replace Mj := hbc HB Mj)
  (try replace Mk := hbc HB Mk)
  (try replace Ml := hbc HB Ml)
  (try replace Mm := hbc HB Mm)
  go_wp2_with (first | ((with_reducible refine aC (N := 4) rfl ?_); refine bxe 4 #[.int .i64 0, .int .i64 0, .int .i64 0, .int .i64 0] 98 ?_; intro aaY hg w17 hbox hb; have BK205 := ak (hbox); have GW205 := ak (gw w hg); have GE205 := ak (gw w hg); have aaZ := ak (nl hg iF); have Mo := ak (nr hg iF); have aa0 := ak (nl hg iq); have Mq := ak (nr hg iq); have aa1 := ak (nl hg iN); have Mr := ak (nr hg iN); have aa2 := ak ((by rw [hg]; exact Nat.ne_of_lt (eB (g := gbx) (o := .cells #[.int .i64 0] 30 (0, 0)) (bx bC.out)) : gbx ≠ aaY)); have Ms := ak ((by rw [hg]; exact Nat.ne_of_gt (eB (g := gbx) (o := .cells #[.int .i64 0] 30 (0, 0)) (bx bC.out)) : aaY ≠ gbx)); replace iF := ak (bo iF hb); replace iq := ak (bo iq hb); replace iN := ak (bo iN hb); replace bC := ak (bI (g := gbx) (o := .cells #[.int .i64 0] 30 (0, 0)) (bx bC.out) hb); replace HB := ak (bl hb); clear hb hbox hg; have ⟨_, _⟩ := nn Mo; have ⟨_, _⟩ := nn Mq; have ⟨_, _⟩ := nn Mr; have ⟨_, _⟩ := nn Ms; have ⟨_, _, _, _, _, _, _, _⟩ := cf4 BK205) | ((with_reducible refine au (f := 51) rfl ?_); refine gl 26 Try.func51 #[.bool true, .int .i64 80] ?_; (with_reducible refine (aQ.calls true 80  _ A16.out).mono ?_); rintro e w' ⟨rfl, ⟨nd, rfl⟩⟩; refine ⟨_, rfl, ?_⟩))
  go_roundg k1
  case measure => have := HK1.out; omega
  case rel => exact ⟨(wrap64 (zB + 1)), sr, H', ⟨by have := HK1.out; omega⟩, ⟨bz⟩, ⟨bz⟩, ⟨bz⟩, ⟨bz⟩, ⟨lb⟩⟩
 rw [if_neg c12] at H; have c12b0 := decide_eq_false c12; clear c12
 by_cases c29 : (dV.length : Int) = (ae.length : Int)
 rotate_left
 ·
  rw [if_neg c29] at H; have c29b := bn2 c29; have c29b2 : (dV.length == ae.length) = false := by first | simpa using c29 | (simp at c29 ⊢; omega)
  simp only [Option.some.injEq, Prod.mk.injEq] at H
  obtain ⟨rfl, rfl⟩ := H; exact nb hr_
 rw [if_pos c29] at H; have c29b := be2 c29; have c29b2 : (dV.length == ae.length) = true := by first | simpa using c29 | (simp at c29 ⊢; omega)
 clear c29; have A30 := ak (show aQ.f true 221 = some () from rfl); replace H := ife H; obtain ⟨c31b0, c31b1, H⟩ := H; replace H := ife H; obtain ⟨c32b0, c32b1, H⟩ := H; obtain ⟨y206, VD⟩ : ∃ y_ : List Int, y_ = (List.replicate (ay : Int).toNat 0) := ⟨_, rfl⟩; replace H : (aj.l1 k1 y206 ae (ae.length : Int) 0 ay ae dV iB a2) = some (r1, r2) := by first | (rw [VD]; exact H) | exact H
 have aa3 := ak VD; clear VD; have H' := ak H; clear H; have ⟨_, _⟩ := nn Ac; have ⟨_, _⟩ := nn uz; have ⟨_, _⟩ := nn xX; have ⟨_, _, _, _⟩ := cf2 iq; have ⟨_, _⟩ := nn uy; have ⟨_, _⟩ := nn xW; have ⟨_, _, _, _⟩ := cf2 iF
 go_wp2_with (first | ((with_reducible refine au (f := 51) rfl ?_); refine gl 35 Try.func51 #[.bool true, .int .i64 221] ?_; (with_reducible refine (aQ.calls true 221  _ A30.out).mono ?_); rintro e w' ⟨rfl, ⟨nd, rfl⟩⟩; refine ⟨_, rfl, ?_⟩) | ((with_reducible refine aC (N := 38) rfl ?_); refine Kd.ni (Kd.int .i64) _ 2 rfl (N := 38) rfl 25 _ _ rfl ay rfl rfl Try.underlying25 (.int .i64 0) 8 wW rfl (by decide) (by omega) 0 (ok := fun _ => True) (okp := fun _ => True) rfl (fun _ hk => hk) trivial (oda) (Nat.le_trans (Nat.mul_le_mul_right _ (oda : ay.toNat ≤ 35184372088832)) (by omega)) (Below.refl _ _) (Nat.le_refl _) ?_; intro v207 w40 ho41 hb hg_ hnew_; clear hg_ hnew_; (first | rw [← aa3.out] at ho41 | (simp only [Int.reduceToNat] at ho41; rw [← aa3.out] at ho41)); have HO208 := ak (Kd.bY (Kd.D8 ho41 (g := pE) (o := .cells #[.int .i64 a2] 2 (0, 0)) (bx iN.out)) (ax lb)); replace iF := ak (bo iF hb); replace iq := ak (bo iq hb); replace iN := ak (bo iN hb); replace bC := ak (bI (g := gbx) (o := .cells #[.int .i64 0] 30 (0, 0)) (bx bC.out) hb); replace HB := ak (bl hb); clear hb ho41; have ⟨_, _, _, _⟩ := cf2 iF))
 go_loopg [42] k1 (fun kq v42 w' => ∃ (oh : List Int) (dR : Int), v42 = .int .i64 dR ∧ ag (aj.l1 kq oh ae (ae.length : Int) dR ay ae dV iB a2 = some (r1, r2)) ∧ ag (kq ≤ k1) ∧ ag (Kd.R (Kd.int .i64) 2 w' w.heap.size (fun k_ => k_ ≠ pE) v207 oh) ∧ ag (w'.heap[wX]? = some (.cells #[.int .i64 ay, (.slice bX ae.length bN)] 24 (0, 0))) ∧ ag (w'.heap[wY]? = some (.cells #[(.slice pz dV.length oz), (.slice nZ iB.length og)] 51 (0, 0))) ∧ ag (w'.heap[pE]? = some (.cells #[.int .i64 a2] 2 (0, 0))) ∧ ag (w'.heap[gbx]? = some (.cells #[.int .i64 0] 30 (0, 0))) ∧ ag (Below w.heap.size w w'))
 case atStart => exact ⟨(y206), (0), sr, H', ⟨Nat.le_refl _⟩, ⟨by exact rx (Kd.cO HO208.out (fun _ hk => hk.2))⟩, xb iF, xb iq, xb iN, xb bC, ⟨lb⟩⟩
 clear H'; obtain ⟨oh, dR, rfl, HA, HK2, fJ, iF, iq, iN, bC, HB⟩ := hrel
 cases gk with
 | zero => exact absurd HA.out (by simp [aj.l1])
 | succ k2 => ?_
 have H := HA.out; clear HA
 simp only [aj.l1] at H
 by_cases c43 : dR < (ae.length : Int)
 ·
  rw [if_pos c43] at H; have c43b0 := decide_eq_true c43; clear c43; replace H := if3 H; obtain ⟨c44b0, c45b0, c46b0, H⟩ := H
  by_cases c47 : (rd dV dR) ≥ 1
  rotate_left
  ·
   rw [if_neg c47] at H; have c47b0 := decide_eq_false c47; clear c47
   simp only [Option.some.injEq, Prod.mk.injEq] at H
   obtain ⟨rfl, rfl⟩ := H; exact nb hr_
  rw [if_pos c47] at H; have c47b0 := decide_eq_true c47; clear c47
  by_cases c48 : (rd dV dR) ≤ 1048576
  rotate_left
  ·
   rw [if_neg c48] at H; have c48b0 := decide_eq_false c48; clear c48
   simp only [Option.some.injEq, Prod.mk.injEq] at H
   obtain ⟨rfl, rfl⟩ := H; exact nb hr_
  rw [if_pos c48] at H; have c48b0 := decide_eq_true c48; clear c48; have A49 := ak (show aQ.f true 221 = some () from rfl); replace H := if2 H; obtain ⟨c50b0, c51b0, H⟩ := H; obtain ⟨Sa, VE⟩ : ∃ y_ : List Int, y_ = (oh.set (((aa ae dR).f0) : Int).toNat (wrap64 ((rd oh ((aa ae dR).f0)) + (rd dV dR)))) := ⟨_, rfl⟩; replace H : (if 0 ≤ ((aa ae dR).f1) then (if ((aa ae dR).f1) < (oh.length : Int) then (aj.l1 k2 (Sa.set (((aa ae dR).f1) : Int).toNat (wrap64 ((rd Sa ((aa ae dR).f1)) - (rd dV dR)))) ae (ae.length : Int) (wrap64 (dR + 1)) ay ae dV iB a2) else (none)) else (none)) = some (r1, r2) := by first | (rw [VE]; exact H) | exact H
  have aa4 := ak VE; clear VE; replace H := if2 H; obtain ⟨c53b0, c54b0, H⟩ := H; obtain ⟨y218, VF⟩ : ∃ y_ : List Int, y_ = (Sa.set (((aa ae dR).f1) : Int).toNat (wrap64 ((rd Sa ((aa ae dR).f1)) - (rd dV dR)))) := ⟨_, rfl⟩; replace H : (aj.l1 k2 y218 ae (ae.length : Int) (wrap64 (dR + 1)) ay ae dV iB a2) = some (r1, r2) := by first | (rw [VF]; exact H) | exact H
  have Ny218 := ak VF; clear VF; have H' := ak H; clear H; obtain ⟨p209, q209, VG, e209, Mv, Mw, Mx, MB⟩ := wq (dU bU.out dR); cases e209
  (try replace Mv := hbc HB Mv)
  (try replace Mw := hbc HB Mw)
  (try replace Mx := hbc HB Mx)
  (try replace MB := hbc HB MB)
  try go_wp2_with (first | ((with_reducible refine aC (N := 7) rfl ?_); refine bxe 7 #[.int .i64 0, .int .i64 0, .int .i64 0, .int .i64 0] 98 ?_; intro jJ hg w56 hbox hb; have pF := ak (hbox); have Gw := ak (gw w hg); have aa5 := ak (gw w hg); have aa6 := ak (nl hg iF); have MC := ak (nr hg iF); have aa7 := ak (nl hg iq); have ME := ak (nr hg iq); have aa8 := ak (nl hg iN); have MF := ak (nr hg iN); have aa9 := ak ((by rw [hg]; exact Nat.ne_of_lt (eB (g := gbx) (o := .cells #[.int .i64 0] 30 (0, 0)) (bx bC.out)) : gbx ≠ jJ)); have MG := ak ((by rw [hg]; exact Nat.ne_of_gt (eB (g := gbx) (o := .cells #[.int .i64 0] 30 (0, 0)) (bx bC.out)) : jJ ≠ gbx)); replace fJ := ak (ro fJ hb); replace iF := ak (bo iF hb); replace iq := ak (bo iq hb); replace iN := ak (bo iN hb); replace bC := ak (bI (g := gbx) (o := .cells #[.int .i64 0] 30 (0, 0)) (bx bC.out) hb); replace HB := ak (bl hb); clear hb hbox hg; have ⟨_, _⟩ := nn MC; have ⟨_, _⟩ := nn ME; have ⟨_, _⟩ := nn MF; have ⟨_, _⟩ := nn MG; have ⟨_, _, _, _, _, _, _, _⟩ := cf4 pF; have ⟨_, _⟩ := nn Ac; have ⟨_, _⟩ := nn uz; have ⟨_, _⟩ := nn xX; have ⟨_, _, _, _⟩ := cf2 iq; obtain ⟨p211, q211, KE, e211, nI⟩ := wq (Kd.bB tX.out dR); cases e211; have MH := an nI Gw; have MI := an nI Gw; have MJ := an nI Gw; have MK := an nI Gw; replace nI := hbc HB nI; replace nI := cg ⟨jJ, 0, none⟩ (.int .i64 ((aa ae dR).f0)) nI MH; replace nI := cg ⟨jJ, 1, none⟩ (.int .i64 ((aa ae dR).f1)) nI MI; replace nI := cg ⟨jJ, 2, none⟩ (.int .i64 ((aa ae dR).f2)) nI MJ; replace nI := cg ⟨jJ, 3, none⟩ (.int .i64 ((aa ae dR).f3)) nI MK; clear MH; clear MI; clear MJ; clear MK; obtain ⟨p212, q212, ad212, e212, nJ⟩ := wq (Kd.bB tX.out dR); obtain rfl : KE = ad212 := (by injection e212); have ML := an nJ Gw; have MM := an nJ Gw; have MN := an nJ Gw; have MO := an nJ Gw; replace nJ := hbc HB nJ; replace nJ := cg ⟨jJ, 0, none⟩ (.int .i64 ((aa ae dR).f0)) nJ ML; replace nJ := cg ⟨jJ, 1, none⟩ (.int .i64 ((aa ae dR).f1)) nJ MM; replace nJ := cg ⟨jJ, 2, none⟩ (.int .i64 ((aa ae dR).f2)) nJ MN; replace nJ := cg ⟨jJ, 3, none⟩ (.int .i64 ((aa ae dR).f3)) nJ MO; clear ML; clear MM; clear MN; clear MO) | ((with_reducible refine au (f := 51) rfl ?_); refine gl 61 Try.func51 #[.bool true, .int .i64 221] ?_; (with_reducible refine (aQ.calls true 221  _ A49.out).mono ?_); rintro e w' ⟨rfl, ⟨nd, rfl⟩⟩; refine ⟨_, rfl, ?_⟩))
  have n0_ : ag (Kd.R (Kd.int .i64) 2 ((((w56.setCell ⟨jJ, 0, none⟩ (.int .i64 ((aa ae dR).f0))).setCell ⟨jJ, 1, none⟩ (.int .i64 ((aa ae dR).f1))).setCell ⟨jJ, 2, none⟩ (.int .i64 ((aa ae dR).f2))).setCell ⟨jJ, 3, none⟩ (.int .i64 ((aa ae dR).f3))) w.heap.size (fun k_ => k_ ≠ pE) v207 oh) := ⟨by exact rx (Kd.cO (Kd.dN (p := ⟨jJ, 3, none⟩) (Kd.dN (p := ⟨jJ, 2, none⟩) (Kd.dN (p := ⟨jJ, 1, none⟩) (Kd.dN (p := ⟨jJ, 0, none⟩) (Kd.fC fJ.out pF.out (by decide)) (fun _ hk => hk.2) (.int .i64 ((aa ae dR).f0))) (fun _ hk => hk.2) (.int .i64 ((aa ae dR).f1))) (fun _ hk => hk.2) (.int .i64 ((aa ae dR).f2))) (fun _ hk => hk.2) (.int .i64 ((aa ae dR).f3))) (fun _ hk => hk.1))⟩
  have n1_ : ag (((((w56.setCell ⟨jJ, 0, none⟩ (.int .i64 ((aa ae dR).f0))).setCell ⟨jJ, 1, none⟩ (.int .i64 ((aa ae dR).f1))).setCell ⟨jJ, 2, none⟩ (.int .i64 ((aa ae dR).f2))).setCell ⟨jJ, 3, none⟩ (.int .i64 ((aa ae dR).f3))).heap[wX]? = some (.cells #[.int .i64 ay, .slice (some VG) ae.length bN] 24 (0, 0))) := ⟨bz⟩
  have n2_ : ag (((((w56.setCell ⟨jJ, 0, none⟩ (.int .i64 ((aa ae dR).f0))).setCell ⟨jJ, 1, none⟩ (.int .i64 ((aa ae dR).f1))).setCell ⟨jJ, 2, none⟩ (.int .i64 ((aa ae dR).f2))).setCell ⟨jJ, 3, none⟩ (.int .i64 ((aa ae dR).f3))).heap[wY]? = some (.cells #[.slice (some KE) dV.length oz, .slice nZ iB.length og] 51 (0, 0))) := ⟨bz⟩
  have n3_ : ag (((((w56.setCell ⟨jJ, 0, none⟩ (.int .i64 ((aa ae dR).f0))).setCell ⟨jJ, 1, none⟩ (.int .i64 ((aa ae dR).f1))).setCell ⟨jJ, 2, none⟩ (.int .i64 ((aa ae dR).f2))).setCell ⟨jJ, 3, none⟩ (.int .i64 ((aa ae dR).f3))).heap[pE]? = some (.cells #[.int .i64 a2] 2 (0, 0))) := ⟨bz⟩
  have n4_ : ag (((((w56.setCell ⟨jJ, 0, none⟩ (.int .i64 ((aa ae dR).f0))).setCell ⟨jJ, 1, none⟩ (.int .i64 ((aa ae dR).f1))).setCell ⟨jJ, 2, none⟩ (.int .i64 ((aa ae dR).f2))).setCell ⟨jJ, 3, none⟩ (.int .i64 ((aa ae dR).f3))).heap[gbx]? = some (.cells #[.int .i64 0] 30 (0, 0))) := ⟨bz⟩
  have n5_ : ag (((((w56.setCell ⟨jJ, 0, none⟩ (.int .i64 ((aa ae dR).f0))).setCell ⟨jJ, 1, none⟩ (.int .i64 ((aa ae dR).f1))).setCell ⟨jJ, 2, none⟩ (.int .i64 ((aa ae dR).f2))).setCell ⟨jJ, 3, none⟩ (.int .i64 ((aa ae dR).f3))).heap[jJ]? = some (.cells #[.int .i64 ((aa ae dR).f0), .int .i64 ((aa ae dR).f1), .int .i64 ((aa ae dR).f2), .int .i64 ((aa ae dR).f3)] 98 (0, 0))) := ⟨bz⟩
  have n6_ : ag (Below w.heap.size w ((((w56.setCell ⟨jJ, 0, none⟩ (.int .i64 ((aa ae dR).f0))).setCell ⟨jJ, 1, none⟩ (.int .i64 ((aa ae dR).f1))).setCell ⟨jJ, 2, none⟩ (.int .i64 ((aa ae dR).f2))).setCell ⟨jJ, 3, none⟩ (.int .i64 ((aa ae dR).f3)))) := ⟨lb⟩
  (try clear fJ)
  (try clear iF)
  (try clear iq)
  (try clear iN)
  (try clear bC)
  (try clear pF)
  (try clear HB)
  generalize ((((w56.setCell ⟨jJ, 0, none⟩ (.int .i64 ((aa ae dR).f0))).setCell ⟨jJ, 1, none⟩ (.int .i64 ((aa ae dR).f1))).setCell ⟨jJ, 2, none⟩ (.int .i64 ((aa ae dR).f2))).setCell ⟨jJ, 3, none⟩ (.int .i64 ((aa ae dR).f3))) = w66 at n0_ n1_ n2_ n3_ n4_ n5_ n6_ ⊢
  have fJ := n0_; have iF := n1_; have iq := n2_; have iN := n3_; have bC := n4_; have pF := n5_; have HB := n6_; clear n0_ n1_ n2_ n3_ n4_ n5_ n6_
  (try (rw [nu w66]; generalize hq_ : World.drewN w66 _ = w66; have n0_ : ag (Kd.R (Kd.int .i64) 2 w66 w.heap.size (fun k_ => k_ ≠ pE) v207 oh) := ⟨by rw [← hq_]; exact (rx fJ.out)⟩; have n1_ : ag (w66.heap[wX]? = some (.cells #[.int .i64 ay, .slice (some VG) ae.length bN] 24 (0, 0))) := ⟨by rw [← hq_]; exact (bx iF.out)⟩; have n2_ : ag (w66.heap[wY]? = some (.cells #[.slice (some KE) dV.length oz, .slice nZ iB.length og] 51 (0, 0))) := ⟨by rw [← hq_]; exact (bx iq.out)⟩; have n3_ : ag (w66.heap[pE]? = some (.cells #[.int .i64 a2] 2 (0, 0))) := ⟨by rw [← hq_]; exact (bx iN.out)⟩; have n4_ : ag (w66.heap[jJ]? = some (.cells #[.int .i64 ((aa ae dR).f0), .int .i64 ((aa ae dR).f1), .int .i64 ((aa ae dR).f2), .int .i64 ((aa ae dR).f3)] 98 (0, 0))) := ⟨by rw [← hq_]; exact (bx pF.out)⟩; have n5_ : ag (w66.heap[gbx]? = some (.cells #[.int .i64 0] 30 (0, 0))) := ⟨by rw [← hq_]; exact (bx bC.out)⟩; have n6_ : ag (Below w.heap.size w w66) := ⟨by rw [← hq_]; exact lb⟩; clear fJ iF iq iN pF bC HB hq_; have fJ := n0_; have iF := n1_; have iq := n2_; have iN := n3_; have pF := n4_; have bC := n5_; have HB := n6_; clear n0_ n1_ n2_ n3_ n4_ n5_ n6_))
  replace fJ := ak (Kd.fH fJ.out); replace iF := ak (aK iF.out); replace iq := ak (aK iq.out); replace iN := ak (aK iN.out); replace bC := ak (aK bC.out); replace pF := ak (aK pF.out); replace HB := ak (bJ HB.out); obtain ⟨Ao68, co68, eo68⟩ := Kd.bT fJ.out
  (first | subst eo68 | (injection eo68 with f1_ f2_ f3_; have f4_ := f1_.symm; have f5_ := f3_.symm; clear f1_ f2_ f3_; subst f4_; subst f5_))
  obtain ⟨p213, q213, ad213, e213, II⟩ := wq (Kd.bB (Kd.aA fJ.out).2.2 ((aa ae dR).f0)); cases e213; obtain ⟨p214, q214, ad214, e214, Ez⟩ := wq (Kd.bB tX.out dR); have VH := Ez
  obtain rfl : KE = ad214 := (by injection e214)
  (try replace Ez := hbc HB Ez); have p52 : 0 ≤ (((aa ae dR).f0) : Int) := oda; have q52 : (((aa ae dR).f0) : Int) < ((oh.length : Int) : Int) := oda
  obtain ⟨go52, co52, eo52, gb52, gl52, cl52, HG52⟩ := Kd.l9 fJ.out (by omega)
  (first | cases eo52 | (injection eo52 with ea_ en_ ec_; (first | subst ea_ | (injection ea_ with ea_; subst ea_)); subst ec_; clear en_))
  have GB52 := ak gb52; have GG52 := ak HG52; clear gb52 gl52 HG52
  (first | simp only [add_plain] at II | skip)
  obtain ⟨UH, UI⟩ := Kd.gJ 0 fJ.out (((aa ae dR).f0) : Int) p52 q52; replace p52 := eq_true p52; replace q52 := eq_true q52; have HP69 := Kd.wP fJ.out (((aa ae dR).f0) : Int) (wrap64 ((rd oh ((aa ae dR).f0)) + (rd dV dR))); rw [← aa4.out] at HP69; have HQ69 := ak HP69; clear HP69
  refine stC 13 [12] (cX (bc0 pF) (cX (bc1 pF) (cX (bc2 pF) (cX (bc3 pF) (cX (bc0 iq) (cX (bc1 iq) (cX II (cY (hbc HB VH))))))))) aj.SQ aj.JZ fun hHeld HT_ HW_ => ?_
  generalize w66.drew = w67 at fJ iF iq iN bC pF HB GG52 HQ69 UI II Ez UH hHeld ⊢
  refine pv HT_ 0 62 ?_; refine pv HT_ 1 63 ?_; refine pv HT_ 5 67 ?_; refine pv HT_ 7 69 ?_; refine tv HT_ HW_ hHeld 2 64 ?_; refine pv HT_ 3 65 ?_; refine tv HT_ HW_ hHeld 4 66 ?_; refine tv HT_ HW_ hHeld 6 68 ?_; refine pv HT_ 8 70 ?_; refine tv HT_ HW_ hHeld 9 71 ?_; refine pv HT_ 10 72 ?_; refine pv HT_ 11 73 ?_
  refine um (i := 12) (N := none) #[T, T, T, T, T, T, T, T, T, T, T, T, T] rfl rfl (gP HT_.out (by kernel_rfl)) (by decide) (fun K hK => ?_)
  refine tV (w1 := ?_) (by rfl) rfl ?_ ?_
  rotate_left
  ·
   go_simp
   rfl
  refine hK.out _ _ ?_
  clear hK K
  refine kN (fV HT_.out (by kernel_rfl)) ?_
  try go_wp2
  have n0_ : ag (Kd.R (Kd.int .i64) 2 (w67.setCell ⟨go52, (((aa ae dR).f0) : Int).toNat, none⟩ (.int .i64 (wrap64 ((rd oh ((aa ae dR).f0)) + (rd dV dR))))) w.heap.size (fun k_ => k_ ≠ pE) (.slice (some ⟨go52, 0, none⟩) oh.length co68) Sa) := ⟨by (with_reducible repeat (first | apply Kd.pq | apply Kd.oD | apply Kd.fH)); exact HQ69.out⟩
  have n1_ : ag ((w67.setCell ⟨go52, (((aa ae dR).f0) : Int).toNat, none⟩ (.int .i64 (wrap64 ((rd oh ((aa ae dR).f0)) + (rd dV dR))))).heap[wX]? = some (.cells #[.int .i64 ay, .slice (some VG) ae.length bN] 24 (0, 0))) := ⟨by (with_reducible repeat (first | refine dw ?_ _ | refine aK ?_ | refine bg ?_ _)); refine dY ?_ (by have h_ := Kd.gQ fJ.out iF.out (by decide); intro e_; exact h_ (by rw [e_]; rfl)) _; exact bx iF.out⟩
  have n2_ : ag ((w67.setCell ⟨go52, (((aa ae dR).f0) : Int).toNat, none⟩ (.int .i64 (wrap64 ((rd oh ((aa ae dR).f0)) + (rd dV dR))))).heap[wY]? = some (.cells #[.slice (some KE) dV.length oz, .slice nZ iB.length og] 51 (0, 0))) := ⟨by (with_reducible repeat (first | refine dw ?_ _ | refine aK ?_ | refine bg ?_ _)); refine dY ?_ (by have h_ := Kd.gQ fJ.out iq.out (by decide); intro e_; exact h_ (by rw [e_]; rfl)) _; exact bx iq.out⟩
  have n3_ : ag ((w67.setCell ⟨go52, (((aa ae dR).f0) : Int).toNat, none⟩ (.int .i64 (wrap64 ((rd oh ((aa ae dR).f0)) + (rd dV dR))))).heap[pE]? = some (.cells #[.int .i64 a2] 2 (0, 0))) := ⟨by (with_reducible repeat (first | refine dw ?_ _ | refine aK ?_ | refine bg ?_ _)); refine dY ?_ (by have h_ := Kd.JV fJ.out (fun _ hk => hk); intro e_; exact h_ (by rw [e_]; rfl)) _; exact bx iN.out⟩
  have n4_ : ag ((w67.setCell ⟨go52, (((aa ae dR).f0) : Int).toNat, none⟩ (.int .i64 (wrap64 ((rd oh ((aa ae dR).f0)) + (rd dV dR))))).heap[gbx]? = some (.cells #[.int .i64 0] 30 (0, 0))) := ⟨by (with_reducible repeat (first | refine dw ?_ _ | refine aK ?_ | refine bg ?_ _)); refine dY ?_ (by have h_ := Kd.gQ fJ.out bC.out (by decide); intro e_; exact h_ (by rw [e_]; rfl)) _; exact bx bC.out⟩
  have n5_ : ag ((w67.setCell ⟨go52, (((aa ae dR).f0) : Int).toNat, none⟩ (.int .i64 (wrap64 ((rd oh ((aa ae dR).f0)) + (rd dV dR))))).heap[jJ]? = some (.cells #[.int .i64 ((aa ae dR).f0), .int .i64 ((aa ae dR).f1), .int .i64 ((aa ae dR).f2), .int .i64 ((aa ae dR).f3)] 98 (0, 0))) := ⟨by (with_reducible repeat (first | refine dw ?_ _ | refine aK ?_ | refine bg ?_ _)); refine dY ?_ (by have h_ := Kd.gQ fJ.out pF.out (by decide); intro e_; exact h_ (by rw [e_]; rfl)) _; exact bx pF.out⟩
  have n6_ : ag (Below w.heap.size w (w67.setCell ⟨go52, (((aa ae dR).f0) : Int).toNat, none⟩ (.int .i64 (wrap64 ((rd oh ((aa ae dR).f0)) + (rd dV dR)))))) := ⟨by repeat (first | (with_reducible first | exact HB.out | apply fE | apply gq | apply bJ | refine bR ?_ GB52.out | refine bR ?_ aaT.out | refine bR ?_ aaU.out | refine bR ?_ aaV.out | refine bR ?_ KD.out | refine bR ?_ aa5.out) | exact HB.out)⟩
  (try clear fJ)
  (try clear iF)
  (try clear iq)
  (try clear iN)
  (try clear bC)
  (try clear pF)
  (try clear HB)
  generalize (w67.setCell ⟨go52, (((aa ae dR).f0) : Int).toNat, none⟩ (.int .i64 (wrap64 ((rd oh ((aa ae dR).f0)) + (rd dV dR))))) = w70 at n0_ n1_ n2_ n3_ n4_ n5_ n6_ ⊢
  have fJ := n0_; have iF := n1_; have iq := n2_; have iN := n3_; have bC := n4_; have pF := n5_; have HB := n6_; clear n0_ n1_ n2_ n3_ n4_ n5_ n6_; replace fJ := ak (Kd.fH fJ.out); replace iF := ak (aK iF.out); replace iq := ak (aK iq.out); replace iN := ak (aK iN.out); replace bC := ak (aK bC.out); replace pF := ak (aK pF.out); replace HB := ak (bJ HB.out); have p216 : 0 ≤ (((aa ae dR).f1) : Int) := oda
  have q216 : ((aa ae dR).f1) < (Sa.length : Int) := (by have h_ : (((aa ae dR).f1) : Int) < ((oh.length : Int) : Int) := oda; first | (have e_ := (Kd.aA fJ.out).1; omega) | simpa only [aa4.out, List.length_set] using h_)
  have ql216 : ((((aa ae dR).f1) : Int) < ((oh.length : Int) : Int)) = True := eq_true (oda); obtain ⟨ad216, e216, Ad⟩ := Kd.bB (Kd.aA fJ.out).2.2 ((aa ae dR).f1) p216 q216
  obtain rfl : (⟨go52, 0, none⟩ : Addr) = ad216 := (by injection e216)
  (first | simp only [add_plain] at Ad | simp only [lI] at Ad | simp only [Addr.add, Nat.zero_add] at Ad | skip)
  replace p216 := eq_true p216; replace q216 := eq_true q216; obtain ⟨p217, q217, ad217, e217, EA⟩ := wq (Kd.bB tX.out dR); have VI := EA
  obtain rfl : KE = ad217 := (by injection e217)
  (try replace EA := hbc HB EA); have p55 : 0 ≤ (((aa ae dR).f1) : Int) := oda; have q55 : (((aa ae dR).f1) : Int) < ((oh.length : Int) : Int) := oda; obtain ⟨aba, abb⟩ := Kd.gJ 0 fJ.out (((aa ae dR).f1) : Int) p55 q55; replace p55 := eq_true p55; replace q55 := eq_true q55; have HP72 := Kd.wP fJ.out (((aa ae dR).f1) : Int) (wrap64 ((rd Sa ((aa ae dR).f1)) - (rd dV dR))); rw [← Ny218.out] at HP72; have HQ72 := ak HP72; clear HP72
  refine stC 13 [12] (cX (bc0 pF) (cX (bc1 pF) (cX (bc2 pF) (cX (bc3 pF) (cX (bc0 iq) (cX (bc1 iq) (cX Ad (cY (hbc HB VI))))))))) aj.VC aj.Me fun hHeld HT_ HW_ => ?_
  generalize w70.drew = w71 at fJ iF iq iN bC pF HB HQ69 HQ72 abb Ad EA aba hHeld ⊢
  refine pv HT_ 0 74 ?_; refine pv HT_ 1 75 ?_; refine pv HT_ 5 79 ?_; refine pv HT_ 7 81 ?_; refine tv HT_ HW_ hHeld 2 76 ?_; refine pv HT_ 3 77 ?_; refine tv HT_ HW_ hHeld 4 78 ?_; refine tv HT_ HW_ hHeld 6 80 ?_; refine pv HT_ 8 82 ?_; refine tv HT_ HW_ hHeld 9 83 ?_; refine pv HT_ 10 84 ?_; refine pv HT_ 11 85 ?_
  refine um (i := 12) (N := none) #[T, T, T, T, T, T, T, T, T, T, T, T, T] rfl rfl (gP HT_.out (by kernel_rfl)) (by decide) (fun K hK => ?_)
  refine tV (w1 := ?_) (by rfl) rfl ?_ ?_
  rotate_left
  ·
   go_simp
   rfl
  refine hK.out _ _ ?_
  clear hK K
  refine kN (fV HT_.out (by kernel_rfl)) ?_
  try go_wp2
  go_roundg k2
  case measure => have := HK1.out; have := HK2.out; omega
  case rel => exact ⟨(y218), (wrap64 (dR + 1)), sr, H', ⟨by have := HK1.out; have := HK2.out; omega⟩, ⟨by (with_reducible repeat (first | apply Kd.pq | apply Kd.oD | apply Kd.fH)); exact HQ72.out⟩, ⟨by (with_reducible repeat (first | refine dw ?_ _ | refine aK ?_ | refine bg ?_ _)); refine dY ?_ (by have h_ := Kd.gQ fJ.out iF.out (by decide); intro e_; exact h_ (by rw [e_]; rfl)) _; exact bx iF.out⟩, ⟨by (with_reducible repeat (first | refine dw ?_ _ | refine aK ?_ | refine bg ?_ _)); refine dY ?_ (by have h_ := Kd.gQ fJ.out iq.out (by decide); intro e_; exact h_ (by rw [e_]; rfl)) _; exact bx iq.out⟩, ⟨by (with_reducible repeat (first | refine dw ?_ _ | refine aK ?_ | refine bg ?_ _)); refine dY ?_ (by have h_ := Kd.JV fJ.out (fun _ hk => hk); intro e_; exact h_ (by rw [e_]; rfl)) _; exact bx iN.out⟩, ⟨by (with_reducible repeat (first | refine dw ?_ _ | refine aK ?_ | refine bg ?_ _)); refine dY ?_ (by have h_ := Kd.gQ fJ.out bC.out (by decide); intro e_; exact h_ (by rw [e_]; rfl)) _; exact bx bC.out⟩, ⟨by repeat (first | (with_reducible first | exact HB.out | apply fE | apply gq | apply bJ | refine bR ?_ GB52.out | refine bR ?_ aaT.out | refine bR ?_ aaU.out | refine bR ?_ aaV.out | refine bR ?_ KD.out | refine bR ?_ aa5.out) | exact HB.out)⟩⟩
 rw [if_neg c43] at H; have c43b0 := decide_eq_false c43; clear c43; have H' := ak H; clear H; obtain ⟨Ao93, co93, eo93⟩ := Kd.bT fJ.out; subst eo93
 go_wp2
 go_loopg [89] k2 (fun kq v89 w' => ∃ (IJ : Int), v89 = .int .i64 IJ ∧ ag (aj.l2 kq oh (oh.length : Int) IJ ay ae dV iB a2 = some (r1, r2)) ∧ ag (kq ≤ k2) ∧ ag (Kd.R (Kd.int .i64) 2 w' w.heap.size (fun k_ => k_ ≠ pE) (.slice Ao93 oh.length co93) oh) ∧ ag (w'.heap[wX]? = some (.cells #[.int .i64 ay, (.slice bX ae.length bN)] 24 (0, 0))) ∧ ag (w'.heap[wY]? = some (.cells #[(.slice pz dV.length oz), (.slice nZ iB.length og)] 51 (0, 0))) ∧ ag (w'.heap[pE]? = some (.cells #[.int .i64 a2] 2 (0, 0))) ∧ ag (w'.heap[gbx]? = some (.cells #[.int .i64 0] 30 (0, 0))) ∧ ag (Below w.heap.size w w'))
 case atStart => exact ⟨(0), sr, H', ⟨Nat.le_refl _⟩, ⟨rx fJ.out⟩, xb iF, xb iq, xb iN, xb bC, ⟨lb⟩⟩
 clear H'; obtain ⟨IJ, rfl, HA, HK3, IK, iF, iq, iN, bC, HB⟩ := hrel
 cases gk with
 | zero => exact absurd HA.out (by simp [aj.l2])
 | succ k3 => ?_
 have H := HA.out; clear HA
 simp only [aj.l2] at H
 by_cases c94 : IJ < (oh.length : Int)
 ·
  rw [if_pos c94] at H; have c94b0 := decide_eq_true c94; clear c94; replace H := if2 H; obtain ⟨c95b0, c96b0, H⟩ := H
  by_cases c97 : (rd oh IJ) = 0
  rotate_left
  ·
   rw [if_neg c97] at H; have c97b := bn2 c97
   simp only [Option.some.injEq, Prod.mk.injEq] at H
   obtain ⟨rfl, rfl⟩ := H; exact nb hr_
  rw [if_pos c97] at H; have c97b := be2 c97; clear c97; have A98 := ak (show aQ.f true 221 = some () from rfl); have H' := ak H; clear H; obtain ⟨p219, q219, ad219, e219, hx219_0⟩ := wq (Kd.bB (Kd.aA IK.out).2.2 IJ); cases e219
  go_wp2_with (first | ((with_reducible refine au (f := 51) rfl ?_); refine gl 95 Try.func51 #[.bool true, .int .i64 221] ?_; (with_reducible refine (aQ.calls true 221  _ A98.out).mono ?_); rintro e w' ⟨rfl, ⟨nd, rfl⟩⟩; refine ⟨_, rfl, ?_⟩))
  go_roundg k3
  case measure => have := HK1.out; have := HK2.out; have := HK3.out; omega
  case rel => exact ⟨(wrap64 (IJ + 1)), sr, H', ⟨by have := HK1.out; have := HK2.out; have := HK3.out; omega⟩, ⟨rx IK.out⟩, xb iF, xb iq, xb iN, xb bC, ⟨lb⟩⟩
 rw [if_neg c94] at H; have c94b0 := decide_eq_false c94; clear c94; replace H := Option.bind_eq_some_iff.mp H; obtain ⟨aaR, abd, H⟩ := H; have A99 := ak abd; clear abd
 by_cases c100 : aaR = true
 rotate_left
 ·
  replace c100 := Bool.eq_false_iff.mpr c100; subst c100
  have H1 : (some (221, a2)) = some (r1, r2) := by rw [if_neg (show ¬ (false = true) by decide)] at H; exact H
  clear H; have H := H1; clear H1
  simp only [Option.some.injEq, Prod.mk.injEq] at H
  obtain ⟨rfl, rfl⟩ := H; exact nb hr_
 subst c100
 replace H := ip H; have A101 := ak (show aQ.f true 221 = some () from rfl); replace H := Option.bind_eq_some_iff.mp H; obtain ⟨⟨t221, t222⟩, SV, H⟩ := H; dsimp only at H
 by_cases VJ : t221 = 0
 rotate_left
 ·
  rw [if_neg VJ] at H; have A102 := ak SV; clear SV
  simp only [Option.some.injEq, Prod.mk.injEq] at H
  obtain ⟨rfl, rfl⟩ := H; exact nb hr_
 subst VJ
 replace H := ip H; have A102 := ak SV; clear SV; have H' := ak H; clear H; have ⟨_, _⟩ := nn Ab; have ⟨_, _⟩ := nn uy; have ⟨_, _⟩ := nn xW; have ⟨_, _, _, _⟩ := cf2 iF
 go_wp2_with (first | ((with_reducible refine au (f := 67) rfl ?_); refine gl 98 Try.func67 #[.agg #[.int .i64 ay, .slice bX ae.length bN]] ?_; (with_reducible refine (aM.calls k3 ay _ _ ae true _ (Kd.cZ bU.out lb) eU.out A99.out).mono ?_); rintro e w108 ⟨rfl, hb⟩; refine ⟨_, rfl, ?_⟩; replace IK := ak (ro IK hb); replace iF := ak (bo iF hb); replace iq := ak (bo iq hb); replace iN := ak (bo iN hb); replace bC := ak (bI (g := gbx) (o := .cells #[.int .i64 0] 30 (0, 0)) (bx bC.out) hb); replace HB := ak (bl hb); clear hb) | ((with_reducible refine au (f := 51) rfl ?_); refine gl 99 Try.func51 #[.bool true, .int .i64 221] ?_; (with_reducible refine (aQ.calls true 221  _ A101.out).mono ?_); rintro e w' ⟨rfl, ⟨nd, rfl⟩⟩; refine ⟨_, rfl, ?_⟩; have ⟨_, _, _, _⟩ := cf2 iF; have ⟨_, _⟩ := nn uz; have ⟨_, _⟩ := nn xX; have ⟨_, _, _, _⟩ := cf2 iq) | ((with_reducible refine au (f := 62) rfl ?_); refine gl 103 Try.func62 #[.agg #[.int .i64 ay, .slice bX ae.length bN], .slice nZ iB.length og, .int .i64 1] ?_; (with_reducible refine (bv.ok k3 ay _ _ ae _ _ iB 1 t222 _ (Kd.cZ bU.out lb) eU.out (Kd.cZ wH.out lb) Aa.out A102.out).mono ?_); rintro e w113 ⟨v223, rfl, ho0, hb⟩; refine ⟨_, rfl, ?_⟩; have abe := ak (Kd.bY (Kd.D8 (Kd.gF ho0 (Kd.mf (rx IK.out))) (g := pE) (o := .cells #[.int .i64 a2] 2 (0, 0)) (bx iN.out)) (ax lb)); replace IK := ak (Kd.dJ (rx IK.out) (Kd.fI ho0) hb); replace iF := ak (bo iF hb); replace iq := ak (bo iq hb); replace iN := ak (bo iN hb); replace bC := ak (bI (g := gbx) (o := .cells #[.int .i64 0] 30 (0, 0)) (bx bC.out) hb); replace HB := ak (bl hb); clear hb; (try clear ho0); obtain ⟨EB, EC, VK⟩ := Kd.bT abe.out; subst VK))
 go_loopg [105] k3 (fun kq v105 w' => ∃ (tO : Int), v105 = .int .i64 tO ∧ ag (aj.l3 kq t222 (t222.length : Int) tO ay ae dV iB a2 = some (r1, r2)) ∧ ag (kq ≤ k3) ∧ ag (Kd.R (Kd.int .i64) 2 w' w.heap.size (fun k_ => k_ ≠ pE) (.slice EB t222.length EC) t222) ∧ ag (w'.heap[wX]? = some (.cells #[.int .i64 ay, (.slice bX ae.length bN)] 24 (0, 0))) ∧ ag (w'.heap[wY]? = some (.cells #[(.slice pz dV.length oz), (.slice nZ iB.length og)] 51 (0, 0))) ∧ ag (w'.heap[pE]? = some (.cells #[.int .i64 a2] 2 (0, 0))) ∧ ag (w'.heap[gbx]? = some (.cells #[.int .i64 0] 30 (0, 0))) ∧ ag (Below w.heap.size w w'))
 case atStart => exact ⟨(0), sr, H', ⟨Nat.le_refl _⟩, ⟨by exact rx (Kd.cO abe.out (fun _ hk => hk.2))⟩, xb iF, xb iq, xb iN, xb bC, ⟨lb⟩⟩
 clear H'; obtain ⟨tO, rfl, HA, HK4, J2, iF, iq, iN, bC, HB⟩ := hrel
 cases gk with
 | zero => exact absurd HA.out (by simp [aj.l3])
 | succ k4 => ?_
 have H := HA.out; clear HA
 simp only [aj.l3] at H
 by_cases aaf : tO < (t222.length : Int)
 ·
  rw [if_pos aaf] at H; have abf := decide_eq_true aaf; clear aaf; replace H := if2 H; obtain ⟨c116b0, c117b0, H⟩ := H
  by_cases abg : (rd t222 tO) = 0
  ·
   rw [if_pos abg] at H; have c118b := be2 abg; clear abg; have A119 := ak (show aQ.f true 221 = some () from rfl); have H' := ak H; clear H; obtain ⟨p225, q225, ad225, e225, VL⟩ := wq (Kd.bB (Kd.aA J2.out).2.2 tO); cases e225
   go_wp2_with (first | ((with_reducible refine au (f := 51) rfl ?_); refine gl 124 Try.func51 #[.bool true, .int .i64 221] ?_; (with_reducible refine (aQ.calls true 221  _ A119.out).mono ?_); rintro e w' ⟨rfl, ⟨nd, rfl⟩⟩; refine ⟨_, rfl, ?_⟩))
   go_roundg k4
   case measure => have := HK1.out; have := HK2.out; have := HK3.out; have := HK4.out; omega
   case rel => exact ⟨(wrap64 (tO + 1)), sr, H', ⟨by have := HK1.out; have := HK2.out; have := HK3.out; have := HK4.out; omega⟩, ⟨rx J2.out⟩, xb iF, xb iq, xb iN, xb bC, ⟨lb⟩⟩
  rw [if_neg abg] at H; have c118b := bn2 abg
  by_cases KF : (rd t222 tO) > 0
  rotate_left
  ·
   rw [if_neg KF] at H; have MP := decide_eq_false KF; clear KF
   simp only [Option.some.injEq, Prod.mk.injEq] at H
   obtain ⟨rfl, rfl⟩ := H; exact nb hr_
  rw [if_pos KF] at H; have MP := decide_eq_true KF; clear KF; replace H := ifd H; obtain ⟨abh, H⟩ := H
  by_cases abj : (rd dV tO) = 1
  rotate_left
  ·
   rw [if_neg abj] at H; have c122b := bn2 abj
   simp only [Option.some.injEq, Prod.mk.injEq] at H
   obtain ⟨rfl, rfl⟩ := H; exact nb hr_
  rw [if_pos abj] at H; have c122b := be2 abj; clear abj; have A123 := ak (show aQ.f true 221 = some () from rfl); have H' := ak H; clear H; obtain ⟨p225, q225, ad225, e225, VL⟩ := wq (Kd.bB (Kd.aA J2.out).2.2 tO); cases e225; have ⟨_, _⟩ := nn Ac; have ⟨_, _⟩ := nn uz; have ⟨_, _⟩ := nn xX; have ⟨_, _, _, _⟩ := cf2 iq; obtain ⟨p226, q226, ad226, e226, MQ⟩ := wq (Kd.bB tX.out tO); cases e226
  (try replace MQ := hbc HB MQ)
  go_wp2_with (first | ((with_reducible refine au (f := 51) rfl ?_); refine gl 124 Try.func51 #[.bool true, .int .i64 221] ?_; (with_reducible refine (aQ.calls true 221  _ A123.out).mono ?_); rintro e w' ⟨rfl, ⟨nd, rfl⟩⟩; refine ⟨_, rfl, ?_⟩))
  go_roundg k4
  case measure => have := HK1.out; have := HK2.out; have := HK3.out; have := HK4.out; omega
  case rel => exact ⟨(wrap64 (tO + 1)), sr, H', ⟨by have := HK1.out; have := HK2.out; have := HK3.out; have := HK4.out; omega⟩, ⟨rx J2.out⟩, xb iF, xb iq, xb iN, xb bC, ⟨lb⟩⟩
 rw [if_neg aaf] at H; have abf := decide_eq_false aaf; clear aaf; have H' := ak H; clear H; have ⟨_, _⟩ := nn Ab; have ⟨_, _⟩ := nn uy; have ⟨_, _⟩ := nn xW; have ⟨_, _, _, _⟩ := cf2 iF
 go_wp2
 go_loopg [129] k4 (fun kq v129 w' => ∃ (iG : Int) (rR : Int), v129 = .int .i64 iG ∧ ag (aj.l4 kq ae (ae.length : Int) iG dV iB rR = some (r1, r2)) ∧ ag (kq ≤ k4) ∧ ag (w'.heap[wX]? = some (.cells #[.int .i64 ay, (.slice bX ae.length bN)] 24 (0, 0))) ∧ ag (w'.heap[wY]? = some (.cells #[(.slice pz dV.length oz), (.slice nZ iB.length og)] 51 (0, 0))) ∧ ag (w'.heap[pE]? = some (.cells #[.int .i64 rR] 2 (0, 0))) ∧ ag (w'.heap[gbx]? = some (.cells #[.int .i64 0] 30 (0, 0))) ∧ ag (Below w.heap.size w w'))
 case atStart => exact ⟨(0), (a2), sr, H', ⟨Nat.le_refl _⟩, xb iF, xb iq, xb iN, xb bC, ⟨lb⟩⟩
 clear H'; obtain ⟨iG, rR, rfl, HA, HK5, iF, iq, iN, bC, HB⟩ := hrel
 cases gk with
 | zero => exact absurd HA.out (by simp [aj.l4])
 | succ k5 => ?_
 have H := HA.out; clear HA
 simp only [aj.l4] at H
 by_cases aag : iG < (ae.length : Int)
 rotate_left
 ·
  rw [if_neg aag] at H; have abk := decide_eq_false aag; clear aag
  simp only [Option.some.injEq, Prod.mk.injEq] at H
  obtain ⟨rfl, rfl⟩ := H
  go_wp2
  first | go_end0 | ((try simp only [Exit.inBlock, Exit.then]); refine bodyPost_ret (results_none rfl _ _ _) rfl ?_)
  exact ⟨oQ.ok (by first | rfl | (simp <;> rfl)), (bx iN.out), (bx bC.out), lb⟩
 rw [if_pos aag] at H; have abk := decide_eq_true aag; clear aag; replace H := if3 H; obtain ⟨c137b0, c138b0, c139b0, H⟩ := H; have H' := ak H; clear H; obtain ⟨p227, q227, ad227, e227, MR, MS, MU, MV⟩ := wq (dU bU.out iG); cases e227
 (try replace MR := hbc HB MR)
 (try replace MS := hbc HB MS)
 (try replace MU := hbc HB MU)
 (try replace MV := hbc HB MV)
 try go_wp2_with (first | ((with_reducible refine aC (N := 13) rfl ?_); refine bxe 13 #[.int .i64 0, .int .i64 0, .int .i64 0, .int .i64 0] 98 ?_; intro mM hg VM hbox hb; have DJ := ak (hbox); have GW228 := ak (gw w hg); have GE228 := ak (gw w hg); have abl := ak (nl hg iF); have MW := ak (nr hg iF); have abm := ak (nl hg iq); have MX := ak (nr hg iq); have MZ := ak (nl hg iN); have Gx := ak (nr hg iN); have abn := ak ((by rw [hg]; exact Nat.ne_of_lt (eB (g := gbx) (o := .cells #[.int .i64 0] 30 (0, 0)) (bx bC.out)) : gbx ≠ mM)); have M0 := ak ((by rw [hg]; exact Nat.ne_of_gt (eB (g := gbx) (o := .cells #[.int .i64 0] 30 (0, 0)) (bx bC.out)) : mM ≠ gbx)); replace iF := ak (bo iF hb); replace iq := ak (bo iq hb); replace iN := ak (bo iN hb); replace bC := ak (bI (g := gbx) (o := .cells #[.int .i64 0] 30 (0, 0)) (bx bC.out) hb); replace HB := ak (bl hb); clear hb hbox hg; have ⟨_, _⟩ := nn MW; have ⟨_, _⟩ := nn MX; have ⟨_, _⟩ := nn Gx; have ⟨_, _⟩ := nn M0; have ⟨_, _, _, _, _, _, _, _⟩ := cf4 DJ))
 have n0_ : ag (((((VM.setCell ⟨mM, 0, none⟩ (.int .i64 ((aa ae iG).f0))).setCell ⟨mM, 1, none⟩ (.int .i64 ((aa ae iG).f1))).setCell ⟨mM, 2, none⟩ (.int .i64 ((aa ae iG).f2))).setCell ⟨mM, 3, none⟩ (.int .i64 ((aa ae iG).f3))).heap[wX]? = some (.cells #[.int .i64 ay, .slice (some ad227) ae.length bN] 24 (0, 0))) := ⟨bz⟩
 have n1_ : ag (((((VM.setCell ⟨mM, 0, none⟩ (.int .i64 ((aa ae iG).f0))).setCell ⟨mM, 1, none⟩ (.int .i64 ((aa ae iG).f1))).setCell ⟨mM, 2, none⟩ (.int .i64 ((aa ae iG).f2))).setCell ⟨mM, 3, none⟩ (.int .i64 ((aa ae iG).f3))).heap[wY]? = some (.cells #[.slice pz dV.length oz, .slice nZ iB.length og] 51 (0, 0))) := ⟨bz⟩
 have n2_ : ag (((((VM.setCell ⟨mM, 0, none⟩ (.int .i64 ((aa ae iG).f0))).setCell ⟨mM, 1, none⟩ (.int .i64 ((aa ae iG).f1))).setCell ⟨mM, 2, none⟩ (.int .i64 ((aa ae iG).f2))).setCell ⟨mM, 3, none⟩ (.int .i64 ((aa ae iG).f3))).heap[pE]? = some (.cells #[.int .i64 rR] 2 (0, 0))) := ⟨bz⟩
 have n3_ : ag (((((VM.setCell ⟨mM, 0, none⟩ (.int .i64 ((aa ae iG).f0))).setCell ⟨mM, 1, none⟩ (.int .i64 ((aa ae iG).f1))).setCell ⟨mM, 2, none⟩ (.int .i64 ((aa ae iG).f2))).setCell ⟨mM, 3, none⟩ (.int .i64 ((aa ae iG).f3))).heap[gbx]? = some (.cells #[.int .i64 0] 30 (0, 0))) := ⟨bz⟩
 have n4_ : ag (((((VM.setCell ⟨mM, 0, none⟩ (.int .i64 ((aa ae iG).f0))).setCell ⟨mM, 1, none⟩ (.int .i64 ((aa ae iG).f1))).setCell ⟨mM, 2, none⟩ (.int .i64 ((aa ae iG).f2))).setCell ⟨mM, 3, none⟩ (.int .i64 ((aa ae iG).f3))).heap[mM]? = some (.cells #[.int .i64 ((aa ae iG).f0), .int .i64 ((aa ae iG).f1), .int .i64 ((aa ae iG).f2), .int .i64 ((aa ae iG).f3)] 98 (0, 0))) := ⟨bz⟩
 have n5_ : ag (Below w.heap.size w ((((VM.setCell ⟨mM, 0, none⟩ (.int .i64 ((aa ae iG).f0))).setCell ⟨mM, 1, none⟩ (.int .i64 ((aa ae iG).f1))).setCell ⟨mM, 2, none⟩ (.int .i64 ((aa ae iG).f2))).setCell ⟨mM, 3, none⟩ (.int .i64 ((aa ae iG).f3)))) := ⟨lb⟩
 (try clear iF)
 (try clear iq)
 (try clear iN)
 (try clear bC)
 (try clear DJ)
 (try clear HB)
 generalize ((((VM.setCell ⟨mM, 0, none⟩ (.int .i64 ((aa ae iG).f0))).setCell ⟨mM, 1, none⟩ (.int .i64 ((aa ae iG).f1))).setCell ⟨mM, 2, none⟩ (.int .i64 ((aa ae iG).f2))).setCell ⟨mM, 3, none⟩ (.int .i64 ((aa ae iG).f3))) = w146 at n0_ n1_ n2_ n3_ n4_ n5_ ⊢
 have iF := n0_; have iq := n1_; have iN := n2_; have bC := n3_; have DJ := n4_; have HB := n5_; clear n0_ n1_ n2_ n3_ n4_ n5_; replace iF := ak (aK iF.out); replace iq := ak (aK iq.out); replace iN := ak (aK iN.out); replace bC := ak (aK bC.out); replace DJ := ak (aK DJ.out); replace HB := ak (bJ HB.out); obtain ⟨p229, q229, ad229, e229, ED⟩ := wq (Kd.bB tX.out iG); have VN := ED; cases e229
 (try replace ED := hbc HB ED)
 refine stC 11 [10] (cX (bc0 iN) (cX (bc0 DJ) (cX (bc1 DJ) (cX (bc2 DJ) (cX (bc3 DJ) (cX (bc0 iq) (cX (bc1 iq) (cY (hbc HB VN))))))))) aj.tab29 aj.aaS fun hHeld HT_ HW_ => ?_
 generalize w146.drew = w147 at iF iq iN bC DJ HB ED hHeld ⊢
 refine pv HT_ 1 135 ?_; refine pv HT_ 3 137 ?_; refine pv HT_ 5 139 ?_; refine tv HT_ HW_ hHeld 0 134 ?_; refine tv HT_ HW_ hHeld 2 136 ?_; refine tv HT_ HW_ hHeld 4 138 ?_; refine pv HT_ 6 140 ?_; refine tv HT_ HW_ hHeld 7 141 ?_; refine pv HT_ 8 142 ?_; refine pv HT_ 9 143 ?_
 refine um (i := 10) (N := none) #[T, T, T, T, T, T, T, T, T, T, T] rfl rfl (gP HT_.out (by kernel_rfl)) (by decide) (fun K hK => ?_)
 have hs148 : w147.cell? ⟨pE, 0, none⟩ = some (.int .i64 rR) := (aH iN.out 0).trans rfl; have hfs148 := bf iN 0; have hns148_0 := uy.out; have hns148_1 := uz.out; have hns148_3 := Mi.out; have hns148_4 := Gx.out; have hms148_0 := Mf.out; have hms148_1 := Mg.out; have hms148_3 := Mh.out; have hms148_4 := MZ.out
 refine tV (w1 := ?_) (by rfl) rfl ?_ ?_
 rotate_left
 ·
  go_simp
  rfl
 refine hK.out _ _ ?_
 clear hK K
 refine kN (fV HT_.out (by kernel_rfl)) ?_
 try go_wp2
 go_roundg k5
 case measure => have := HK1.out; have := HK2.out; have := HK3.out; have := HK4.out; have := HK5.out; omega
 case rel => exact ⟨(wrap64 (iG + 1)), (wrap64 (rR + (wrap64 (((aa ae iG).f3) * (rd dV iG))))), sr, H', ⟨by have := HK1.out; have := HK2.out; have := HK3.out; have := HK4.out; have := HK5.out; omega⟩, ⟨bz⟩, ⟨bz⟩, ⟨bz⟩, ⟨bz⟩, ⟨lb⟩⟩
end Go.Proofs.Ytkdoihcjhccliaa.Q
