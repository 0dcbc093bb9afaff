import Derived.Test.YtkdoihcjhccliaaK
import Derived.Test.YtkdoihcjhccliaaQ0
import Derived.Test.YtkdoihcjhccliaaQ3
namespace Go.Proofs.Ytkdoihcjhccliaa.Q
open Go.RowKit Go.Proofs.YtkdoihcjhccliaaW.PrintWords Go.Proofs.YtkdoihcjhccliaaW.PrintLast Go.Proofs.YtkdoihcjhccliaaW.PrintMore
attribute [local go_sem] dF dG eG eH cz cB dH dI   -- for this text's walks alone
set_option linter.unusedVariables false
set_option linter.unusedSimpArgs false

/-! ### aY: function 52 -/
def aY.l0 : Nat → List Int → List Int → List (S98) → Int → Int → Option (Int × List Int)
  | 0, _, _, _, _, _ => none
  | k + 1, x1, x5, x19, x20, x21 => if x21 < x20 then (if 0 ≤ x21 then (if x21 < (x19.length : Int) then (if x21 < (x1.length : Int) then (if (rd x1 x21) ≥ 0 then (if (rd x1 x21) ≤ ((aa x19 x21).f2) then (if 0 ≤ ((aa x19 x21).f0) then (if ((aa x19 x21).f0) < (x5.length : Int) then ((some (x5.set (((aa x19 x21).f0) : Int).toNat (wrap64 ((rd x5 ((aa x19 x21).f0)) + (rd x1 x21))) : List Int)).bind fun Sg => (if 0 ≤ ((aa x19 x21).f1) then (if ((aa x19 x21).f1) < (x5.length : Int) then (aY.l0 k x1 (Sg.set (((aa x19 x21).f1) : Int).toNat (wrap64 ((rd Sg ((aa x19 x21).f1)) - (rd x1 x21)))) x19 x20 (wrap64 (x21 + 1))) else (none)) else (none))) else (none)) else (none)) else (some (221, ([] : List Int)))) else (some (221, ([] : List Int)))) else (none)) else (none)) else (none)) else (some (0, x5))
def aY.f (k : Nat) (ay : Int) (ae : List (S98)) (l1 : List Int) : Option (Int × List Int) := if (l1.length : Int) = (ae.length : Int) then (if 0 ≤ ay then (if (ay : Int).toNat ≤ 35184372088832 then (aY.l0 k l1 (List.replicate (ay : Int).toNat 0) ae (ae.length : Int) 0) else (none)) else (none)) else (some (221, ([] : List Int)))
def aY.T6 : Bool × List (List Nat × List Nat) := (true, [([], []), ([], []), ([0, 1], [0, 1]), ([2], [2]), ([3], [3]), ([4], [4]), ([5], [5]), ([5], [5]), ([6, 7, 5], [5, 6, 7]), ([8, 5], [5, 8]), ([5], [5]), ([10, 5], [5, 10]), ([9, 11, 5], [5, 9, 11]), ([5, 12], [5, 12]), ([13, 5], [13])])
def aY.B6 : List Nat := [0, 0, 3, 7, 15, 31, 63, 63, 255, 511, 63, 1087, 4095, 8191, 16383]
theorem aY.UK : oO .any (opsOf Try.f52 6) = aY.T6 := by kernel_rfl
theorem aY.GG : gM aY.T6.2 aY.B6 = true := by kernel_rfl
def aY.T7 : Bool × List (List Nat × List Nat) := (true, [([], []), ([], []), ([1], [1]), ([0, 2], [0, 2]), ([3], [3]), ([], []), ([], []), ([5, 6], [5, 6]), ([7], [7]), ([4, 8], [4, 8]), ([0, 2, 0, 1, 2, 3, 4, 5, 6, 7, 8, 9], [0, 2]), ([10, 9, 0, 1, 2, 3, 4, 5, 6, 7, 8, 9], [9, 10])])
def aY.B7 : List Nat := [0, 0, 2, 7, 15, 0, 0, 96, 224, 511, 1023, 2047]
theorem aY.UL : oO .any (opsOf Try.f52 7) = aY.T7 := by kernel_rfl
theorem aY.GH : gM aY.T7.2 aY.B7 = true := by kernel_rfl
def aY.T8 : Bool × List (List Nat × List Nat) := (true, [([], []), ([], []), ([1], [1]), ([0, 2], [0, 2]), ([3], [3]), ([], []), ([], []), ([5, 6], [5, 6]), ([7], [7]), ([4, 8], [4, 8]), ([0, 2, 0, 1, 2, 3, 4, 5, 6, 7, 8, 9], [0, 2]), ([10, 9, 0, 1, 2, 3, 4, 5, 6, 7, 8, 9], [9, 10])])
def aY.B8 : List Nat := [0, 0, 2, 7, 15, 0, 0, 96, 224, 511, 1023, 2047]
theorem aY.tab8 : oO .any (opsOf Try.f52 8) = aY.T8 := by kernel_rfl
theorem aY.WB : gM aY.T8.2 aY.B8 = true := by kernel_rfl
set_option maxHeartbeats 8000000 in
set_option maxRecDepth 100000 in
theorem aY.calls (k : Nat) (ay : Int) (bX : Option Addr) (bN : Nat) (ae : List (S98)) (A1 : Option Addr) (c1 : Nat) (l1 : List Int) (r1 : Int) (r2 : List Int) (w : World) (dB : Kd.C k98 w bX ae.length ae) (dC : ae.length ≤ bN) (hr1 : Kd.C (Kd.int .i64) w A1 l1.length l1) (hc1 : l1.length ≤ c1) (h : aY.f k ay ae l1 = some (r1, r2)) :
    Calls Try.prog 52 #[.agg #[.int .i64 ay, .slice bX ae.length bN], .slice A1 l1.length c1] w fun e w' => oQ r1 (∃ v1_ : Value, e = .returned (v1_) ∧ Kd.R (Kd.int .i64) 2 w' w.heap.size (fun _ => True) v1_ r2 ∧ Below w.heap.size w w') (e = gave r1 ∧ Below w.heap.size w w') := by
 have hu24 := Try.underlying24; have hu98 := Try.underlying98; have bU := ak dB; have eU := ak dC; clear dB dC; have HR1 := ak hr1; have HC1 := ak hc1; clear hr1 hc1; have HB := ak (Below.refl w.heap.size w); have H : (if (l1.length : Int) = (ae.length : Int) then (if 0 ≤ ay then (if (ay : Int).toNat ≤ 35184372088832 then (aY.l0 k l1 (List.replicate (ay : Int).toNat 0) ae (ae.length : Int) 0) else (none)) else (none)) else (some (221, ([] : List Int)))) = some (r1, r2) := h; clear h
 by_cases c3 : (l1.length : Int) = (ae.length : Int)
 rotate_left
 ·
  rw [if_neg c3] at H; have c3b := bn2 c3; have c3b2 : (l1.length == ae.length) = false := by first | simpa using c3 | (simp at c3 ⊢; omega)
  simp only [Option.some.injEq, Prod.mk.injEq] at H
  obtain ⟨rfl, rfl⟩ := H
  go_enter Try.func52, Try.ntmps52
  go_wp2_with (first | ((with_reducible refine aC (N := 2) rfl ?_); refine bxe 2 #[.int .i64 ay, .slice bX ae.length bN] 24 ?_; intro IZ hg w46 hbox hb; have n_ := a4 (bl hb) hbox (gw w hg) (gw w hg); clear HB; obtain ⟨HB, iQ, GW112, WC⟩ := n_; clear hb hbox hg; have ⟨_, _, _, _⟩ := cf2 iQ) | ((with_reducible refine au (f := 51) rfl ?_); refine pl 14 Try.func51 #[.bool false, .int .i64 221] ?_; refine (aQ.bad 221 _).mono ?_; rintro e w' ⟨rfl, rfl⟩; refine ⟨_, rfl, ?_⟩; (repeat (first | refine fO ?_ | refine fu ?_)); exact fP rfl (oQ.no da ⟨rfl, lb⟩)))
 rw [if_pos c3] at H; have c3b := be2 c3; have c3b2 : (l1.length == ae.length) = true := by first | simpa using c3 | (simp at c3 ⊢; omega)
 clear c3; have A4 := ak (show aQ.f true 221 = some () from rfl); replace H := ife H; obtain ⟨c5b0, c5b1, H⟩ := H; replace H := ife H; obtain ⟨c6b0, c6b1, H⟩ := H; obtain ⟨y113, hy113⟩ : ∃ y_ : List Int, y_ = (List.replicate (ay : Int).toNat 0) := ⟨_, rfl⟩; replace H : (aY.l0 k l1 y113 ae (ae.length : Int) 0) = some (r1, r2) := by first | (rw [hy113]; exact H) | exact H
 have ab3 := ak hy113; clear hy113; have H' := ak H; clear H
 go_enter Try.func52, Try.ntmps52
 go_wp2_with (first | ((with_reducible refine aC (N := 2) rfl ?_); refine bxe 2 #[.int .i64 ay, .slice bX ae.length bN] 24 ?_; intro IZ hg w7 hbox hb; have n_ := a4 (bl hb) hbox (gw w hg) (gw w hg); clear HB; obtain ⟨HB, iQ, GW112, WC⟩ := n_; clear hb hbox hg; have ⟨_, _, _, _⟩ := cf2 iQ) | ((with_reducible refine au (f := 51) rfl ?_); refine gl 14 Try.func51 #[.bool true, .int .i64 221] ?_; (with_reducible refine (aQ.calls true 221  _ A4.out).mono ?_); rintro e w' ⟨rfl, ⟨nd, rfl⟩⟩; refine ⟨_, rfl, ?_⟩) | ((with_reducible refine aC (N := 17) rfl ?_); refine Kd.ni (Kd.int .i64) _ 2 rfl (N := 17) rfl 25 _ _ rfl ay rfl rfl Try.underlying25 (.int .i64 0) 8 wW rfl (by decide) (by omega) 0 (ok := fun _ => True) (okp := fun _ => True) rfl (fun _ hk => hk) trivial (oda) (Nat.le_trans (Nat.mul_le_mul_right _ (oda : ay.toNat ≤ 35184372088832)) (by omega)) (Below.refl _ _) (Nat.le_refl _) ?_; intro ab4 w9 ho10 hb hg_ hnew_; clear hg_ hnew_; (first | rw [← ab3.out] at ho10 | (simp only [Int.reduceToNat] at ho10; rw [← ab3.out] at ho10)); have n_ := a3 (Kd.bY ho10 (ax lb)) (bo iQ hb) (bl hb); clear iQ HB; obtain ⟨HO115, iQ, HB⟩ := n_; clear hb ho10; have ⟨_, _, _, _⟩ := cf2 iQ))
 go_loopg [21] k (fun kq v21 w' => ∃ (bV : List Int) (df : Int), v21 = .int .i64 df ∧ ag (aY.l0 kq l1 bV ae (ae.length : Int) df = some (r1, r2)) ∧ ag (kq ≤ k) ∧ ag (Kd.R (Kd.int .i64) 2 w' w.heap.size (fun _ => True) ab4 bV) ∧ ag (w'.heap[IZ]? = some (.cells #[.int .i64 ay, (.slice bX ae.length bN)] 24 (0, 0))) ∧ ag (Below w.heap.size w w'))
 case atStart => exact ⟨(y113), (0), sr, H', ⟨Nat.le_refl _⟩, ⟨rx HO115.out⟩, xb iQ, ⟨lb⟩⟩
 clear H'; obtain ⟨bV, df, rfl, HA, HK1, fJ, iQ, HB⟩ := hrel
 cases gk with
 | zero => exact absurd HA.out (by simp [aY.l0])
 | succ k1 => ?_
 have H := HA.out; clear HA
 simp only [aY.l0] at H
 by_cases c12 : df < (ae.length : Int)
 rotate_left
 ·
  rw [if_neg c12] at H; have c12b0 := decide_eq_false c12; clear c12
  simp only [Option.some.injEq, Prod.mk.injEq] at H
  obtain ⟨rfl, rfl⟩ := H
  go_wp2
  go_ret
  exact oQ.ok ⟨_, by first | rfl | (simp [dx, dz] <;> rfl) | (simp [*, dx, dz] <;> rfl), by exact rx fJ.out, lb⟩
 rw [if_pos c12] at H; have c12b0 := decide_eq_true c12; clear c12; replace H := if3 H; obtain ⟨c13b0, c14b0, c15b0, H⟩ := H
 by_cases c16 : (rd l1 df) ≥ 0
 rotate_left
 ·
  rw [if_neg c16] at H; have c16b0 := decide_eq_false c16; clear c16
  simp only [Option.some.injEq, Prod.mk.injEq] at H
  obtain ⟨rfl, rfl⟩ := H; obtain ⟨p116, q116, I1, e116, uN, uO, uP, uQ⟩ := wq (dU bU.out df); cases e116
  (try replace uN := hbc HB uN)
  (try replace uO := hbc HB uO)
  (try replace uP := hbc HB uP)
  (try replace uQ := hbc HB uQ)
  try go_wp2_with (first | ((with_reducible refine aC (N := 7) rfl ?_); refine bxe 7 #[.int .i64 0, .int .i64 0, .int .i64 0, .int .i64 0] 98 ?_; intro gH hg w41 hbox hb; have n_ := a8 (ro fJ hb) (bo iQ hb) (bl hb) hbox (gw w hg) (gw w hg) (nl hg iQ) (nr hg iQ); clear fJ iQ HB; obtain ⟨fJ, iQ, HB, iJ, ab5, Tc, GI, uR⟩ := n_; clear hb hbox hg; have ⟨_, _⟩ := nn uR; have ⟨_, _, _, _, _, _, _, _⟩ := cf4 iJ))
  have n0_ : ag (Kd.R (Kd.int .i64) 2 ((((w41.setCell ⟨gH, 0, none⟩ (.int .i64 ((aa ae df).f0))).setCell ⟨gH, 1, none⟩ (.int .i64 ((aa ae df).f1))).setCell ⟨gH, 2, none⟩ (.int .i64 ((aa ae df).f2))).setCell ⟨gH, 3, none⟩ (.int .i64 ((aa ae df).f3))) w.heap.size (fun _ => True) ab4 bV) := ⟨by exact rx (Kd.cO (Kd.dN (p := ⟨gH, 3, none⟩) (Kd.dN (p := ⟨gH, 2, none⟩) (Kd.dN (p := ⟨gH, 1, none⟩) (Kd.dN (p := ⟨gH, 0, none⟩) (Kd.fC fJ.out iJ.out (by decide)) (fun _ hk => hk.2) (.int .i64 ((aa ae df).f0))) (fun _ hk => hk.2) (.int .i64 ((aa ae df).f1))) (fun _ hk => hk.2) (.int .i64 ((aa ae df).f2))) (fun _ hk => hk.2) (.int .i64 ((aa ae df).f3))) (fun _ hk => trivial))⟩
  have n1_ : ag (((((w41.setCell ⟨gH, 0, none⟩ (.int .i64 ((aa ae df).f0))).setCell ⟨gH, 1, none⟩ (.int .i64 ((aa ae df).f1))).setCell ⟨gH, 2, none⟩ (.int .i64 ((aa ae df).f2))).setCell ⟨gH, 3, none⟩ (.int .i64 ((aa ae df).f3))).heap[IZ]? = some (.cells #[.int .i64 ay, .slice (some I1) ae.length bN] 24 (0, 0))) := ⟨bz⟩
  have n2_ : ag (((((w41.setCell ⟨gH, 0, none⟩ (.int .i64 ((aa ae df).f0))).setCell ⟨gH, 1, none⟩ (.int .i64 ((aa ae df).f1))).setCell ⟨gH, 2, none⟩ (.int .i64 ((aa ae df).f2))).setCell ⟨gH, 3, none⟩ (.int .i64 ((aa ae df).f3))).heap[gH]? = some (.cells #[.int .i64 ((aa ae df).f0), .int .i64 ((aa ae df).f1), .int .i64 ((aa ae df).f2), .int .i64 ((aa ae df).f3)] 98 (0, 0))) := ⟨bz⟩
  have n3_ : ag (Below w.heap.size w ((((w41.setCell ⟨gH, 0, none⟩ (.int .i64 ((aa ae df).f0))).setCell ⟨gH, 1, none⟩ (.int .i64 ((aa ae df).f1))).setCell ⟨gH, 2, none⟩ (.int .i64 ((aa ae df).f2))).setCell ⟨gH, 3, none⟩ (.int .i64 ((aa ae df).f3)))) := ⟨lb⟩
  (try clear fJ)
  (try clear iQ)
  (try clear iJ)
  (try clear HB)
  generalize ((((w41.setCell ⟨gH, 0, none⟩ (.int .i64 ((aa ae df).f0))).setCell ⟨gH, 1, none⟩ (.int .i64 ((aa ae df).f1))).setCell ⟨gH, 2, none⟩ (.int .i64 ((aa ae df).f2))).setCell ⟨gH, 3, none⟩ (.int .i64 ((aa ae df).f3))) = w44 at n0_ n1_ n2_ n3_ ⊢
  have fJ := n0_; have iQ := n1_; have iJ := n2_; have HB := n3_; clear n0_ n1_ n2_ n3_; have n_ := a4 (Kd.fH fJ.out) (aK iQ.out) (aK iJ.out) (bJ HB.out); clear fJ iQ iJ HB; obtain ⟨fJ, iQ, iJ, HB⟩ := n_; obtain ⟨p118, q118, KJ, e118, nQ⟩ := wq (Kd.bB HR1.out df); have yT := nQ; cases e118
  (try replace nQ := hbc HB nQ)
  refine stC 15 [] (cY ((hbc HB yT))) aY.UK aY.GG fun hHeld HT_ HW_ => ?_
  generalize w44.drew = w45 at fJ iQ iJ HB nQ hHeld ⊢
  refine pv HT_ 0 26 ?_; refine pv HT_ 1 27 ?_; refine pv HT_ 2 28 ?_; refine tv HT_ HW_ hHeld 3 29 ?_; refine pv HT_ 4 30 ?_; refine pv HT_ 5 31 ?_; refine pu HT_ 6 32 ?_; refine pu HT_ 7 33 ?_; refine pu HT_ 8 34 ?_; refine pu HT_ 9 35 ?_; refine pu HT_ 10 36 ?_; refine pu HT_ 11 37 ?_; refine pu HT_ 12 38 ?_; refine pv HT_ 13 39 ?_
  refine wT (i := 14) (N := some 40) #[T, T, T, T, T, T, T, T, T, T, T, T, T, T, T] rfl rfl (gP HT_.out (by kernel_rfl)) (by decide) (fun K hK => ?_)
  refine Md Try.func51 (by kernel_rfl) rfl #[.bool false, .int .i64 221] (by rfl) rfl rfl (by (try simp only [List.map_toArray, List.map_cons, List.map_nil]); first | done | rfl | (simp only [List.length_drop, List.length_take]; rfl)) ?_
  refine (aQ.bad 221 _).mono ?_
  rintro e w' ⟨rfl, rfl⟩
  refine ⟨_, rfl, ?_⟩
  (repeat (first | refine fO ?_ | refine fu ?_))
  exact fP rfl (oQ.no da ⟨rfl, lb⟩)
  try go_wp2
 rw [if_pos c16] at H; have c16b0 := decide_eq_true c16; clear c16
 by_cases c17 : (rd l1 df) ≤ ((aa ae df).f2)
 rotate_left
 ·
  rw [if_neg c17] at H; have c17b0 := decide_eq_false c17; clear c17
  simp only [Option.some.injEq, Prod.mk.injEq] at H
  obtain ⟨rfl, rfl⟩ := H; obtain ⟨p116, q116, I1, e116, uN, uO, uP, uQ⟩ := wq (dU bU.out df); cases e116
  (try replace uN := hbc HB uN)
  (try replace uO := hbc HB uO)
  (try replace uP := hbc HB uP)
  (try replace uQ := hbc HB uQ)
  try go_wp2_with (first | ((with_reducible refine aC (N := 7) rfl ?_); refine bxe 7 #[.int .i64 0, .int .i64 0, .int .i64 0, .int .i64 0] 98 ?_; intro gH hg w36 hbox hb; have n_ := a8 (ro fJ hb) (bo iQ hb) (bl hb) hbox (gw w hg) (gw w hg) (nl hg iQ) (nr hg iQ); clear fJ iQ HB; obtain ⟨fJ, iQ, HB, iJ, ab5, Tc, GI, uR⟩ := n_; clear hb hbox hg; have ⟨_, _⟩ := nn uR; have ⟨_, _, _, _, _, _, _, _⟩ := cf4 iJ))
  have n0_ : ag (Kd.R (Kd.int .i64) 2 ((((w36.setCell ⟨gH, 0, none⟩ (.int .i64 ((aa ae df).f0))).setCell ⟨gH, 1, none⟩ (.int .i64 ((aa ae df).f1))).setCell ⟨gH, 2, none⟩ (.int .i64 ((aa ae df).f2))).setCell ⟨gH, 3, none⟩ (.int .i64 ((aa ae df).f3))) w.heap.size (fun _ => True) ab4 bV) := ⟨by exact rx (Kd.cO (Kd.dN (p := ⟨gH, 3, none⟩) (Kd.dN (p := ⟨gH, 2, none⟩) (Kd.dN (p := ⟨gH, 1, none⟩) (Kd.dN (p := ⟨gH, 0, none⟩) (Kd.fC fJ.out iJ.out (by decide)) (fun _ hk => hk.2) (.int .i64 ((aa ae df).f0))) (fun _ hk => hk.2) (.int .i64 ((aa ae df).f1))) (fun _ hk => hk.2) (.int .i64 ((aa ae df).f2))) (fun _ hk => hk.2) (.int .i64 ((aa ae df).f3))) (fun _ hk => trivial))⟩
  have n1_ : ag (((((w36.setCell ⟨gH, 0, none⟩ (.int .i64 ((aa ae df).f0))).setCell ⟨gH, 1, none⟩ (.int .i64 ((aa ae df).f1))).setCell ⟨gH, 2, none⟩ (.int .i64 ((aa ae df).f2))).setCell ⟨gH, 3, none⟩ (.int .i64 ((aa ae df).f3))).heap[IZ]? = some (.cells #[.int .i64 ay, .slice (some I1) ae.length bN] 24 (0, 0))) := ⟨bz⟩
  have n2_ : ag (((((w36.setCell ⟨gH, 0, none⟩ (.int .i64 ((aa ae df).f0))).setCell ⟨gH, 1, none⟩ (.int .i64 ((aa ae df).f1))).setCell ⟨gH, 2, none⟩ (.int .i64 ((aa ae df).f2))).setCell ⟨gH, 3, none⟩ (.int .i64 ((aa ae df).f3))).heap[gH]? = some (.cells #[.int .i64 ((aa ae df).f0), .int .i64 ((aa ae df).f1), .int .i64 ((aa ae df).f2), .int .i64 ((aa ae df).f3)] 98 (0, 0))) := ⟨bz⟩
  have n3_ : ag (Below w.heap.size w ((((w36.setCell ⟨gH, 0, none⟩ (.int .i64 ((aa ae df).f0))).setCell ⟨gH, 1, none⟩ (.int .i64 ((aa ae df).f1))).setCell ⟨gH, 2, none⟩ (.int .i64 ((aa ae df).f2))).setCell ⟨gH, 3, none⟩ (.int .i64 ((aa ae df).f3)))) := ⟨lb⟩
  (try clear fJ)
  (try clear iQ)
  (try clear iJ)
  (try clear HB)
  generalize ((((w36.setCell ⟨gH, 0, none⟩ (.int .i64 ((aa ae df).f0))).setCell ⟨gH, 1, none⟩ (.int .i64 ((aa ae df).f1))).setCell ⟨gH, 2, none⟩ (.int .i64 ((aa ae df).f2))).setCell ⟨gH, 3, none⟩ (.int .i64 ((aa ae df).f3))) = w39 at n0_ n1_ n2_ n3_ ⊢
  have fJ := n0_; have iQ := n1_; have iJ := n2_; have HB := n3_; clear n0_ n1_ n2_ n3_; have n_ := a4 (Kd.fH fJ.out) (aK iQ.out) (aK iJ.out) (bJ HB.out); clear fJ iQ iJ HB; obtain ⟨fJ, iQ, iJ, HB⟩ := n_; obtain ⟨p118, q118, KJ, e118, nQ⟩ := wq (Kd.bB HR1.out df); have yT := nQ; cases e118
  (try replace nQ := hbc HB nQ); obtain ⟨p119, q119, WE, e119, sK⟩ := wq (Kd.bB HR1.out df); have EK := sK
  obtain rfl : KJ = WE := (by injection e119)
  (try replace sK := hbc HB sK)
  refine stC 15 [] (cX (bc0 iJ) (cX (bc1 iJ) (cX (bc2 iJ) (cX (bc3 iJ) (cX (hbc HB yT) (cY (hbc HB EK))))))) aY.UK aY.GG fun hHeld HT_ HW_ => ?_
  generalize w39.drew = w40 at fJ iQ iJ HB nQ sK hHeld ⊢
  refine pv HT_ 0 26 ?_; refine pv HT_ 1 27 ?_; refine pv HT_ 2 28 ?_; refine tv HT_ HW_ hHeld 3 29 ?_; refine pv HT_ 4 30 ?_; refine pv HT_ 5 31 ?_; refine pv HT_ 6 32 ?_; refine pv HT_ 7 33 ?_; refine pv HT_ 8 34 ?_; refine pv HT_ 10 36 ?_; refine tv HT_ HW_ hHeld 9 35 ?_; refine tv HT_ HW_ hHeld 11 37 ?_; refine pv HT_ 12 38 ?_; refine pv HT_ 13 39 ?_
  refine wT (i := 14) (N := some 40) #[T, T, T, T, T, T, T, T, T, T, T, T, T, T, T] rfl rfl (gP HT_.out (by kernel_rfl)) (by decide) (fun K hK => ?_)
  refine Md Try.func51 (by kernel_rfl) rfl #[.bool false, .int .i64 221] (by rfl) rfl rfl (by (try simp only [List.map_toArray, List.map_cons, List.map_nil]); first | done | rfl | (simp only [List.length_drop, List.length_take]; rfl)) ?_
  refine (aQ.bad 221 _).mono ?_
  rintro e w' ⟨rfl, rfl⟩
  refine ⟨_, rfl, ?_⟩
  (repeat (first | refine fO ?_ | refine fu ?_))
  exact fP rfl (oQ.no da ⟨rfl, lb⟩)
  try go_wp2
 rw [if_pos c17] at H; have c17b0 := decide_eq_true c17; clear c17; have A18 := ak (show aQ.f true 221 = some () from rfl); replace H := if2 H; obtain ⟨c19b0, c20b0, H⟩ := H; obtain ⟨Sg, WF⟩ : ∃ y_ : List Int, y_ = (bV.set (((aa ae df).f0) : Int).toNat (wrap64 ((rd bV ((aa ae df).f0)) + (rd l1 df)))) := ⟨_, rfl⟩; replace H : (if 0 ≤ ((aa ae df).f1) then (if ((aa ae df).f1) < (bV.length : Int) then (aY.l0 k1 l1 (Sg.set (((aa ae df).f1) : Int).toNat (wrap64 ((rd Sg ((aa ae df).f1)) - (rd l1 df)))) ae (ae.length : Int) (wrap64 (df + 1))) else (none)) else (none)) = some (r1, r2) := by first | (rw [WF]; exact H) | exact H
 have ab6 := ak WF; clear WF; replace H := if2 H; obtain ⟨c22b0, c23b0, H⟩ := H; obtain ⟨y125, WG⟩ : ∃ y_ : List Int, y_ = (Sg.set (((aa ae df).f1) : Int).toNat (wrap64 ((rd Sg ((aa ae df).f1)) - (rd l1 df)))) := ⟨_, rfl⟩; replace H : (aY.l0 k1 l1 y125 ae (ae.length : Int) (wrap64 (df + 1))) = some (r1, r2) := by first | (rw [WG]; exact H) | exact H
 have Ny125 := ak WG; clear WG; have H' := ak H; clear H; obtain ⟨p116, q116, I1, e116, uN, uO, uP, uQ⟩ := wq (dU bU.out df); cases e116
 (try replace uN := hbc HB uN)
 (try replace uO := hbc HB uO)
 (try replace uP := hbc HB uP)
 (try replace uQ := hbc HB uQ)
 try go_wp2_with (first | ((with_reducible refine aC (N := 7) rfl ?_); refine bxe 7 #[.int .i64 0, .int .i64 0, .int .i64 0, .int .i64 0] 98 ?_; intro gH hg w25 hbox hb; have n_ := a8 (ro fJ hb) (bo iQ hb) (bl hb) hbox (gw w hg) (gw w hg) (nl hg iQ) (nr hg iQ); clear fJ iQ HB; obtain ⟨fJ, iQ, HB, iJ, ab5, Tc, GI, uR⟩ := n_; clear hb hbox hg; have ⟨_, _⟩ := nn uR; have ⟨_, _, _, _, _, _, _, _⟩ := cf4 iJ))
 have n0_ : ag (Kd.R (Kd.int .i64) 2 ((((w25.setCell ⟨gH, 0, none⟩ (.int .i64 ((aa ae df).f0))).setCell ⟨gH, 1, none⟩ (.int .i64 ((aa ae df).f1))).setCell ⟨gH, 2, none⟩ (.int .i64 ((aa ae df).f2))).setCell ⟨gH, 3, none⟩ (.int .i64 ((aa ae df).f3))) w.heap.size (fun _ => True) ab4 bV) := ⟨by exact rx (Kd.cO (Kd.dN (p := ⟨gH, 3, none⟩) (Kd.dN (p := ⟨gH, 2, none⟩) (Kd.dN (p := ⟨gH, 1, none⟩) (Kd.dN (p := ⟨gH, 0, none⟩) (Kd.fC fJ.out iJ.out (by decide)) (fun _ hk => hk.2) (.int .i64 ((aa ae df).f0))) (fun _ hk => hk.2) (.int .i64 ((aa ae df).f1))) (fun _ hk => hk.2) (.int .i64 ((aa ae df).f2))) (fun _ hk => hk.2) (.int .i64 ((aa ae df).f3))) (fun _ hk => trivial))⟩
 have n1_ : ag (((((w25.setCell ⟨gH, 0, none⟩ (.int .i64 ((aa ae df).f0))).setCell ⟨gH, 1, none⟩ (.int .i64 ((aa ae df).f1))).setCell ⟨gH, 2, none⟩ (.int .i64 ((aa ae df).f2))).setCell ⟨gH, 3, none⟩ (.int .i64 ((aa ae df).f3))).heap[IZ]? = some (.cells #[.int .i64 ay, .slice (some I1) ae.length bN] 24 (0, 0))) := ⟨bz⟩
 have n2_ : ag (((((w25.setCell ⟨gH, 0, none⟩ (.int .i64 ((aa ae df).f0))).setCell ⟨gH, 1, none⟩ (.int .i64 ((aa ae df).f1))).setCell ⟨gH, 2, none⟩ (.int .i64 ((aa ae df).f2))).setCell ⟨gH, 3, none⟩ (.int .i64 ((aa ae df).f3))).heap[gH]? = some (.cells #[.int .i64 ((aa ae df).f0), .int .i64 ((aa ae df).f1), .int .i64 ((aa ae df).f2), .int .i64 ((aa ae df).f3)] 98 (0, 0))) := ⟨bz⟩
 have n3_ : ag (Below w.heap.size w ((((w25.setCell ⟨gH, 0, none⟩ (.int .i64 ((aa ae df).f0))).setCell ⟨gH, 1, none⟩ (.int .i64 ((aa ae df).f1))).setCell ⟨gH, 2, none⟩ (.int .i64 ((aa ae df).f2))).setCell ⟨gH, 3, none⟩ (.int .i64 ((aa ae df).f3)))) := ⟨lb⟩
 (try clear fJ)
 (try clear iQ)
 (try clear iJ)
 (try clear HB)
 generalize ((((w25.setCell ⟨gH, 0, none⟩ (.int .i64 ((aa ae df).f0))).setCell ⟨gH, 1, none⟩ (.int .i64 ((aa ae df).f1))).setCell ⟨gH, 2, none⟩ (.int .i64 ((aa ae df).f2))).setCell ⟨gH, 3, none⟩ (.int .i64 ((aa ae df).f3))) = w28 at n0_ n1_ n2_ n3_ ⊢
 have fJ := n0_; have iQ := n1_; have iJ := n2_; have HB := n3_; clear n0_ n1_ n2_ n3_; have n_ := a4 (Kd.fH fJ.out) (aK iQ.out) (aK iJ.out) (bJ HB.out); clear fJ iQ iJ HB; obtain ⟨fJ, iQ, iJ, HB⟩ := n_; obtain ⟨p118, q118, KJ, e118, nQ⟩ := wq (Kd.bB HR1.out df); have yT := nQ; cases e118
 (try replace nQ := hbc HB nQ); obtain ⟨p119, q119, WE, e119, sK⟩ := wq (Kd.bB HR1.out df); have EK := sK
 obtain rfl : KJ = WE := (by injection e119)
 (try replace sK := hbc HB sK)
 refine stC 15 [] (cX (bc0 iJ) (cX (bc1 iJ) (cX (bc2 iJ) (cX (bc3 iJ) (cX (hbc HB yT) (cY (hbc HB EK))))))) aY.UK aY.GG fun hHeld HT_ HW_ => ?_
 generalize w28.drew = w29 at fJ iQ iJ HB nQ sK hHeld ⊢
 refine pv HT_ 0 26 ?_; refine pv HT_ 1 27 ?_; refine pv HT_ 2 28 ?_; refine tv HT_ HW_ hHeld 3 29 ?_; refine pv HT_ 4 30 ?_; refine pv HT_ 5 31 ?_; refine pv HT_ 6 32 ?_; refine pv HT_ 7 33 ?_; refine pv HT_ 8 34 ?_; refine pv HT_ 10 36 ?_; refine tv HT_ HW_ hHeld 9 35 ?_; refine tv HT_ HW_ hHeld 11 37 ?_; refine pv HT_ 12 38 ?_; refine pv HT_ 13 39 ?_
 refine wT (i := 14) (N := some 40) #[T, T, T, T, T, T, T, T, T, T, T, T, T, T, T] rfl rfl (gP HT_.out (by kernel_rfl)) (by decide) (fun K hK => ?_)
 refine DD Try.func51 (by kernel_rfl) rfl #[.bool true, .int .i64 221] (by rfl) rfl rfl (by (try simp only [List.map_toArray, List.map_cons, List.map_nil]); first | done | rfl | (simp only [List.length_drop, List.length_take]; rfl)) ?_
 with_reducible refine (aQ.calls true 221  _ A18.out).mono ?_
 rintro e w' ⟨rfl, ⟨nd, rfl⟩⟩
 refine ⟨_, rfl, ?_⟩
 refine hK.out _ _ ⟨(aH iJ.out 0).trans rfl, (aH iJ.out 1).trans rfl, (aH iJ.out 2).trans rfl, (aH iJ.out 3).trans rfl, (hbc HB yT), (hbc HB EK)⟩ (fun hHeld => ?_)
 clear hK K
 refine ol (a' := ?_) ?_ ?_
 rotate_left
 ·
  show Act.put _ (some 40) _ = _
  simp only [Act.put, sA, sZ, sS, jA, jG]
  rfl
 refine kN (fV HT_.out (by kernel_rfl)) ?_
 try go_wp2
 (try (rw [nu w29]; generalize hq_ : World.drewN w29 _ = w29; have n0_ : ag (Kd.R (Kd.int .i64) 2 w29 w.heap.size (fun _ => True) ab4 bV) := ⟨by rw [← hq_]; exact (rx fJ.out)⟩; have n1_ : ag (w29.heap[IZ]? = some (.cells #[.int .i64 ay, .slice (some I1) ae.length bN] 24 (0, 0))) := ⟨by rw [← hq_]; exact (bx iQ.out)⟩; have n2_ : ag (w29.heap[gH]? = some (.cells #[.int .i64 ((aa ae df).f0), .int .i64 ((aa ae df).f1), .int .i64 ((aa ae df).f2), .int .i64 ((aa ae df).f3)] 98 (0, 0))) := ⟨by rw [← hq_]; exact (bx iJ.out)⟩; have n3_ : ag (Below w.heap.size w w29) := ⟨by rw [← hq_]; exact lb⟩; clear fJ iQ iJ HB hq_; have fJ := n0_; have iQ := n1_; have iJ := n2_; have HB := n3_; clear n0_ n1_ n2_ n3_))
 have n_ := a4 (Kd.fH fJ.out) (aK iQ.out) (aK iJ.out) (bJ HB.out); clear fJ iQ iJ HB; obtain ⟨fJ, iQ, iJ, HB⟩ := n_; obtain ⟨Ao31, co31, eo31⟩ := Kd.bT fJ.out
 (first | subst eo31 | (injection eo31 with f1_ f2_ f3_; have f4_ := f1_.symm; have f5_ := f3_.symm; clear f1_ f2_ f3_; subst f4_; subst f5_))
 obtain ⟨p120, q120, ad120, e120, I4⟩ := wq (Kd.bB (Kd.aA fJ.out).2.2 ((aa ae df).f0)); cases e120; obtain ⟨p121, q121, ad121, e121, EL⟩ := wq (Kd.bB HR1.out df); have WH := EL
 obtain rfl : KJ = ad121 := (by injection e121)
 (try replace EL := hbc HB EL); have p21 : 0 ≤ (((aa ae df).f0) : Int) := oda; have q21 : (((aa ae df).f0) : Int) < ((bV.length : Int) : Int) := oda
 obtain ⟨go21, co21, eo21, gb21, gl21, cl21, HG21⟩ := Kd.l9 fJ.out (by omega)
 (first | cases eo21 | (injection eo21 with ea_ en_ ec_; (first | subst ea_ | (injection ea_ with ea_; subst ea_)); subst ec_; clear en_))
 have GB21 := ak gb21; have GG21 := ak HG21; clear gb21 gl21 HG21
 (first | simp only [add_plain] at I4 | skip)
 obtain ⟨UM, UN⟩ := Kd.gJ 0 fJ.out (((aa ae df).f0) : Int) p21 q21; replace p21 := eq_true p21; replace q21 := eq_true q21; have HP32 := Kd.wP fJ.out (((aa ae df).f0) : Int) (wrap64 ((rd bV ((aa ae df).f0)) + (rd l1 df))); rw [← ab6.out] at HP32; have HQ32 := ak HP32; clear HP32
 refine stC 12 [11] (cX (bc0 iJ) (cX (bc1 iJ) (cX (bc2 iJ) (cX (bc3 iJ) (cX I4 (cY (hbc HB WH))))))) aY.UL aY.GH fun hHeld HT_ HW_ => ?_
 generalize w29.drew = w30 at fJ iQ iJ HB GG21 HQ32 UN I4 EL UM hHeld ⊢
 refine pv HT_ 0 41 ?_; refine pv HT_ 1 42 ?_; refine pv HT_ 5 46 ?_; refine pv HT_ 6 47 ?_; refine pv HT_ 7 48 ?_; refine tv HT_ HW_ hHeld 2 43 ?_; refine pv HT_ 3 44 ?_; refine tv HT_ HW_ hHeld 4 45 ?_; refine tv HT_ HW_ hHeld 8 49 ?_; refine pv HT_ 9 50 ?_; refine pv HT_ 10 51 ?_
 refine um (i := 11) (N := none) #[T, T, T, T, T, T, T, T, T, T, T, T] rfl rfl (gP HT_.out (by kernel_rfl)) (by decide) (fun K hK => ?_)
 refine tV (w1 := ?_) (by rfl) rfl ?_ ?_
 rotate_left
 ·
  go_simp
  rfl
 refine hK.out _ _ ?_
 clear hK K
 refine kN (fV HT_.out (by kernel_rfl)) ?_
 try go_wp2
 have n0_ : ag (Kd.R (Kd.int .i64) 2 (w30.setCell ⟨go21, (((aa ae df).f0) : Int).toNat, none⟩ (.int .i64 (wrap64 ((rd bV ((aa ae df).f0)) + (rd l1 df))))) w.heap.size (fun _ => True) (.slice (some ⟨go21, 0, none⟩) bV.length co31) Sg) := ⟨by (with_reducible repeat (first | apply Kd.pq | apply Kd.oD | apply Kd.fH)); exact HQ32.out⟩
 have n1_ : ag ((w30.setCell ⟨go21, (((aa ae df).f0) : Int).toNat, none⟩ (.int .i64 (wrap64 ((rd bV ((aa ae df).f0)) + (rd l1 df))))).heap[IZ]? = some (.cells #[.int .i64 ay, .slice (some I1) ae.length bN] 24 (0, 0))) := ⟨by (with_reducible repeat (first | refine dw ?_ _ | refine aK ?_ | refine bg ?_ _)); refine dY ?_ (by have h_ := Kd.gQ fJ.out iQ.out (by decide); intro e_; exact h_ (by rw [e_]; rfl)) _; exact bx iQ.out⟩
 have n2_ : ag ((w30.setCell ⟨go21, (((aa ae df).f0) : Int).toNat, none⟩ (.int .i64 (wrap64 ((rd bV ((aa ae df).f0)) + (rd l1 df))))).heap[gH]? = some (.cells #[.int .i64 ((aa ae df).f0), .int .i64 ((aa ae df).f1), .int .i64 ((aa ae df).f2), .int .i64 ((aa ae df).f3)] 98 (0, 0))) := ⟨by (with_reducible repeat (first | refine dw ?_ _ | refine aK ?_ | refine bg ?_ _)); refine dY ?_ (by have h_ := Kd.gQ fJ.out iJ.out (by decide); intro e_; exact h_ (by rw [e_]; rfl)) _; exact bx iJ.out⟩
 have n3_ : ag (Below w.heap.size w (w30.setCell ⟨go21, (((aa ae df).f0) : Int).toNat, none⟩ (.int .i64 (wrap64 ((rd bV ((aa ae df).f0)) + (rd l1 df)))))) := ⟨by repeat (first | (with_reducible first | exact HB.out | apply fE | apply gq | apply bJ | refine bR ?_ GB21.out | refine bR ?_ WC.out | refine bR ?_ Tc.out) | exact HB.out)⟩
 (try clear fJ)
 (try clear iQ)
 (try clear iJ)
 (try clear HB)
 generalize (w30.setCell ⟨go21, (((aa ae df).f0) : Int).toNat, none⟩ (.int .i64 (wrap64 ((rd bV ((aa ae df).f0)) + (rd l1 df))))) = w33 at n0_ n1_ n2_ n3_ ⊢
 have fJ := n0_; have iQ := n1_; have iJ := n2_; have HB := n3_; clear n0_ n1_ n2_ n3_; have n_ := a4 (Kd.fH fJ.out) (aK iQ.out) (aK iJ.out) (bJ HB.out); clear fJ iQ iJ HB; obtain ⟨fJ, iQ, iJ, HB⟩ := n_; have WI : 0 ≤ (((aa ae df).f1) : Int) := oda
 have WJ : ((aa ae df).f1) < (Sg.length : Int) := (by have h_ : (((aa ae df).f1) : Int) < ((bV.length : Int) : Int) := oda; first | (have e_ := (Kd.aA fJ.out).1; omega) | simpa only [ab6.out, List.length_set] using h_)
 have ql123 : ((((aa ae df).f1) : Int) < ((bV.length : Int) : Int)) = True := eq_true (oda); obtain ⟨ad123, e123, yU⟩ := Kd.bB (Kd.aA fJ.out).2.2 ((aa ae df).f1) WI WJ
 obtain rfl : (⟨go21, 0, none⟩ : Addr) = ad123 := (by injection e123)
 (first | simp only [add_plain] at yU | simp only [lI] at yU | simp only [Addr.add, Nat.zero_add] at yU | skip)
 replace WI := eq_true WI; replace WJ := eq_true WJ; obtain ⟨p124, q124, ad124, e124, EM⟩ := wq (Kd.bB HR1.out df); have WK := EM
 obtain rfl : KJ = ad124 := (by injection e124)
 (try replace EM := hbc HB EM); have p24 : 0 ≤ (((aa ae df).f1) : Int) := oda; have q24 : (((aa ae df).f1) : Int) < ((bV.length : Int) : Int) := oda; obtain ⟨ab7, ab8⟩ := Kd.gJ 0 fJ.out (((aa ae df).f1) : Int) p24 q24; replace p24 := eq_true p24; replace q24 := eq_true q24; have HP35 := Kd.wP fJ.out (((aa ae df).f1) : Int) (wrap64 ((rd Sg ((aa ae df).f1)) - (rd l1 df))); rw [← Ny125.out] at HP35; have HQ35 := ak HP35; clear HP35
 refine stC 12 [11] (cX (bc0 iJ) (cX (bc1 iJ) (cX (bc2 iJ) (cX (bc3 iJ) (cX yU (cY (hbc HB WK))))))) aY.tab8 aY.WB fun hHeld HT_ HW_ => ?_
 generalize w33.drew = w34 at fJ iQ iJ HB HQ32 HQ35 ab8 yU EM ab7 hHeld ⊢
 refine pv HT_ 0 52 ?_; refine pv HT_ 1 53 ?_; refine pv HT_ 5 57 ?_; refine pv HT_ 6 58 ?_; refine pv HT_ 7 59 ?_; refine tv HT_ HW_ hHeld 2 54 ?_; refine pv HT_ 3 55 ?_; refine tv HT_ HW_ hHeld 4 56 ?_; refine tv HT_ HW_ hHeld 8 60 ?_; refine pv HT_ 9 61 ?_; refine pv HT_ 10 62 ?_
 refine um (i := 11) (N := none) #[T, T, T, T, T, T, T, T, T, T, T, T] rfl rfl (gP HT_.out (by kernel_rfl)) (by decide) (fun K hK => ?_)
 refine tV (w1 := ?_) (by rfl) rfl ?_ ?_
 rotate_left
 ·
  go_simp
  rfl
 refine hK.out _ _ ?_
 clear hK K
 refine kN (fV HT_.out (by kernel_rfl)) ?_
 try go_wp2
 go_roundg k1
 case measure => have := HK1.out; omega
 case rel => exact ⟨(y125), (wrap64 (df + 1)), sr, H', ⟨by have := HK1.out; omega⟩, ⟨by (with_reducible repeat (first | apply Kd.pq | apply Kd.oD | apply Kd.fH)); exact HQ35.out⟩, ⟨by (with_reducible repeat (first | refine dw ?_ _ | refine aK ?_ | refine bg ?_ _)); refine dY ?_ (by have h_ := Kd.gQ fJ.out iQ.out (by decide); intro e_; exact h_ (by rw [e_]; rfl)) _; exact bx iQ.out⟩, ⟨by repeat (first | (with_reducible first | exact HB.out | apply fE | apply gq | apply bJ | refine bR ?_ GB21.out | refine bR ?_ WC.out | refine bR ?_ Tc.out) | exact HB.out)⟩⟩
theorem aY.ok (k : Nat) (ay : Int) (bX : Option Addr) (bN : Nat) (ae : List (S98)) (A1 : Option Addr) (c1 : Nat) (l1 : List Int) (r2 : List Int) (w : World) (dB : Kd.C k98 w bX ae.length ae) (dC : ae.length ≤ bN) (hr1 : Kd.C (Kd.int .i64) w A1 l1.length l1) (hc1 : l1.length ≤ c1) (h : aY.f k ay ae l1 = some (0, r2)) :
    Calls Try.prog 52 #[.agg #[.int .i64 ay, .slice bX ae.length bN], .slice A1 l1.length c1] w fun e w' => ∃ v1_ : Value, e = .returned (v1_) ∧ Kd.R (Kd.int .i64) 2 w' w.heap.size (fun _ => True) v1_ r2 ∧ Below w.heap.size w w' :=
 (aY.calls k ay bX bN ae A1 c1 l1 0 r2 w dB dC hr1 hc1 h).mono fun e w' h_ => h_.good rfl
theorem aY.bad (k : Nat) (ay : Int) (bX : Option Addr) (bN : Nat) (ae : List (S98)) (A1 : Option Addr) (c1 : Nat) (l1 : List Int) (r1 : Int) (r2 : List Int) (w : World) (dB : Kd.C k98 w bX ae.length ae) (dC : ae.length ≤ bN) (hr1 : Kd.C (Kd.int .i64) w A1 l1.length l1) (hc1 : l1.length ≤ c1) (h : aY.f k ay ae l1 = some (r1, r2)) (hne_ : r1 ≠ 0) :
    Calls Try.prog 52 #[.agg #[.int .i64 ay, .slice bX ae.length bN], .slice A1 l1.length c1] w fun e w' => e = gave r1 ∧ Below w.heap.size w w' :=
 (aY.calls k ay bX bN ae A1 c1 l1 r1 r2 w dB dC hr1 hc1 h).mono fun e w' h_ => h_.bad hne_

end Go.Proofs.Ytkdoihcjhccliaa.Q
