import Derived.Test.YtkdoihcjhccliaaK
import Derived.Test.YtkdoihcjhccliaaV
import Derived.Test.YtkdoihcjhccliaaQ0
import Derived.Test.YtkdoihcjhccliaaQ3
namespace Go.Proofs.Ytkdoihcjhccliaa.Q
open Go.RowKit Go.Proofs.YtkdoihcjhccliaaW.PrintWords Go.Proofs.YtkdoihcjhccliaaW.PrintLast Go.Proofs.YtkdoihcjhccliaaW.PrintMore
attribute [local go_sem] dF dG eG eH cz cB dH dI   -- for this text's walks alone
set_option linter.unusedVariables false
set_option linter.unusedSimpArgs false

/-! ### ah: function 72 -/
mutual
def ah.l0 : Nat → List Int → List Int → Int → Int → Int → List (S98) → Option (List Int)
  | 0, _, _, _, _, _, _ => none
  | k + 1, x3, x4, x5, x6, oL, iA => if x6 ≤ oL then (ah.l1 k x3 x4 (-1) x6 0 oL iA) else (if x5 < 0 then (some ([] : List Int)) else (ah.l2 k x4 x5 0 oL iA))
def ah.l1 : Nat → List Int → List Int → Int → Int → Int → Int → List (S98) → Option (List Int)
  | 0, _, _, _, _, _, _, _ => none
  | k + 1, x3, x4, x5, x6, x7, oL, iA => if x7 < (iA.length : Int) then (if 0 ≤ x7 then (if 0 ≤ ((aa iA x7).f0) then (if ((aa iA x7).f0) < (x3.length : Int) then (if 0 ≤ ((aa iA x7).f1) then (if ((aa iA x7).f1) < (x3.length : Int) then (if (wrap64 ((rd x3 ((aa iA x7).f0)) + ((aa iA x7).f3))) < (rd x3 ((aa iA x7).f1)) then (if ((aa iA x7).f1) < (x4.length : Int) then (ah.l1 k (x3.set (((aa iA x7).f1) : Int).toNat (wrap64 ((rd x3 ((aa iA x7).f0)) + ((aa iA x7).f3)))) (x4.set (((aa iA x7).f1) : Int).toNat x7) ((aa iA x7).f1) x6 (wrap64 (x7 + 1)) oL iA) else (none)) else (ah.l1 k x3 x4 x5 x6 (wrap64 (x7 + 1)) oL iA)) else (none)) else (none)) else (none)) else (none)) else (none)) else (ah.l0 k x3 x4 x5 (wrap64 (x6 + 1)) oL iA)
def ah.l2 : Nat → List Int → Int → Int → Int → List (S98) → Option (List Int)
  | 0, _, _, _, _, _ => none
  | k + 1, x4, x5, x9, oL, iA => if x9 < oL then (if 0 ≤ x5 then (if x5 < (x4.length : Int) then (if 0 ≤ (rd x4 x5) then (if (rd x4 x5) < (iA.length : Int) then (ah.l2 k x4 ((aa iA (rd x4 x5)).f0) (wrap64 (x9 + 1)) oL iA) else (none)) else (none)) else (none)) else (none)) else (if 0 ≤ x5 then (if x5 < (x4.length : Int) then (ah.l3 k x4 x5 (([rd x4 x5] : List Int)) oL iA) else (none)) else (none))
def ah.l3 : Nat → List Int → Int → List Int → Int → List (S98) → Option (List Int)
  | 0, _, _, _, _, _ => none
  | k + 1, x4, x5, x10, oL, iA => if 0 < (x10.length : Int) then (if 0 ≤ (rd x10 0) then (if (rd x10 0) < (iA.length : Int) then (if ((aa iA (rd x10 0)).f0) = x5 then (some x10) else (if 0 ≤ ((aa iA (rd x10 0)).f0) then (if ((aa iA (rd x10 0)).f0) < (x4.length : Int) then ((some (([rd x4 ((aa iA (rd x10 0)).f0)] : List Int) : List Int)).bind fun YN => (if YN.length + x10.length < 17592186044416 then (ah.l3 k x4 x5 (YN ++ x10) oL iA) else (none))) else (none)) else (none))) else (none)) else (none)) else (none)
end
def ah.f (k : Nat) (ay : Int) (ae : List (S98)) : Option (List Int) := if 0 ≤ ay then (if (ay : Int).toNat ≤ 35184372088832 then (ah.l0 k (List.replicate (ay : Int).toNat 0) (List.replicate (ay : Int).toNat 0) (-1) 0 ay ae) else (none)) else (none)
def ah.T12 : Bool × List (List Nat × List Nat) := (true, [([], []), ([], []), ([1], [1]), ([0, 2], [0, 2]), ([3], [3]), ([], []), ([5], [5]), ([4, 6], [4, 6]), ([], []), ([], []), ([9], [9]), ([8, 10], [8, 10]), ([11], [11]), ([7, 12], [7, 12])])
def ah.B12 : List Nat := [0, 0, 2, 7, 15, 0, 32, 127, 0, 0, 512, 1792, 3840, 8191]
theorem ah.SQ : oO .any (opsOf Try.f72 12) = ah.T12 := by kernel_rfl
theorem ah.JZ : gM ah.T12.2 ah.B12 = true := by kernel_rfl
def ah.T13 : Bool × List (List Nat × List Nat) := (true, [([], []), ([], []), ([1], [1]), ([], []), ([], []), ([4], [4]), ([3, 5], [3, 5]), ([6], [6]), ([], []), ([8], [8]), ([7, 9], [7, 9]), ([0, 2, 0, 1, 2, 3, 4, 5, 6, 7, 8, 9, 10], [0, 2]), ([11, 10, 0, 1, 2, 3, 4, 5, 6, 7, 8, 9, 10], [10, 11])])
def ah.B13 : List Nat := [0, 0, 2, 0, 0, 16, 56, 120, 0, 256, 1016, 2047, 4095]
theorem ah.VC : oO .any (opsOf Try.f72 13) = ah.T13 := by kernel_rfl
theorem ah.Me : gM ah.T13.2 ah.B13 = true := by kernel_rfl
def ah.T21 : Bool × List (List Nat × List Nat) := (true, [([], []), ([0], [0]), ([], []), ([], []), ([2, 3], [2, 3]), ([4], [4]), ([1, 5], [1, 5]), ([6], [6]), ([7], [7]), ([8, 0, 1, 2, 3, 4, 5, 6, 7, 8], [3, 8])])
def ah.B21 : List Nat := [0, 1, 0, 0, 12, 28, 63, 127, 255, 511]
theorem ah.tab21 : oO .any (opsOf Try.f72 21) = ah.T21 := by kernel_rfl
theorem ah.adE : gM ah.T21.2 ah.B21 = true := by kernel_rfl
def ah.T23 : Bool × List (List Nat × List Nat) := (true, [([], []), ([0], [0]), ([], []), ([2], [2]), ([3], [3]), ([1, 4], [1, 4]), ([5], [5]), ([6], [6]), ([], []), ([7, 8], [7, 8])])
def ah.B23 : List Nat := [0, 1, 0, 4, 12, 31, 63, 127, 0, 511]
theorem ah.adF : oO .any (opsOf Try.f72 23) = ah.T23 := by kernel_rfl
theorem ah.UX : gM ah.T23.2 ah.B23 = true := by kernel_rfl
def ah.T24 : Bool × List (List Nat × List Nat) := (true, [([], []), ([], []), ([1], [1]), ([], []), ([3], [3]), ([4], [4]), ([2, 5], [2, 5]), ([6], [6]), ([7], [7]), ([0, 8], [0, 8]), ([9], [9]), ([10], [10]), ([], []), ([11, 12], [11, 12]), ([13, 13, 0, 1, 2, 3, 4, 5, 6, 7, 8, 9, 10, 11, 12, 13], [3, 12, 13])])
def ah.B24 : List Nat := [0, 0, 2, 0, 8, 24, 62, 126, 254, 511, 1023, 2047, 0, 8191, 16383]
theorem ah.tab24 : oO .any (opsOf Try.f72 24) = ah.T24 := by kernel_rfl
theorem ah.adG : gM ah.T24.2 ah.B24 = true := by kernel_rfl
set_option maxHeartbeats 8000000 in
set_option maxRecDepth 100000 in
theorem ah.calls (k : Nat) (ay : Int) (bX : Option Addr) (bN : Nat) (ae : List (S98)) (r : List Int) (w : World) (dB : Kd.C k98 w bX ae.length ae) (dC : ae.length ≤ bN) (h : ah.f k ay ae = some r) :
    Calls Try.prog 72 #[.agg #[.int .i64 ay, .slice bX ae.length bN]] w fun e w' => ∃ v0_ : Value, e = .returned (v0_) ∧ Kd.R (Kd.int .i64) 3 w' w.heap.size (fun _ => True) v0_ r ∧ Below w.heap.size w w' := by
 have hu24 := Try.underlying24; have hu98 := Try.underlying98; have bU := ak dB; have eU := ak dC; clear dB dC; have HB := ak (Below.refl w.heap.size w); have H : (if 0 ≤ ay then (if (ay : Int).toNat ≤ 35184372088832 then (ah.l0 k (List.replicate (ay : Int).toNat 0) (List.replicate (ay : Int).toNat 0) (-1) 0 ay ae) else (none)) else (none)) = some r := h; clear h; replace H := ife H; obtain ⟨c2b0, c2b1, H⟩ := H; replace H := ife H; obtain ⟨c3b0, c3b1, H⟩ := H; obtain ⟨y445, YO⟩ : ∃ y_ : List Int, y_ = (List.replicate (ay : Int).toNat 0) := ⟨_, rfl⟩; replace H : (ah.l0 k y445 (List.replicate (ay : Int).toNat 0) (-1) 0 ay ae) = some r := by first | (rw [YO]; exact H) | exact H
 have adH := ak YO; clear YO; obtain ⟨y448, YP⟩ : ∃ y_ : List Int, y_ = (List.replicate (ay : Int).toNat 0) := ⟨_, rfl⟩; replace H : (ah.l0 k y445 y448 (-1) 0 ay ae) = some r := by first | (rw [YP]; exact H) | exact H
 have adI := ak YP; clear YP; have H' := ak H; clear H
 go_enter Try.func72, Try.ntmps72
 go_wp2_with (first | ((with_reducible refine aC (N := 1) rfl ?_); refine bxe 1 #[.int .i64 ay, .slice bX ae.length bN] 24 ?_; intro Jm hg w4 hbox hb; have n_ := a4 (bl hb) hbox (gw w hg) (gw w hg); clear HB; obtain ⟨HB, fB, GW444, GE444⟩ := n_; clear hb hbox hg; have ⟨_, _, _, _⟩ := cf2 fB) | ((with_reducible refine aC (N := 13) rfl ?_); refine Kd.ni (Kd.int .i64) _ 2 rfl (N := 13) rfl 25 _ _ rfl ay rfl rfl Try.underlying25 (.int .i64 0) 8 wW rfl (by decide) (by omega) 0 (ok := fun _ => True) (okp := fun _ => True) rfl (fun _ hk => hk) trivial (oda) (Nat.le_trans (Nat.mul_le_mul_right _ (oda : ay.toNat ≤ 35184372088832)) (by omega)) (Below.refl _ _) (Nat.le_refl _) ?_; intro v446 w6 ho7 hb hg_ hnew_; clear hg_ hnew_; (first | rw [← adH.out] at ho7 | (simp only [Int.reduceToNat] at ho7; rw [← adH.out] at ho7)); have n_ := a3 (Kd.bY ho7 (ax lb)) (bo fB hb) (bl hb); clear fB HB; obtain ⟨Tz, fB, HB⟩ := n_; clear hb ho7; have ⟨_, _, _, _⟩ := cf2 fB) | ((with_reducible refine aC (N := 16) rfl ?_); refine Kd.ni (Kd.int .i64) _ 3 rfl (N := 16) rfl 70 _ _ rfl ay rfl rfl Try.underlying70 (.int .i64 0) 8 info3 rfl (by decide) (by omega) 0 (ok := fun _ => True) (okp := fun _ => True) rfl (fun _ hk => hk) trivial (oda) (Nat.le_trans (Nat.mul_le_mul_right _ (oda : ay.toNat ≤ 35184372088832)) (by omega)) (Below.refl _ _) (Nat.le_refl _) ?_; intro aan w9 ho10 hb hg_ hnew_; clear hg_ hnew_; (first | rw [← adI.out] at ho10 | (simp only [Int.reduceToNat] at ho10; rw [← adI.out] at ho10)); have n_ := a4 (ro Tz hb) (Kd.bY ho10 (ax lb)) (bo fB hb) (bl hb); clear Tz fB HB; obtain ⟨Tz, HO450, fB, HB⟩ := n_; clear hb ho10))
 go_loopg [5, 6] k (fun kq v5 v6 w' => ∃ (ny : List Int) (kJ : List Int) (bV : Int) (eD : Int), v5 = .int .i64 bV ∧ v6 = .int .i64 eD ∧ ag (ah.l0 kq ny kJ bV eD ay ae = some r) ∧ ag (kq ≤ k) ∧ ag (Kd.R (Kd.int .i64) 2 w' w.heap.size (fun _ => True) v446 ny) ∧ ag (Kd.R (Kd.int .i64) 3 w' w.heap.size (fun _ => True) aan kJ) ∧ ag (w'.heap[Jm]? = some (.cells #[.int .i64 ay, (.slice bX ae.length bN)] 24 (0, 0))) ∧ ag (Below w.heap.size w w'))
 case atStart => exact ⟨(y445), (y448), ((-1)), (0), sr, sr, H', ⟨Nat.le_refl _⟩, ⟨rx Tz.out⟩, ⟨rx HO450.out⟩, xb fB, ⟨lb⟩⟩
 clear H'; obtain ⟨ny, kJ, bV, eD, rfl, rfl, HA, HK1, gz, jv, fB, HB⟩ := hrel
 cases gk with
 | zero => exact absurd HA.out (by simp [ah.l0])
 | succ k1 => ?_
 have H := HA.out; clear HA
 simp only [ah.l0] at H
 by_cases c11 : eD ≤ ay
 ·
  rw [if_pos c11] at H; have c11b0 := decide_eq_true c11; clear c11; have H' := ak H; clear H; have ⟨_, _, _, _⟩ := cf2 fB
  go_wp2
  go_loopg [5, 7] k1 (fun kq v5 v7 w' => ∃ (oU : List Int) (tT : List Int) (oh : Int) (gK : Int), v5 = .int .i64 oh ∧ v7 = .int .i64 gK ∧ ag (ah.l1 kq oU tT oh eD gK ay ae = some r) ∧ ag (kq ≤ k1) ∧ ag (Kd.R (Kd.int .i64) 2 w' w.heap.size (fun _ => True) v446 oU) ∧ ag (Kd.R (Kd.int .i64) 3 w' w.heap.size (fun _ => True) aan tT) ∧ ag (w'.heap[Jm]? = some (.cells #[.int .i64 ay, (.slice bX ae.length bN)] 24 (0, 0))) ∧ ag (Below w.heap.size w w'))
  case atStart => exact ⟨(ny), (kJ), ((-1)), (0), sr, sr, H', ⟨Nat.le_refl _⟩, ⟨rx gz.out⟩, ⟨rx jv.out⟩, xb fB, ⟨lb⟩⟩
  clear H'; obtain ⟨oU, tT, oh, gK, rfl, rfl, HA, HK2, gz, jv, fB, HB⟩ := hrel
  cases gk with
  | zero => exact absurd HA.out (by simp [ah.l1])
  | succ k2 => ?_
  have H := HA.out; clear HA
  simp only [ah.l1] at H
  by_cases c13 : gK < (ae.length : Int)
  rotate_left
  ·
   rw [if_neg c13] at H; have c13b0 := decide_eq_false c13; clear c13; have H' := ak H; clear H; have ⟨_, _, _, _⟩ := cf2 fB
   go_wp2
   go_roundg k2
   case measure => have := HK1.out; have := HK2.out; omega
   case rel => exact ⟨(oU), (tT), (oh), (wrap64 (eD + 1)), sr, sr, H', ⟨by have := HK1.out; have := HK2.out; omega⟩, ⟨rx gz.out⟩, ⟨rx jv.out⟩, xb fB, ⟨lb⟩⟩
  rw [if_pos c13] at H; have c13b0 := decide_eq_true c13; clear c13; replace H := if3 H; obtain ⟨c14b0, c15b0, c16b0, H⟩ := H; replace H := if2 H; obtain ⟨c17b0, c18b0, H⟩ := H
  by_cases c19 : (wrap64 ((rd oU ((aa ae gK).f0)) + ((aa ae gK).f3))) < (rd oU ((aa ae gK).f1))
  rotate_left
  ·
   rw [if_neg c19] at H; have c19b0 := decide_eq_false c19; clear c19; have H' := ak H; clear H; have ⟨_, _, _, _⟩ := cf2 fB; obtain ⟨p451, q451, TA, e451, CO, CP, CQ, CR⟩ := wq (dU bU.out gK); cases e451
   (try replace CO := hbc HB CO)
   (try replace CP := hbc HB CP)
   (try replace CQ := hbc HB CQ)
   (try replace CR := hbc HB CR)
   try go_wp2_with (first | ((with_reducible refine aC (N := 8) rfl ?_); refine bxe 8 #[.int .i64 0, .int .i64 0, .int .i64 0, .int .i64 0] 98 ?_; intro gY hg w38 hbox hb; have n_ := a9 (ro gz hb) (ro jv hb) (bo fB hb) (bl hb) hbox (gw w hg) (gw w hg) (nl hg fB) (nr hg fB); clear gz jv fB HB; obtain ⟨gz, jv, fB, HB, ky, GW452, adJ, Qt, CS⟩ := n_; clear hb hbox hg; have ⟨_, _⟩ := nn CS; have ⟨_, _, _, _, _, _, _, _⟩ := cf4 ky))
   have n0_ : ag (Kd.R (Kd.int .i64) 2 ((((w38.setCell ⟨gY, 0, none⟩ (.int .i64 ((aa ae gK).f0))).setCell ⟨gY, 1, none⟩ (.int .i64 ((aa ae gK).f1))).setCell ⟨gY, 2, none⟩ (.int .i64 ((aa ae gK).f2))).setCell ⟨gY, 3, none⟩ (.int .i64 ((aa ae gK).f3))) w.heap.size (fun _ => True) v446 oU) := ⟨by exact rx (Kd.cO (Kd.dN (p := ⟨gY, 3, none⟩) (Kd.dN (p := ⟨gY, 2, none⟩) (Kd.dN (p := ⟨gY, 1, none⟩) (Kd.dN (p := ⟨gY, 0, none⟩) (Kd.fC gz.out ky.out (by decide)) (fun _ hk => hk.2) (.int .i64 ((aa ae gK).f0))) (fun _ hk => hk.2) (.int .i64 ((aa ae gK).f1))) (fun _ hk => hk.2) (.int .i64 ((aa ae gK).f2))) (fun _ hk => hk.2) (.int .i64 ((aa ae gK).f3))) (fun _ hk => trivial))⟩
   have n1_ : ag (Kd.R (Kd.int .i64) 3 ((((w38.setCell ⟨gY, 0, none⟩ (.int .i64 ((aa ae gK).f0))).setCell ⟨gY, 1, none⟩ (.int .i64 ((aa ae gK).f1))).setCell ⟨gY, 2, none⟩ (.int .i64 ((aa ae gK).f2))).setCell ⟨gY, 3, none⟩ (.int .i64 ((aa ae gK).f3))) w.heap.size (fun _ => True) aan tT) := ⟨by exact rx (Kd.cO (Kd.dN (p := ⟨gY, 3, none⟩) (Kd.dN (p := ⟨gY, 2, none⟩) (Kd.dN (p := ⟨gY, 1, none⟩) (Kd.dN (p := ⟨gY, 0, none⟩) (Kd.fC jv.out ky.out (by decide)) (fun _ hk => hk.2) (.int .i64 ((aa ae gK).f0))) (fun _ hk => hk.2) (.int .i64 ((aa ae gK).f1))) (fun _ hk => hk.2) (.int .i64 ((aa ae gK).f2))) (fun _ hk => hk.2) (.int .i64 ((aa ae gK).f3))) (fun _ hk => trivial))⟩
   have n2_ : ag (((((w38.setCell ⟨gY, 0, none⟩ (.int .i64 ((aa ae gK).f0))).setCell ⟨gY, 1, none⟩ (.int .i64 ((aa ae gK).f1))).setCell ⟨gY, 2, none⟩ (.int .i64 ((aa ae gK).f2))).setCell ⟨gY, 3, none⟩ (.int .i64 ((aa ae gK).f3))).heap[Jm]? = some (.cells #[.int .i64 ay, .slice (some TA) ae.length bN] 24 (0, 0))) := ⟨bz⟩
   have n3_ : ag (((((w38.setCell ⟨gY, 0, none⟩ (.int .i64 ((aa ae gK).f0))).setCell ⟨gY, 1, none⟩ (.int .i64 ((aa ae gK).f1))).setCell ⟨gY, 2, none⟩ (.int .i64 ((aa ae gK).f2))).setCell ⟨gY, 3, none⟩ (.int .i64 ((aa ae gK).f3))).heap[gY]? = some (.cells #[.int .i64 ((aa ae gK).f0), .int .i64 ((aa ae gK).f1), .int .i64 ((aa ae gK).f2), .int .i64 ((aa ae gK).f3)] 98 (0, 0))) := ⟨bz⟩
   have n4_ : ag (Below w.heap.size w ((((w38.setCell ⟨gY, 0, none⟩ (.int .i64 ((aa ae gK).f0))).setCell ⟨gY, 1, none⟩ (.int .i64 ((aa ae gK).f1))).setCell ⟨gY, 2, none⟩ (.int .i64 ((aa ae gK).f2))).setCell ⟨gY, 3, none⟩ (.int .i64 ((aa ae gK).f3)))) := ⟨lb⟩
   (try clear gz)
   (try clear jv)
   (try clear fB)
   (try clear ky)
   (try clear HB)
   generalize ((((w38.setCell ⟨gY, 0, none⟩ (.int .i64 ((aa ae gK).f0))).setCell ⟨gY, 1, none⟩ (.int .i64 ((aa ae gK).f1))).setCell ⟨gY, 2, none⟩ (.int .i64 ((aa ae gK).f2))).setCell ⟨gY, 3, none⟩ (.int .i64 ((aa ae gK).f3))) = w41 at n0_ n1_ n2_ n3_ n4_ ⊢
   have gz := n0_; have jv := n1_; have fB := n2_; have ky := n3_; have HB := n4_; clear n0_ n1_ n2_ n3_ n4_; have n_ := a5 (Kd.fH gz.out) (Kd.fH jv.out) (aK fB.out) (aK ky.out) (bJ HB.out); clear gz jv fB ky HB; obtain ⟨gz, jv, fB, ky, HB⟩ := n_; obtain ⟨Ao43, co43, eo43⟩ := Kd.bT gz.out
   (first | subst eo43 | (injection eo43 with f1_ f2_ f3_; have f4_ := f1_.symm; have f5_ := f3_.symm; clear f1_ f2_ f3_; subst f4_; subst f5_))
   obtain ⟨p453, q453, TB, e453, xA⟩ := wq (Kd.bB (Kd.aA gz.out).2.2 ((aa ae gK).f0)); cases e453; obtain ⟨p454, q454, YQ, e454, xB⟩ := wq (Kd.bB (Kd.aA gz.out).2.2 ((aa ae gK).f1))
   obtain rfl : TB = YQ := (by injection e454)
   refine stC 14 [] (cX (bc0 ky) (cX (bc1 ky) (cX (bc2 ky) (cX (bc3 ky) (cX xA (cY xB)))))) ah.SQ ah.JZ fun hHeld HT_ HW_ => ?_
   generalize w41.drew = w42 at gz jv fB ky HB xA xB hHeld ⊢
   refine pv HT_ 0 35 ?_; refine pv HT_ 1 36 ?_; refine pv HT_ 5 40 ?_; refine pv HT_ 8 43 ?_; refine pv HT_ 9 44 ?_; refine tv HT_ HW_ hHeld 2 37 ?_; refine pv HT_ 3 38 ?_; refine tv HT_ HW_ hHeld 4 39 ?_; refine tv HT_ HW_ hHeld 6 41 ?_; refine pv HT_ 7 42 ?_; refine tv HT_ HW_ hHeld 10 45 ?_; refine pv HT_ 11 46 ?_; refine tv HT_ HW_ hHeld 12 47 ?_; refine pv HT_ 13 48 ?_
   refine kN (fV HT_.out (by kernel_rfl)) ?_
   try go_wp2
   go_roundg k2
   case measure => have := HK1.out; have := HK2.out; omega
   case rel => exact ⟨(oU), (tT), (oh), (wrap64 (gK + 1)), sr, sr, H', ⟨by have := HK1.out; have := HK2.out; omega⟩, ⟨rx gz.out⟩, ⟨rx jv.out⟩, xb fB, ⟨lb⟩⟩
  rw [if_pos c19] at H; have c19b0 := decide_eq_true c19; clear c19; obtain ⟨y456, YR⟩ : ∃ y_ : List Int, y_ = (oU.set (((aa ae gK).f1) : Int).toNat (wrap64 ((rd oU ((aa ae gK).f0)) + ((aa ae gK).f3)))) := ⟨_, rfl⟩; replace H : (if ((aa ae gK).f1) < (tT.length : Int) then (ah.l1 k2 y456 (tT.set (((aa ae gK).f1) : Int).toNat gK) ((aa ae gK).f1) eD (wrap64 (gK + 1)) ay ae) else (none)) = some r := by first | (rw [YR]; exact H) | exact H
  have Ny456 := ak YR; clear YR; replace H := ifd H; obtain ⟨c21b0, H⟩ := H; obtain ⟨y457, YS⟩ : ∃ y_ : List Int, y_ = (tT.set (((aa ae gK).f1) : Int).toNat gK) := ⟨_, rfl⟩; replace H : (ah.l1 k2 y456 y457 ((aa ae gK).f1) eD (wrap64 (gK + 1)) ay ae) = some r := by first | (rw [YS]; exact H) | exact H
  have Ny457 := ak YS; clear YS; have H' := ak H; clear H; have ⟨_, _, _, _⟩ := cf2 fB; obtain ⟨p451, q451, TA, e451, CO, CP, CQ, CR⟩ := wq (dU bU.out gK); cases e451
  (try replace CO := hbc HB CO)
  (try replace CP := hbc HB CP)
  (try replace CQ := hbc HB CQ)
  (try replace CR := hbc HB CR)
  try go_wp2_with (first | ((with_reducible refine aC (N := 8) rfl ?_); refine bxe 8 #[.int .i64 0, .int .i64 0, .int .i64 0, .int .i64 0] 98 ?_; intro gY hg w24 hbox hb; have n_ := a9 (ro gz hb) (ro jv hb) (bo fB hb) (bl hb) hbox (gw w hg) (gw w hg) (nl hg fB) (nr hg fB); clear gz jv fB HB; obtain ⟨gz, jv, fB, HB, ky, GW452, adJ, Qt, CS⟩ := n_; clear hb hbox hg; have ⟨_, _⟩ := nn CS; have ⟨_, _, _, _, _, _, _, _⟩ := cf4 ky))
  have n0_ : ag (Kd.R (Kd.int .i64) 2 ((((w24.setCell ⟨gY, 0, none⟩ (.int .i64 ((aa ae gK).f0))).setCell ⟨gY, 1, none⟩ (.int .i64 ((aa ae gK).f1))).setCell ⟨gY, 2, none⟩ (.int .i64 ((aa ae gK).f2))).setCell ⟨gY, 3, none⟩ (.int .i64 ((aa ae gK).f3))) w.heap.size (fun _ => True) v446 oU) := ⟨by exact rx (Kd.cO (Kd.dN (p := ⟨gY, 3, none⟩) (Kd.dN (p := ⟨gY, 2, none⟩) (Kd.dN (p := ⟨gY, 1, none⟩) (Kd.dN (p := ⟨gY, 0, none⟩) (Kd.fC gz.out ky.out (by decide)) (fun _ hk => hk.2) (.int .i64 ((aa ae gK).f0))) (fun _ hk => hk.2) (.int .i64 ((aa ae gK).f1))) (fun _ hk => hk.2) (.int .i64 ((aa ae gK).f2))) (fun _ hk => hk.2) (.int .i64 ((aa ae gK).f3))) (fun _ hk => trivial))⟩
  have n1_ : ag (Kd.R (Kd.int .i64) 3 ((((w24.setCell ⟨gY, 0, none⟩ (.int .i64 ((aa ae gK).f0))).setCell ⟨gY, 1, none⟩ (.int .i64 ((aa ae gK).f1))).setCell ⟨gY, 2, none⟩ (.int .i64 ((aa ae gK).f2))).setCell ⟨gY, 3, none⟩ (.int .i64 ((aa ae gK).f3))) w.heap.size (fun _ => True) aan tT) := ⟨by exact rx (Kd.cO (Kd.dN (p := ⟨gY, 3, none⟩) (Kd.dN (p := ⟨gY, 2, none⟩) (Kd.dN (p := ⟨gY, 1, none⟩) (Kd.dN (p := ⟨gY, 0, none⟩) (Kd.fC jv.out ky.out (by decide)) (fun _ hk => hk.2) (.int .i64 ((aa ae gK).f0))) (fun _ hk => hk.2) (.int .i64 ((aa ae gK).f1))) (fun _ hk => hk.2) (.int .i64 ((aa ae gK).f2))) (fun _ hk => hk.2) (.int .i64 ((aa ae gK).f3))) (fun _ hk => trivial))⟩
  have n2_ : ag (((((w24.setCell ⟨gY, 0, none⟩ (.int .i64 ((aa ae gK).f0))).setCell ⟨gY, 1, none⟩ (.int .i64 ((aa ae gK).f1))).setCell ⟨gY, 2, none⟩ (.int .i64 ((aa ae gK).f2))).setCell ⟨gY, 3, none⟩ (.int .i64 ((aa ae gK).f3))).heap[Jm]? = some (.cells #[.int .i64 ay, .slice (some TA) ae.length bN] 24 (0, 0))) := ⟨bz⟩
  have n3_ : ag (((((w24.setCell ⟨gY, 0, none⟩ (.int .i64 ((aa ae gK).f0))).setCell ⟨gY, 1, none⟩ (.int .i64 ((aa ae gK).f1))).setCell ⟨gY, 2, none⟩ (.int .i64 ((aa ae gK).f2))).setCell ⟨gY, 3, none⟩ (.int .i64 ((aa ae gK).f3))).heap[gY]? = some (.cells #[.int .i64 ((aa ae gK).f0), .int .i64 ((aa ae gK).f1), .int .i64 ((aa ae gK).f2), .int .i64 ((aa ae gK).f3)] 98 (0, 0))) := ⟨bz⟩
  have n4_ : ag (Below w.heap.size w ((((w24.setCell ⟨gY, 0, none⟩ (.int .i64 ((aa ae gK).f0))).setCell ⟨gY, 1, none⟩ (.int .i64 ((aa ae gK).f1))).setCell ⟨gY, 2, none⟩ (.int .i64 ((aa ae gK).f2))).setCell ⟨gY, 3, none⟩ (.int .i64 ((aa ae gK).f3)))) := ⟨lb⟩
  (try clear gz)
  (try clear jv)
  (try clear fB)
  (try clear ky)
  (try clear HB)
  generalize ((((w24.setCell ⟨gY, 0, none⟩ (.int .i64 ((aa ae gK).f0))).setCell ⟨gY, 1, none⟩ (.int .i64 ((aa ae gK).f1))).setCell ⟨gY, 2, none⟩ (.int .i64 ((aa ae gK).f2))).setCell ⟨gY, 3, none⟩ (.int .i64 ((aa ae gK).f3))) = w27 at n0_ n1_ n2_ n3_ n4_ ⊢
  have gz := n0_; have jv := n1_; have fB := n2_; have ky := n3_; have HB := n4_; clear n0_ n1_ n2_ n3_ n4_; have n_ := a5 (Kd.fH gz.out) (Kd.fH jv.out) (aK fB.out) (aK ky.out) (bJ HB.out); clear gz jv fB ky HB; obtain ⟨gz, jv, fB, ky, HB⟩ := n_; obtain ⟨Ao29, co29, eo29⟩ := Kd.bT gz.out
  (first | subst eo29 | (injection eo29 with f1_ f2_ f3_; have f4_ := f1_.symm; have f5_ := f3_.symm; clear f1_ f2_ f3_; subst f4_; subst f5_))
  obtain ⟨p453, q453, TB, e453, xA⟩ := wq (Kd.bB (Kd.aA gz.out).2.2 ((aa ae gK).f0)); cases e453; obtain ⟨p454, q454, YQ, e454, xB⟩ := wq (Kd.bB (Kd.aA gz.out).2.2 ((aa ae gK).f1))
  obtain rfl : TB = YQ := (by injection e454)
  refine stC 14 [] (cX (bc0 ky) (cX (bc1 ky) (cX (bc2 ky) (cX (bc3 ky) (cX xA (cY xB)))))) ah.SQ ah.JZ fun hHeld HT_ HW_ => ?_
  generalize w27.drew = w28 at gz jv fB ky HB xA xB hHeld ⊢
  refine pv HT_ 0 35 ?_; refine pv HT_ 1 36 ?_; refine pv HT_ 5 40 ?_; refine pv HT_ 8 43 ?_; refine pv HT_ 9 44 ?_; refine tv HT_ HW_ hHeld 2 37 ?_; refine pv HT_ 3 38 ?_; refine tv HT_ HW_ hHeld 4 39 ?_; refine tv HT_ HW_ hHeld 6 41 ?_; refine pv HT_ 7 42 ?_; refine tv HT_ HW_ hHeld 10 45 ?_; refine pv HT_ 11 46 ?_; refine tv HT_ HW_ hHeld 12 47 ?_; refine pv HT_ 13 48 ?_
  refine kN (fV HT_.out (by kernel_rfl)) ?_
  try go_wp2
  have n_ := a5 (Kd.fH gz.out) (Kd.fH jv.out) (aK fB.out) (aK ky.out) (bJ HB.out); clear gz jv fB ky HB; obtain ⟨gz, jv, fB, ky, HB⟩ := n_; obtain ⟨p455, q455, ad455, e455, Jn⟩ := wq (Kd.bB (Kd.aA gz.out).2.2 ((aa ae gK).f0))
  obtain rfl : TB = ad455 := (by injection e455); have p20 : 0 ≤ (((aa ae gK).f1) : Int) := oda; have q20 : (((aa ae gK).f1) : Int) < ((oU.length : Int) : Int) := oda
  obtain ⟨go20, co20, eo20, gb20, gl20, cl20, HG20⟩ := Kd.l9 gz.out (by omega)
  (first | cases eo20 | (injection eo20 with ea_ en_ ec_; (first | subst ea_ | (injection ea_ with ea_; subst ea_)); subst ec_; clear en_))
  have GB20 := ak gb20; have GG20 := ak HG20; clear gb20 gl20 HG20
  (first | simp only [add_plain] at xA | skip)
  (first | simp only [add_plain] at xB | skip)
  (first | simp only [add_plain] at Jn | skip)
  obtain ⟨adK, adL⟩ := Kd.gJ 0 gz.out (((aa ae gK).f1) : Int) p20 q20; replace p20 := eq_true p20; replace q20 := eq_true q20; have HP31 := Kd.wP gz.out (((aa ae gK).f1) : Int) (wrap64 ((rd oU ((aa ae gK).f0)) + ((aa ae gK).f3))); rw [← Ny456.out] at HP31; have HQ31 := ak HP31; clear HP31
  refine stC 13 [12] (cX (bc0 ky) (cX (bc1 ky) (cX (bc2 ky) (cX (bc3 ky) (cY Jn))))) ah.VC ah.Me fun hHeld HT_ HW_ => ?_
  generalize w28.drew = w30 at gz jv fB ky HB GG20 HQ31 adL adK xA xB Jn hHeld ⊢
  refine pv HT_ 0 49 ?_; refine pv HT_ 1 50 ?_; refine pv HT_ 3 52 ?_; refine pv HT_ 4 53 ?_; refine pv HT_ 8 57 ?_; refine tv HT_ HW_ hHeld 2 51 ?_; refine tv HT_ HW_ hHeld 5 54 ?_; refine pv HT_ 6 55 ?_; refine tv HT_ HW_ hHeld 7 56 ?_; refine tv HT_ HW_ hHeld 9 58 ?_; refine pv HT_ 10 59 ?_; refine pv HT_ 11 60 ?_
  refine um (i := 12) (N := none) #[T, T, T, T, T, T, T, T, T, T, T, T, T] rfl rfl (gP HT_.out (by kernel_rfl)) (by decide) (fun K hK => ?_)
  refine tV (w1 := ?_) (by rfl) rfl ?_ ?_
  rotate_left
  ·
   go_simp
   rfl
  refine hK.out _ _ ?_
  clear hK K
  refine kN (fV HT_.out (by kernel_rfl)) ?_
  have n0_ : ag (Kd.R (Kd.int .i64) 2 (w30.setCell ⟨go20, (((aa ae gK).f1) : Int).toNat, none⟩ (.int .i64 (wrap64 ((rd oU ((aa ae gK).f0)) + ((aa ae gK).f3))))) w.heap.size (fun _ => True) (.slice (some ⟨go20, 0, none⟩) oU.length co29) y456) := ⟨by (with_reducible repeat (first | apply Kd.pq | apply Kd.oD | apply Kd.fH)); exact HQ31.out⟩
  have n1_ : ag (Kd.R (Kd.int .i64) 3 (w30.setCell ⟨go20, (((aa ae gK).f1) : Int).toNat, none⟩ (.int .i64 (wrap64 ((rd oU ((aa ae gK).f0)) + ((aa ae gK).f3))))) w.heap.size (fun _ => True) aan tT) := ⟨by exact rx (Kd.cO (Kd.dN (p := ⟨go20, (((aa ae gK).f1) : Int).toNat, none⟩) (Kd.fC jv.out GG20.out (by decide)) (fun _ hk => hk.2) (.int .i64 (wrap64 ((rd oU ((aa ae gK).f0)) + ((aa ae gK).f3))))) (fun _ hk => trivial))⟩
  have n2_ : ag ((w30.setCell ⟨go20, (((aa ae gK).f1) : Int).toNat, none⟩ (.int .i64 (wrap64 ((rd oU ((aa ae gK).f0)) + ((aa ae gK).f3))))).heap[Jm]? = some (.cells #[.int .i64 ay, .slice (some TA) ae.length bN] 24 (0, 0))) := ⟨by (with_reducible repeat (first | refine dw ?_ _ | refine aK ?_ | refine bg ?_ _)); refine dY ?_ (by have h_ := Kd.gQ gz.out fB.out (by decide); intro e_; exact h_ (by rw [e_]; rfl)) _; exact bx fB.out⟩
  have n3_ : ag ((w30.setCell ⟨go20, (((aa ae gK).f1) : Int).toNat, none⟩ (.int .i64 (wrap64 ((rd oU ((aa ae gK).f0)) + ((aa ae gK).f3))))).heap[gY]? = some (.cells #[.int .i64 ((aa ae gK).f0), .int .i64 ((aa ae gK).f1), .int .i64 ((aa ae gK).f2), .int .i64 ((aa ae gK).f3)] 98 (0, 0))) := ⟨by (with_reducible repeat (first | refine dw ?_ _ | refine aK ?_ | refine bg ?_ _)); refine dY ?_ (by have h_ := Kd.gQ gz.out ky.out (by decide); intro e_; exact h_ (by rw [e_]; rfl)) _; exact bx ky.out⟩
  have n4_ : ag (Below w.heap.size w (w30.setCell ⟨go20, (((aa ae gK).f1) : Int).toNat, none⟩ (.int .i64 (wrap64 ((rd oU ((aa ae gK).f0)) + ((aa ae gK).f3)))))) := ⟨by repeat (first | (with_reducible first | exact HB.out | apply fE | apply gq | apply bJ | refine bR ?_ GB20.out | refine bR ?_ GE444.out | refine bR ?_ adJ.out) | exact HB.out)⟩
  (try clear gz)
  (try clear jv)
  (try clear fB)
  (try clear ky)
  (try clear HB)
  generalize (w30.setCell ⟨go20, (((aa ae gK).f1) : Int).toNat, none⟩ (.int .i64 (wrap64 ((rd oU ((aa ae gK).f0)) + ((aa ae gK).f3))))) = w32 at n0_ n1_ n2_ n3_ n4_ ⊢
  have gz := n0_; have jv := n1_; have fB := n2_; have ky := n3_; have HB := n4_; clear n0_ n1_ n2_ n3_ n4_; have ⟨_, _, _, _, _, _, _, _⟩ := cf4 ky; have p22 : 0 ≤ (((aa ae gK).f1) : Int) := oda; have q22 : (((aa ae gK).f1) : Int) < ((tT.length : Int) : Int) := oda
  obtain ⟨go22, co22, eo22, gb22, gl22, cl22, HG22⟩ := Kd.l9 jv.out (by omega)
  (first | cases eo22 | (injection eo22 with ea_ en_ ec_; (first | subst ea_ | (injection ea_ with ea_; subst ea_)); subst ec_; clear en_))
  have GB22 := ak gb22; have GG22 := ak HG22; clear gb22 gl22 HG22; obtain ⟨adM, adN⟩ := Kd.gJ 0 jv.out (((aa ae gK).f1) : Int) p22 q22; replace p22 := eq_true p22; replace q22 := eq_true q22; obtain ⟨hy34_, hz34_⟩ := Kd.gJ 0 jv.out (((aa ae gK).f1) : Int) (oda) (oda); have HP34 := Kd.lL jv.out (((aa ae gK).f1) : Int) gK
  try go_wp2_with (first | ((with_reducible refine fG (t := 3) (p := 65) rfl ?_); refine eQ (t := 3) (p := 65) (v := ?vo_w35) (w1 := (w32.setCell ⟨go22, (((aa ae gK).f1) : Int).toNat, none⟩ (.int .i64 gK))) ?hg ?ho ?hn ?hr ?_; (case ho => rfl); (case hg => rfl); (case hn => rfl); (case hr => first | (go_simp; done) | (go_simp; rfl)); intro w35 hw; have hg : w32.grownBy w35 (some go22) := (by rw [hw]; exact HP34.2); have hp_ : Kd.R (Kd.int .i64) 3 w35 w.heap.size (fun _ => True) (.slice (some ⟨go22, 0, none⟩) tT.length co22) y457 := (by rw [hw, Ny457.out]; exact HP34.1); clear HP34; have n_ := a5 (Kd.jB (v := (.slice (some ⟨go22, 0, none⟩) tT.length co22)) (rx gz.out) (Kd.ji jv.out) (by decide) hg) hp_ (bH (bx fB.out) hg (Kd.gQ jv.out fB.out (by decide))) (bH (bx ky.out) hg (Kd.gQ jv.out ky.out (by decide))) (by rw [hw]; exact bR (HB.out) GB22.out : Below w.heap.size w w35); clear gz jv fB ky HB; obtain ⟨gz, jv, fB, ky, HB⟩ := n_; clear hg hw hp_; have ⟨_, _, _, _, _, _, _, _⟩ := cf4 ky))
  go_roundg k2
  case measure => have := HK1.out; have := HK2.out; omega
  case rel => exact ⟨(y456), (y457), ((aa ae gK).f1), (wrap64 (gK + 1)), sr, sr, H', ⟨by have := HK1.out; have := HK2.out; omega⟩, ⟨rx gz.out⟩, ⟨rx jv.out⟩, xb fB, ⟨lb⟩⟩
 rw [if_neg c11] at H; have c11b0 := decide_eq_false c11; clear c11
 by_cases c45 : bV < 0
 ·
  rw [if_pos c45] at H; have c45b0 := decide_eq_true c45; clear c45; obtain rfl := Option.some.inj H; have ⟨_, _, _, _⟩ := cf2 fB
  go_wp2
  go_ret
  exact ⟨_, by first | rfl | (simp [dx, dz] <;> rfl) | (simp [*, dx, dz] <;> rfl), by first | exact Kd.uo _ _ _ _ _ | exact Kd.yP _ _ _ _ _ | exact Kd.uw _ _ _ _ _ | exact Kd.yN _ _ _ _ _ | exact Kd.yO _ _ _ _ _, lb⟩
 rw [if_neg c45] at H; have c45b0 := decide_eq_false c45; clear c45; have H' := ak H; clear H; have ⟨_, _, _, _⟩ := cf2 fB
 go_wp2
 go_loopg [5, 9] k1 (fun kq v5 v9 w' => ∃ (oh : Int) (eP : Int), v5 = .int .i64 oh ∧ v9 = .int .i64 eP ∧ ag (ah.l2 kq kJ oh eP ay ae = some r) ∧ ag (kq ≤ k1) ∧ ag (Kd.R (Kd.int .i64) 3 w' w.heap.size (fun _ => True) aan kJ) ∧ ag (w'.heap[Jm]? = some (.cells #[.int .i64 ay, (.slice bX ae.length bN)] 24 (0, 0))) ∧ ag (Below w.heap.size w w'))
 case atStart => exact ⟨(bV), (0), sr, sr, H', ⟨Nat.le_refl _⟩, ⟨rx jv.out⟩, xb fB, ⟨lb⟩⟩
 clear H'; obtain ⟨oh, eP, rfl, rfl, HA, HK2, jv, fB, HB⟩ := hrel
 cases gk with
 | zero => exact absurd HA.out (by simp [ah.l2])
 | succ k2 => ?_
 have H := HA.out; clear HA
 simp only [ah.l2] at H
 by_cases c48 : eP < ay
 ·
  rw [if_pos c48] at H; have c48b0 := decide_eq_true c48; clear c48; replace H := if3 H; obtain ⟨c49b0, c50b0, c51b0, H⟩ := H; replace H := ifd H; obtain ⟨c52b0, H⟩ := H; have H' := ak H; clear H; have ⟨_, _, _, _⟩ := cf2 fB
  try go_wp2
  have n_ := a3 (Kd.fH jv.out) (aK fB.out) (bJ HB.out); clear jv fB HB; obtain ⟨jv, fB, HB⟩ := n_; obtain ⟨Ao55, co55, eo55⟩ := Kd.bT jv.out
  (first | subst eo55 | (injection eo55 with f1_ f2_ f3_; have f4_ := f1_.symm; have f5_ := f3_.symm; clear f1_ f2_ f3_; subst f4_; subst f5_))
  obtain ⟨p458, q458, ad458, e458, Qu⟩ := wq (Kd.bB (Kd.aA jv.out).2.2 oh); cases e458; obtain ⟨p459, q459, ad459, e459, FI, FJ, FL, FM⟩ := wq (dU bU.out (rd kJ oh)); have YT := FM; have YU := FL; have YV := FJ; have YW := FI; cases e459
  (try replace FI := hbc HB FI)
  (try replace FJ := hbc HB FJ)
  (try replace FL := hbc HB FL)
  (try replace FM := hbc HB FM)
  refine stC 10 [] (cX (bc0 fB) (cX (bc1 fB) (cX Qu (cX (hbc HB YW) (cX (hbc HB YV) (cX (hbc HB YU) (cY (hbc HB YT)))))))) ah.tab21 ah.adE fun hHeld HT_ HW_ => ?_
  generalize wr.drew = w54 at jv fB HB Qu FI FJ FL FM hHeld ⊢
  refine pv HT_ 0 76 ?_; refine pv HT_ 2 78 ?_; refine pv HT_ 3 79 ?_; refine pv HT_ 4 80 ?_; refine tv HT_ HW_ hHeld 1 77 ?_; refine tv HT_ HW_ hHeld 5 81 ?_; refine pv HT_ 6 82 ?_; refine pv HT_ 7 83 ?_; refine tv HT_ HW_ hHeld 8 84 ?_; refine pv HT_ 9 5 ?_
  refine kN (fV HT_.out (by kernel_rfl)) ?_
  try go_wp2
  go_roundg k2
  case measure => have := HK1.out; have := HK2.out; omega
  case rel => exact ⟨((aa ae (rd kJ oh)).f0), (wrap64 (eP + 1)), sr, sr, H', ⟨by have := HK1.out; have := HK2.out; omega⟩, ⟨rx jv.out⟩, xb fB, ⟨lb⟩⟩
 rw [if_neg c48] at H; have c48b0 := decide_eq_false c48; clear c48; replace H := if2 H; obtain ⟨c56b0, c57b0, H⟩ := H; obtain ⟨y461, YX⟩ : ∃ y_ : List Int, y_ = (([rd kJ oh] : List Int)) := ⟨_, rfl⟩; replace H : (ah.l3 k2 kJ oh y461 ay ae) = some r := by first | (rw [YX]; exact H) | exact H
 have adO := ak YX; clear YX; have H' := ak H; clear H; have ⟨_, _, _, _⟩ := cf2 fB; obtain ⟨Ao59, co59, eo59⟩ := Kd.bT jv.out; subst eo59; obtain ⟨p460, q460, Qv, e460, hx460_0⟩ := wq (Kd.bB (Kd.aA jv.out).2.2 oh); cases e460
 go_wp2_with (first | ((with_reducible refine aC (N := 89) rfl ?_); refine Kd.ut (Kd.int .i64) _ 3 ?hg (N := 89) ?hd (xs := ([rd kJ oh] : List Int)) (inner := [.int .i64 (rd kJ oh)]) (ok := fun _ => True) (okp := fun _ => True) ?hr ?hp (fun _ hk => hk) trivial (Below.refl _ _) (Nat.le_refl _) (by simp) ?_; (case hd => rfl); (case hg => rfl); (case hr => first | (go_simp; done) | (go_simp; rfl)); (case hp => exact (je.one (show Kd.M (Kd.int .i64) _ _ _ (rd kJ oh) [.int .i64 (rd kJ oh)] from rfl) (je.none _ _))); intro v462 w60 ho61 hb hg_ hnew_; clear hg_ hnew_; (first | rw [← adO.out] at ho61 | (simp only [Int.reduceToNat] at ho61; rw [← adO.out] at ho61)); have n_ := a4 (Kd.dJ (rx jv.out) (Kd.fI ho61) hb) (Kd.bY (Kd.gF ho61 (Kd.mf (rx jv.out))) (ax lb)) (bo fB hb) (bl hb); clear jv fB HB; obtain ⟨jv, HO463, fB, HB⟩ := n_; clear hb ho61))
 go_loopg [10] k2 (fun kq v10 w' => ∃ (dS : List Int), ag (ah.l3 kq kJ oh dS ay ae = some r) ∧ ag (kq ≤ k2) ∧ ag (Kd.R (Kd.int .i64) 3 w' w.heap.size (fun k_ => some k_ ≠ (v10 : Value).ownBlock) (.slice (some Qv) kJ.length co59) kJ) ∧ ag (Kd.R (Kd.int .i64) 3 w' w.heap.size (fun k_ => some k_ ≠ ((.slice (some Qv) kJ.length co59) : Value).ownBlock) v10 dS) ∧ ag (w'.heap[Jm]? = some (.cells #[.int .i64 ay, (.slice bX ae.length bN)] 24 (0, 0))) ∧ ag (Below w.heap.size w w'))
 case atStart => exact ⟨(y461), H', ⟨Nat.le_refl _⟩, ⟨by exact rx (Kd.cO jv.out (fun _ hk => hk.2))⟩, ⟨by exact rx (Kd.cO HO463.out (fun _ hk => hk.2))⟩, xb fB, ⟨lb⟩⟩
 clear H'; obtain ⟨dS, HA, HK3, jv, fU, fB, HB⟩ := hrel
 cases gk with
 | zero => exact absurd HA.out (by simp [ah.l3])
 | succ k3 => ?_
 have H := HA.out; clear HA
 simp only [ah.l3] at H
 replace H := ifn H; obtain ⟨c62, H⟩ := H; have c62b0 := decide_eq_true c62
 have c62b1 : decide (0 < dS.length) = true := decide_eq_true (by omega)
 clear c62; replace H := if2 H; obtain ⟨c63b0, c64b0, H⟩ := H
 by_cases c65 : ((aa ae (rd dS 0)).f0) = oh
 ·
  rw [if_pos c65] at H; have c65b := be2 c65; clear c65; obtain rfl := Option.some.inj H
  try go_wp2
  have n_ := a4 (Kd.fH jv.out) (Kd.fH fU.out) (aK fB.out) (bJ HB.out); clear jv fU fB HB; obtain ⟨jv, fU, fB, HB⟩ := n_; obtain ⟨Ao67, co67, eo67⟩ := Kd.bT fU.out
  (first | subst eo67 | (injection eo67 with f1_ f2_ f3_; have f4_ := f1_.symm; have f5_ := f3_.symm; clear f1_ f2_ f3_; subst f4_; subst f5_))
  have YY : 0 ≤ (0 : Int) := (by omega)
  have YZ : 0 < (dS.length : Int) := oda; obtain ⟨TC, e464, tq⟩ := Kd.bB (Kd.aA fU.out).2.2 0 YY YZ; cases e464
  have qi464 : (0 < dS.length) = True := eq_true (by omega)
  (try rw [show ((0 : Int)).toNat = 0 from rfl] at tq)
  (try rw [Addr.add_zero'] at tq)
  replace YY := eq_true YY; replace YZ := eq_true YZ; obtain ⟨p465, q465, adP, e465, tu, tC, tF, tH⟩ := wq (dU bU.out (rd dS 0)); have Jo := tH; have Jp := tF; have Jq := tC; have Jr := tu; cases e465
  (try replace tu := hbc HB tu)
  (try replace tC := hbc HB tC)
  (try replace tF := hbc HB tF)
  (try replace tH := hbc HB tH)
  refine stC 10 [] (cX (bc0 fB) (cX (bc1 fB) (cX tq (cX (hbc HB Jr) (cX (hbc HB Jq) (cX (hbc HB Jp) (cY (hbc HB Jo)))))))) ah.adF ah.UX fun hHeld HT_ HW_ => ?_
  generalize wr.drew = w66 at jv fU fB HB tq tu tC tF tH hHeld ⊢
  refine pv HT_ 0 90 ?_; refine pv HT_ 2 92 ?_; refine pv HT_ 3 93 ?_; refine pv HT_ 8 98 ?_; refine tv HT_ HW_ hHeld 1 91 ?_; refine tv HT_ HW_ hHeld 4 94 ?_; refine pv HT_ 5 95 ?_; refine pv HT_ 6 96 ?_; refine tv HT_ HW_ hHeld 7 97 ?_; refine pv HT_ 9 99 ?_
  refine kN (fV HT_.out (by kernel_rfl)) ?_
  try go_wp2
  go_ret
  exact ⟨_, by first | rfl | (simp [dx, dz] <;> rfl) | (simp [*, dx, dz] <;> rfl), by exact rx (Kd.cO fU.out (fun _ hk => trivial)), lb⟩
 rw [if_neg c65] at H; have c65b := bn2 c65; replace H := if2 H; obtain ⟨c68b0, c69b0, H⟩ := H; obtain ⟨YN, Y0⟩ : ∃ y_ : List Int, y_ = (([rd kJ ((aa ae (rd dS 0)).f0)] : List Int)) := ⟨_, rfl⟩; replace H : (if YN.length + dS.length < 17592186044416 then (ah.l3 k3 kJ oh (YN ++ dS) ay ae) else (none)) = some r := by first | (rw [Y0]; exact H) | exact H
 have adQ := ak Y0; clear Y0; replace H := ifn H; obtain ⟨c70, H⟩ := H; have LMc70 := ak c70; clear c70; obtain ⟨y472, Y1⟩ : ∃ y_ : List Int, y_ = (YN ++ dS) := ⟨_, rfl⟩; replace H : (ah.l3 k3 kJ oh y472 ay ae) = some r := by first | (rw [Y1]; exact H) | exact H
 have Ny472 := ak Y1; clear Y1; have H' := ak H; clear H
 try go_wp2
 have n_ := a4 (Kd.fH jv.out) (Kd.fH fU.out) (aK fB.out) (bJ HB.out); clear jv fU fB HB; obtain ⟨jv, fU, fB, HB⟩ := n_; obtain ⟨Ao72, co72, eo72⟩ := Kd.bT fU.out
 (first | subst eo72 | (injection eo72 with f1_ f2_ f3_; have f4_ := f1_.symm; have f5_ := f3_.symm; clear f1_ f2_ f3_; subst f4_; subst f5_))
 have YY : 0 ≤ (0 : Int) := (by omega)
 have YZ : 0 < (dS.length : Int) := oda; obtain ⟨TC, e464, tq⟩ := Kd.bB (Kd.aA fU.out).2.2 0 YY YZ; cases e464
 have qi464 : (0 < dS.length) = True := eq_true (by omega)
 (try rw [show ((0 : Int)).toNat = 0 from rfl] at tq)
 (try rw [Addr.add_zero'] at tq)
 replace YY := eq_true YY; replace YZ := eq_true YZ; obtain ⟨p465, q465, adP, e465, tu, tC, tF, tH⟩ := wq (dU bU.out (rd dS 0)); have Jo := tH; have Jp := tF; have Jq := tC; have Jr := tu; cases e465
 (try replace tu := hbc HB tu)
 (try replace tC := hbc HB tC)
 (try replace tF := hbc HB tF)
 (try replace tH := hbc HB tH)
 refine stC 10 [] (cX (bc0 fB) (cX (bc1 fB) (cX tq (cX (hbc HB Jr) (cX (hbc HB Jq) (cX (hbc HB Jp) (cY (hbc HB Jo)))))))) ah.adF ah.UX fun hHeld HT_ HW_ => ?_
 generalize wr.drew = w71 at jv fU fB HB tq tu tC tF tH hHeld ⊢
 refine pv HT_ 0 90 ?_; refine pv HT_ 2 92 ?_; refine pv HT_ 3 93 ?_; refine pv HT_ 8 98 ?_; refine tv HT_ HW_ hHeld 1 91 ?_; refine tv HT_ HW_ hHeld 4 94 ?_; refine pv HT_ 5 95 ?_; refine pv HT_ 6 96 ?_; refine tv HT_ HW_ hHeld 7 97 ?_; refine pv HT_ 9 99 ?_
 refine kN (fV HT_.out (by kernel_rfl)) ?_
 try go_wp2
 have n_ := a4 (Kd.fH jv.out) (Kd.fH fU.out) (aK fB.out) (bJ HB.out); clear jv fU fB HB; obtain ⟨jv, fU, fB, HB⟩ := n_
 have p466 : 0 ≤ (0 : Int) := (by omega)
 have q466 : 0 < (dS.length : Int) := oda; obtain ⟨ad466, e466, FN⟩ := Kd.bB (Kd.aA fU.out).2.2 0 p466 q466
 obtain rfl : TC = ad466 := (by injection e466)
 have qi466 : (0 < dS.length) = True := eq_true (by omega)
 (try rw [show ((0 : Int)).toNat = 0 from rfl] at FN)
 (try rw [Addr.add_zero'] at FN)
 replace p466 := eq_true p466; replace q466 := eq_true q466; obtain ⟨p467, q467, ad467, e467, FO, FP, FQ, FR⟩ := wq (dU bU.out (rd dS 0)); have Qw := FR; have Qx := FQ; have Qy := FP; have Qz := FO
 obtain rfl : adP = ad467 := (by injection e467)
 (try replace FO := hbc HB FO)
 (try replace FP := hbc HB FP)
 (try replace FQ := hbc HB FQ)
 (try replace FR := hbc HB FR); obtain ⟨p468, q468, ad468, e468, QA⟩ := wq (Kd.bB (Kd.aA jv.out).2.2 ((aa ae (rd dS 0)).f0))
 obtain rfl : Qv = ad468 := (by injection e468)
 refine stC 15 [13] (cX (bc0 fB) (cX (bc1 fB) (cX FN (cX (hbc HB Qz) (cX (hbc HB Qy) (cX (hbc HB Qx) (cX (hbc HB Qw) (cY QA)))))))) ah.tab24 ah.adG fun hHeld HT_ HW_ => ?_
 generalize w71.drew = w73 at jv fU fB HB FN FO FP FQ FR QA hHeld ⊢
 refine pv HT_ 0 100 ?_; refine pv HT_ 1 101 ?_; refine pv HT_ 3 103 ?_; refine pv HT_ 4 104 ?_; refine pv HT_ 12 112 ?_; refine tv HT_ HW_ hHeld 2 102 ?_; refine tv HT_ HW_ hHeld 5 105 ?_; refine pv HT_ 6 106 ?_; refine pv HT_ 7 107 ?_; refine tv HT_ HW_ hHeld 8 108 ?_; refine pv HT_ 9 109 ?_; refine tv HT_ HW_ hHeld 10 110 ?_
 refine wT (i := 11) (N := some 111) #[T, T, T, T, T, T, T, T, T, T, T, T, T, F, F] rfl rfl (gP HT_.out (by kernel_rfl)) (by decide) (fun K hK => ?_)
 refine Kd.DY (Kd.int .i64) _ 3 ?hg (N := 111) ?hd (xs := ([rd kJ ((aa ae (rd dS 0)).f0)] : List Int)) (inner := [.int .i64 (rd kJ ((aa ae (rd dS 0)).f0))]) (ok := fun _ => True) (okp := fun _ => True) ?hr ?hp (fun _ hk => hk) trivial (Below.refl _ _) (Nat.le_refl _) (by simp) ?_; (case hd => rfl); (case hg => rfl); (case hr => first | (go_simp; done) | (go_simp; rfl)); (case hp => exact (je.one (show Kd.M (Kd.int .i64) _ _ _ (rd kJ ((aa ae (rd dS 0)).f0)) [.int .i64 (rd kJ ((aa ae (rd dS 0)).f0))] from rfl) (je.none _ _)))
 intro v470 w74 ho75 hb hg_ hnew_; have HS2_ := (hb.cell (World.block_lt_of_cell? _ _ (hHeld.2.2.1))).trans (hHeld.2.2.1); have HS7_ := (hb.cell (World.block_lt_of_cell? _ _ (hHeld.2.2.2.2.2.2.2))).trans (hHeld.2.2.2.2.2.2.2); clear hg_ hnew_
 (first | rw [← adQ.out] at ho75 | (simp only [Int.reduceToNat] at ho75; rw [← adQ.out] at ho75))
 have n_ := a5 (Kd.dJ (rx jv.out) (Kd.fI ho75) hb) (Kd.dJ (rx fU.out) (Kd.fI ho75) hb) (Kd.bY (Kd.gF (Kd.gF ho75 (Kd.mf (rx jv.out))) (Kd.mf (rx fU.out))) (ax lb)) (bo fB hb) (bl hb); clear jv fU fB HB; obtain ⟨jv, fU, Y2, fB, HB⟩ := n_; clear hb ho75
 refine hK.out _ _ ⟨(aH fB.out 0).trans rfl, (aH fB.out 1).trans rfl, HS2_, (hbc HB Qz), (hbc HB Qy), (hbc HB Qx), (hbc HB Qw), HS7_⟩ (fun hHeld => ?_)
 clear hK K
 refine ol (a' := ?_) ?_ ?_
 rotate_left
 ·
  show Act.put _ (some 111) _ = _
  simp only [Act.put, sA, sZ, sS, jA, jG]
  rfl
 refine um (i := 13) (N := some 113) #[T, T, T, T, T, T, T, T, T, T, T, T, T, T, F] rfl rfl (gP HT_.out (by kernel_rfl)) (by decide) (fun K hK => ?_)
 refine Kd.xP (Kd.int .i64) (w0 := w) w.heap.size (by rfl) (.tmp 111) (.tmp 112) 70 3 (.int .i64 0) 8 rfl Try.underlying70 info3 rfl (by decide) (by omega) v470 YN dS _ _ _ (fun k_ => some k_ ≠ (.slice (some Qv) kJ.length co59 : Value).ownBlock ∧ some k_ ≠ (.slice (some TC) dS.length co72 : Value).ownBlock) (fun _ => False) rfl rfl ?aO ?aR (fun _ _ h => h) (fun _ h => h.elim) ?aF ?aB ?aS ?aL ?_
 (case aR => repeat (first | exact (Kd.aA fU.out).2.2 | (with_reducible refine Kd.nD ?_ _) | (with_reducible refine Kd.nE ?_ _) | (with_reducible refine Kd.rq ?_)))
 (case aB => exact lb)
 (case aF => exact (fun k_ hk => ⟨Kd.fresh' (Kd.mf (rx jv.out)) k_ hk, Kd.fresh' (Kd.mf (rx fU.out)) k_ hk⟩))
 (case aO => exact (by exact rx (Kd.cO Y2.out (fun _ hk => ⟨hk.1.2, hk.2⟩))))
 (case aS => exact (ax lb))
 (case aL => have := LMc70.out; omega)
 intro v473 w76 ho hb hg hat; rw [← Ny472.out] at ho
 have n_ := a5 (Kd.qa (ok := (fun k_ => some k_ ≠ (.slice (some TC) dS.length co72 : Value).ownBlock)) (rx jv.out) hg hat) (Kd.qa (ok := (fun k_ => some k_ ≠ (.slice (some Qv) kJ.length co59 : Value).ownBlock)) (rx fU.out) hg hat) (bH (bx fB.out) hg (Kd.gQ Y2.out fB.out (by decide))) hb ho; clear jv fU fB HB Y2; obtain ⟨jv, fU, fB, HB, HO474⟩ := n_
 clear ho hb hg hat
 refine hK.out _ _ ?_
 clear hK K
 refine ol (a' := ?_) ?_ ?_
 rotate_left
 ·
  show Act.put _ (some 113) _ = _
  simp only [Act.put, sA, sZ, sS, jA, jG]
  rfl
 refine pv HT_ 14 10 ?_
 refine kN (fV HT_.out (by kernel_rfl)) ?_
 try go_wp2
 go_roundg k3
 case measure => have := HK1.out; have := HK2.out; have := HK3.out; omega
 case rel => exact ⟨(y472), H', ⟨by have := HK1.out; have := HK2.out; have := HK3.out; omega⟩, ⟨by exact rx (Kd.cO jv.out (fun _ hk => hk.2))⟩, ⟨by exact rx (Kd.cO HO474.out (fun _ hk => hk.1))⟩, xb fB, ⟨lb⟩⟩
end Go.Proofs.Ytkdoihcjhccliaa.Q
