import Derived.Test.YtkdoihcjhccliaaK
import Derived.Test.YtkdoihcjhccliaaV
import Derived.Test.YtkdoihcjhccliaaQ0
import Derived.Test.YtkdoihcjhccliaaQ3
import Derived.Test.YtkdoihcjhccliaaQ23
import Derived.Test.YtkdoihcjhccliaaQ60
import Derived.Test.YtkdoihcjhccliaaQ62
import Derived.Test.YtkdoihcjhccliaaQ63
import Derived.Test.YtkdoihcjhccliaaQ64
import Derived.Test.YtkdoihcjhccliaaQ66
import Derived.Test.YtkdoihcjhccliaaQ67
import Derived.Test.YtkdoihcjhccliaaQ73
import Derived.Test.YtkdoihcjhccliaaQ76
namespace Go.Proofs.Ytkdoihcjhccliaa.Q
open Go.RowKit Go.Proofs.YtkdoihcjhccliaaW.PrintWords Go.Proofs.YtkdoihcjhccliaaW.PrintLast Go.Proofs.YtkdoihcjhccliaaW.PrintMore
attribute [local go_sem] dF dG eG eH cz cB dH dI   -- for this text's walks alone
set_option linter.unusedVariables false
set_option linter.unusedSimpArgs false

/-! ### ai: function 34 -/
mutual
def ai.l0 : Nat → List Int → Int → Int → Int → Int → List (S98) → Int → List (S98) → Option (List Int × List Int × List Bool × Bool)
  | 0, _, _, _, _, _, _, _, _ => none
  | k + 1, x1, x9, x10, x11, nU, oK, Fs, y5 => if x11 < nU then (if 0 ≤ x11 then (if x11 < (x1.length : Int) then (if (rd x1 x11) > 0 then (if y5.length < 4398046511104 then (ai.l0 k x1 x9 (wrap64 (x10 + (rd x1 x11))) (wrap64 (x11 + 1)) nU oK Fs (y5 ++ [(⟨x9, x11, rd x1 x11, 0⟩ : S98)])) else (none)) else (if y5.length < 4398046511104 then (ai.l0 k x1 x9 x10 (wrap64 (x11 + 1)) nU oK Fs (y5 ++ [(⟨x11, wrap64 (x9 + 1), wrap64 (-(rd x1 x11)), 0⟩ : S98)])) else (none))) else (none)) else (none)) else ((aD.f k Fs y5 x9 (wrap64 (x9 + 1))).bind fun vC => ((bP.f k Fs y5 vC.1 x9).bind fun PN => (if PN < x10 then (if 0 ≤ nU then (if nU ≤ (vC.2.length : Int) then (some (([] : List Int), ([] : List Int), (vC.2.take (nU : Int).toNat), false)) else (none)) else (none)) else (if 0 ≤ (oK.length : Int) then (if (oK.length : Int) ≤ (vC.1.length : Int) then (ai.l1 k (vC.1.take ((oK.length : Int) : Int).toNat) nU oK) else (none)) else (none)))))
def ai.l1 : Nat → List Int → Int → List (S98) → Option (List Int × List Int × List Bool × Bool)
  | 0, _, _, _ => none
  | k + 1, x12, nU, oK => (aJ.f k nU oK x12).bind fun PO => ((bA.f k PO.1 PO.2).bind fun vD => ((ah.f k vD.1 vD.2.1).bind fun xM => (if (xM.length : Int) = 0 then ((bL.f k vD.1 vD.2.1).bind fun Cj => (some (x12, Cj.1, ([] : List Bool), true))) else (ai.l2 k x12 vD.2.2 xM ([] : List Int) 0 nU oK))))
def ai.l2 : Nat → List Int → List Int → List Int → List Int → Int → Int → List (S98) → Option (List Int × List Int × List Bool × Bool)
  | 0, _, _, _, _, _, _, _ => none
  | k + 1, x12, x15, x16, x19, x20, nU, oK => if x20 < (x16.length : Int) then (if 0 ≤ x20 then (if 0 ≤ (rd x16 x20) then (if (rd x16 x20) < (x15.length : Int) then (if x19.length < 17592186044416 then (ai.l2 k x12 x15 x16 (x19 ++ [rd x15 (rd x16 x20)]) (wrap64 (x20 + 1)) nU oK) else (none)) else (none)) else (none)) else (none)) else ((aJ.f k nU oK x12).bind fun G9 => ((bS.f k G9.1 G9.2 x19).bind fun PQ => ((bu.f k x12 x19 PQ).bind fun Lr => (ai.l1 k Lr nU oK))))
end
def ai.f (k : Nat) (ay : Int) (ae : List (S98)) (l1 : List Int) : Option (List Int × List Int × List Bool × Bool) := (bK.f k ay ae).bind fun Ha => (ai.l0 k l1 ay 0 0 ay ae (wrap64 (Ha.1 + 2)) Ha.2)
def ai.T9 : Bool × List (List Nat × List Nat) := (true, [([], []), ([0], [0]), ([], []), ([], []), ([], []), ([], []), ([4, 5], [4, 5]), ([6], [6]), ([2, 3, 7], [2, 3, 7]), ([8], [8]), ([1, 9], [1, 9]), ([0, 1, 2, 3, 4, 5, 6, 7, 8, 9, 10], []), ([11, 10, 10, 0, 1, 2, 3, 4, 5, 6, 7, 8, 9, 10], [10, 11])])
def ai.B9 : List Nat := [0, 1, 0, 0, 0, 0, 48, 112, 252, 508, 1023, 2047, 4095]
theorem ai.UW : oO .any (opsOf Try.f34 9) = ai.T9 := by kernel_rfl
theorem ai.GU : gM ai.T9.2 ai.B9 = true := by kernel_rfl
def ai.T11 : Bool × List (List Nat × List Nat) := (true, [([], []), ([0], [0]), ([], []), ([], []), ([3], [3]), ([], []), ([], []), ([5, 6], [5, 6]), ([7], [7]), ([8], [8]), ([2, 4, 9], [2, 4, 9]), ([10], [10]), ([1, 11], [1, 11]), ([0, 1, 2, 3, 4, 5, 6, 7, 8, 9, 10, 11, 12], []), ([13, 12, 12, 0, 1, 2, 3, 4, 5, 6, 7, 8, 9, 10, 11, 12], [12, 13])])
def ai.B11 : List Nat := [0, 1, 0, 0, 8, 0, 0, 96, 224, 480, 1020, 2044, 4095, 8191, 16383]
theorem ai.KG : oO .any (opsOf Try.f34 11) = ai.T11 := by kernel_rfl
theorem ai.Ed : gM ai.T11.2 ai.B11 = true := by kernel_rfl
def ai.T14 : Bool × List (List Nat × List Nat) := (true, [([], []), ([], []), ([1], [1]), ([0, 2], [0, 2]), ([], []), ([4, 4], []), ([3, 5, 0, 1, 2, 3, 4, 5], [3]), ([6, 0, 1, 2, 3, 4, 5, 6], [])])
def ai.B14 : List Nat := [0, 0, 2, 7, 0, 16, 63, 127]
theorem ai.tab14 : oO .any (opsOf Try.f34 14) = ai.T14 := by kernel_rfl
theorem ai.acX : gM ai.T14.2 ai.B14 = true := by kernel_rfl
set_option maxHeartbeats 8000000 in
set_option maxRecDepth 100000 in
theorem ai.calls (k : Nat) (ay : Int) (bX : Option Addr) (bN : Nat) (ae : List (S98)) (A1 : Option Addr) (c1 : Nat) (l1 : List Int) (r1 : List Int) (r2 : List Int) (r3 : List Bool) (r4 : Bool) (w : World) (dB : Kd.C k98 w bX ae.length ae) (dC : ae.length ≤ bN) (hr1 : Kd.C (Kd.int .i64) w A1 l1.length l1) (hc1 : l1.length ≤ c1) (h : ai.f k ay ae l1 = some (r1, r2, r3, r4)) :
    Calls Try.prog 34 #[.agg #[.int .i64 ay, .slice bX ae.length bN], .slice A1 l1.length c1] w fun e w' => ∃ v0_ v1_ v2_ : Value, e = .returned (.tuple #[v0_, v1_, v2_, .bool r4]) ∧ Kd.R (Kd.int .i64) 2 w' w.heap.size (fun k_ => (w.heap.size ≤ k_)) v0_ r1 ∧ Kd.V (Kd.int .i64) 2 w' w.heap.size (fun k_ => (w.heap.size ≤ k_) ∧ some k_ ≠ (v0_ : Value).ownBlock ∧ some k_ ≠ (v2_ : Value).ownBlock) v1_ r2 ∧ Kd.R Kd.bool 4 w' w.heap.size (fun k_ => (w.heap.size ≤ k_)) v2_ r3 ∧ Below w.heap.size w w' := by
 have hu24 := Try.underlying24; have hu98 := Try.underlying98; have bU := ak dB; have eU := ak dC; clear dB dC; have HR1 := ak hr1; have HC1 := ak hc1; clear hr1 hc1; have HB := ak (Below.refl w.heap.size w); have H : ((bK.f k ay ae).bind fun Ha => (ai.l0 k l1 ay 0 0 ay ae (wrap64 (Ha.1 + 2)) Ha.2)) = some (r1, r2, r3, r4) := h; clear h; replace H := Option.bind_eq_some_iff.mp H; obtain ⟨⟨Gl, t597⟩, A30, H⟩ := H; dsimp only at H; have A3 := ak A30; clear A30; have H' := ak H; clear H
 go_enter Try.func34, Try.ntmps34
 go_wp2_with (first | ((with_reducible refine aC (N := 2) rfl ?_); refine bxe 2 #[.int .i64 ay, .slice bX ae.length bN] 24 ?_; intro PR hg w4 hbox hb; have n_ := a4 (bl hb) hbox (gw w hg) (gw w hg); clear HB; obtain ⟨HB, eZ, GW595, GE595⟩ := n_; clear hb hbox hg; have ⟨_, _, _, _⟩ := cf2 eZ) | ((with_reducible refine au (f := 70) rfl ?_); refine gl 22 Try.func70 #[.agg #[.int .i64 ay, .slice bX ae.length bN]] ?_; (with_reducible refine (bK.calls k ay _ _ ae Gl t597 _ (Kd.cZ bU.out lb) eU.out A3.out).mono ?_); rintro e w6 ⟨v598, rfl, ho0, hb⟩; refine ⟨_, rfl, ?_⟩; have n_ := a3 (Kd.bY (Kd.lg (M := fun k_ => (w.heap.size ≤ k_)) ho0 (ax lb) (fun k_ h_ => h_)) (ax lb)) (bo eZ hb) (bl hb); clear eZ HB; obtain ⟨PS, eZ, HB⟩ := n_; clear hb; (try clear ho0)) | ((with_reducible refine aC (N := 8) rfl ?_); refine bxe 8 #[.int .i64 0, .slice none 0 0] 24 ?_; intro y7 hg w7 hbox hb; have n_ := a8 (ro PS hb) (bo eZ hb) (bl hb) hbox (gw w hg) (gw w hg) (nl hg eZ) (nr hg eZ); clear PS eZ HB; obtain ⟨PS, eZ, HB, eO, GW600, GE600, nV, Ck⟩ := n_; clear hb hbox hg; have ⟨_, _⟩ := nn Ck; have ⟨_, _, _, _⟩ := cf2 eO; obtain ⟨Ao10, co10, eo10⟩ := Kd.bT PS.out; subst eo10; have ⟨_, _, _, _⟩ := cf2 eZ))
 go_loopg [10, 11] k (fun kq v10 v11 w' => ∃ (Hd : Int) (mH : Int) (gG : List (S98)) (xx : Value), v10 = .int .i64 Hd ∧ v11 = .int .i64 mH ∧ ag (ai.l0 kq l1 ay Hd mH ay ae (wrap64 (Gl + 2)) gG = some (r1, r2, r3, r4)) ∧ ag (kq ≤ k) ∧ ag (Kd.R k98 98 w' w.heap.size (fun k_ => (w.heap.size ≤ k_)) xx gG) ∧ ag (w'.heap[PR]? = some (.cells #[.int .i64 ay, (.slice bX ae.length bN)] 24 (0, 0))) ∧ ag (w'.heap[y7]? = some (.cells #[.int .i64 (wrap64 (Gl + 2)), xx] 24 (0, 0))) ∧ ag (Below w.heap.size w w'))
 case atStart => exact ⟨(0), (0), (t597), (.slice Ao10 t597.length co10), sr, sr, H', ⟨Nat.le_refl _⟩, ⟨by exact rx (Kd.cO (Kd.dN (p := ⟨y7, 0, none⟩) (Kd.dN (p := ⟨y7, 1, none⟩) (Kd.dN (p := ⟨y7, 0, none⟩) (Kd.fC PS.out eO.out (by decide)) (fun _ hk => hk.2) (.int .i64 Gl)) (fun _ hk => hk.2) (.slice Ao10 t597.length co10)) (fun _ hk => hk.2) (.int .i64 (wrap64 (Gl + 2)))) (fun _ hk => hk.1.1))⟩, ⟨bz⟩, ⟨bz⟩, ⟨lb⟩⟩
 clear H'; obtain ⟨Hd, mH, gG, xx, rfl, rfl, HA, HK1, bi, eZ, eO, HB⟩ := hrel
 cases gk with
 | zero => exact absurd HA.out (by simp [ai.l0])
 | succ k1 => ?_
 have H := HA.out; clear HA
 simp only [ai.l0] at H
 by_cases c12 : mH < ay
 rotate_left
 ·
  rw [if_neg c12] at H; have c12b0 := decide_eq_false c12; clear c12; replace H := Option.bind_eq_some_iff.mp H; obtain ⟨⟨Tt, acY⟩, A300, H⟩ := H; dsimp only at H; have A30 := ak A300; clear A300; replace H := Option.bind_eq_some_iff.mp H; obtain ⟨PN, A310, H⟩ := H; have A31 := ak A310; clear A310
  by_cases c32 : PN < Hd
  ·
   rw [if_pos c32] at H; have c32b0 := decide_eq_true c32; clear c32; replace H := ife H; obtain ⟨c33b0, c33b1, H⟩ := H; replace H := ife H; obtain ⟨c34b0, c34b1, H⟩ := H; obtain ⟨y618, X8⟩ : ∃ y_ : List Bool, y_ = (acY.take (ay : Int).toNat) := ⟨_, rfl⟩; replace H : (some (([] : List Int), ([] : List Int), y618, false)) = some (r1, r2, r3, r4) := by first | (rw [X8]; exact H) | exact H
   have acZ := ak X8; clear X8
   simp only [Option.some.injEq, Prod.mk.injEq] at H
   obtain ⟨rfl, rfl, rfl, rfl⟩ := H; have ⟨_, _⟩ := nn nV; have ⟨_, _, _, _⟩ := cf2 eZ; have ⟨_, _, _, _⟩ := cf2 eO; obtain ⟨Ao38, co38, eo38⟩ := Kd.bT bi.out; subst eo38
   try go_wp2_with (first | ((with_reducible refine au (f := 21) rfl ?_); refine gl 77 Try.func21 #[.agg #[.int .i64 (wrap64 (Gl + 2)), .slice Ao38 gG.length co38], .int .i64 ay, .int .i64 (wrap64 (ay + 1))] ?_; (with_reducible refine (aD.calls k1 (wrap64 (Gl + 2)) _ _ gG ay (wrap64 (ay + 1)) Tt acY _ ?side1 ?side2 A30.out).mono ?_); (case side1 => exact cR bi); (case side2 => exact (Kd.aA bi.out).2.1); rintro e w39 ⟨v612, v615, rfl, ho0, ho1, hb⟩; refine ⟨_, rfl, ?_⟩; have n_ := a6 (ro bi hb) (Kd.bY (Kd.lg (M := fun k_ => (w.heap.size ≤ k_)) ho0 (ax lb) (fun k_ h_ => h_)) (ax lb)) (Kd.bY (Kd.lg (M := fun k_ => (w.heap.size ≤ k_)) ho1 (ax lb) (fun k_ h_ => h_)) (ax lb)) (bo eZ hb) (bo eO hb) (bl hb); clear bi eZ eO HB; obtain ⟨bi, si, yu, eZ, eO, HB⟩ := n_; clear hb; (try clear ho0); (try clear ho1); have ⟨_, _, _, _⟩ := cf2 eO; obtain ⟨Ao41, co41, eo41⟩ := Kd.bT si.out; subst eo41) | ((with_reducible refine au (f := 18) rfl ?_); refine gl 83 Try.func18 #[.agg #[.int .i64 (wrap64 (Gl + 2)), .slice Ao38 gG.length co38], .slice Ao41 Tt.length co41, .int .i64 ay] ?_; (with_reducible refine (bP.calls k1 (wrap64 (Gl + 2)) _ _ gG _ _ Tt ay PN _ ?side1 ?side2 ?side3 ?side4 A31.out).mono ?_); (case side1 => exact cR bi); (case side2 => exact (Kd.aA bi.out).2.1); (case side3 => exact cR si); (case side4 => exact (Kd.aA si.out).2.1); rintro e w42 ⟨rfl, hb⟩; refine ⟨_, rfl, ?_⟩; have n_ := a6 (ro bi hb) (ro si hb) (ro yu hb) (bo eZ hb) (bo eO hb) (bl hb); clear bi si yu eZ eO HB; obtain ⟨bi, si, yu, eZ, eO, HB⟩ := n_; clear hb))
   have n_ := a6 (Kd.fH bi.out) (Kd.fH si.out) (Kd.fH yu.out) (aK eZ.out) (aK eO.out) (bJ HB.out); clear bi si yu eZ eO HB; obtain ⟨bi, si, yu, eZ, eO, HB⟩ := n_; obtain ⟨Ao44, co44, eo44⟩ := Kd.bT yu.out
   (first | subst eo44 | (injection eo44 with f1_ f2_ f3_; have f4_ := f1_.symm; have f5_ := f3_.symm; clear f1_ f2_ f3_; subst f4_; subst f5_))
   have q45 : (ay : Int) ≤ ((acY.length : Int) : Int) := oda; obtain ⟨i045, ac0, _, hsz45, _⟩ := info_parts IC; have hcut45 := Ux (P := Try.prog) 26 4 .i64 Try.underlying26 ac0 Ao44 acY.length co44 ay (oda) q45 (Kd.aA yu.out).2.1
   have hr45 := Kd.LV (m := (ay : Int).toNat) yu.out (by omega)
   have hy45 : y618.length = (ay : Int).toNat := (by rw [acZ.out, List.length_take]; omega)
   rw [← acZ.out] at hr45
   rw [← hy45] at hr45 hcut45
   clear hy45 ac0 hsz45 yu; have ac1 := ak hr45; clear hr45; replace q45 := eq_true q45
   refine stC 8 [] (cX (bc0 eZ) (cY (bc1 eZ))) ai.tab14 ai.acX fun hHeld HT_ HW_ => ?_
   generalize w42.drew = w43 at bi si eZ eO HB ac1 hHeld ⊢
   refine pv HT_ 0 86 ?_; refine pv HT_ 1 87 ?_; refine pv HT_ 4 4 ?_; refine pv HT_ 5 5 ?_; refine tv HT_ HW_ hHeld 2 88 ?_; refine pv HT_ 3 89 ?_; refine pv HT_ 6 6 ?_; refine pv HT_ 7 7 ?_
   refine kN (fV HT_.out (by kernel_rfl)) ?_
   try go_wp2
   refine bodyPost_ret (ru (rs := [.tmp 4, .tmp 5, .tmp 6, .tmp 7]) rfl (by simp) (.tmp (.tmp (.tmp (.tmp .nil))))) rfl ?_
   exact ⟨_, _, _, by first | rfl | (simp [dx, dz] <;> rfl) | (simp [*, dx, dz] <;> rfl), by first | exact Kd.uo _ _ _ _ _ | exact Kd.yP _ _ _ _ _ | exact Kd.uw _ _ _ _ _ | exact Kd.yN _ _ _ _ _ | exact Kd.yO _ _ _ _ _, Kd.uw _ _ _ _ _, by exact rx (Kd.cO ac1.out (fun _ hk => hk.1)), lb⟩
  rw [if_neg c32] at H; have c32b0 := decide_eq_false c32; clear c32; replace H := ife H; obtain ⟨c46b0, c46b1, H⟩ := H; replace H := ife H; obtain ⟨c47b0, c47b1, H⟩ := H; obtain ⟨y621, X9⟩ : ∃ y_ : List Int, y_ = (Tt.take ((ae.length : Int) : Int).toNat) := ⟨_, rfl⟩; replace H : (ai.l1 k1 y621 ay ae) = some (r1, r2, r3, r4) := by first | (rw [X9]; exact H) | exact H
  have ac2 := ak X9; clear X9; have H' := ak H; clear H; have ⟨_, _⟩ := nn nV; have ⟨_, _, _, _⟩ := cf2 eZ; have ⟨_, _, _, _⟩ := cf2 eO; obtain ⟨Ao51, co51, eo51⟩ := Kd.bT bi.out; subst eo51
  go_wp2_with (first | ((with_reducible refine au (f := 21) rfl ?_); refine gl 77 Try.func21 #[.agg #[.int .i64 (wrap64 (Gl + 2)), .slice Ao51 gG.length co51], .int .i64 ay, .int .i64 (wrap64 (ay + 1))] ?_; (with_reducible refine (aD.calls k1 (wrap64 (Gl + 2)) _ _ gG ay (wrap64 (ay + 1)) Tt acY _ ?side1 ?side2 A30.out).mono ?_); (case side1 => exact cR bi); (case side2 => exact (Kd.aA bi.out).2.1); rintro e w52 ⟨v612, v615, rfl, ho0, ho1, hb⟩; refine ⟨_, rfl, ?_⟩; have n_ := a6 (ro bi hb) (Kd.bY (Kd.lg (M := fun k_ => (w.heap.size ≤ k_)) ho0 (ax lb) (fun k_ h_ => h_)) (ax lb)) (Kd.bY (Kd.lg (M := fun k_ => (w.heap.size ≤ k_)) ho1 (ax lb) (fun k_ h_ => h_)) (ax lb)) (bo eZ hb) (bo eO hb) (bl hb); clear bi eZ eO HB; obtain ⟨bi, si, yu, eZ, eO, HB⟩ := n_; clear hb; (try clear ho0); (try clear ho1); have ⟨_, _, _, _⟩ := cf2 eO; obtain ⟨Ao54, co54, eo54⟩ := Kd.bT si.out; subst eo54) | ((with_reducible refine au (f := 18) rfl ?_); refine gl 83 Try.func18 #[.agg #[.int .i64 (wrap64 (Gl + 2)), .slice Ao51 gG.length co51], .slice Ao54 Tt.length co54, .int .i64 ay] ?_; (with_reducible refine (bP.calls k1 (wrap64 (Gl + 2)) _ _ gG _ _ Tt ay PN _ ?side1 ?side2 ?side3 ?side4 A31.out).mono ?_); (case side1 => exact cR bi); (case side2 => exact (Kd.aA bi.out).2.1); (case side3 => exact cR si); (case side4 => exact (Kd.aA si.out).2.1); rintro e w55 ⟨rfl, hb⟩; refine ⟨_, rfl, ?_⟩; have n_ := a6 (ro bi hb) (ro si hb) (ro yu hb) (bo eZ hb) (bo eO hb) (bl hb); clear bi si yu eZ eO HB; obtain ⟨bi, si, yu, eZ, eO, HB⟩ := n_; clear hb; have ⟨_, _, _, _⟩ := cf2 eZ; have q57 : ((ae.length : Int) : Int) ≤ ((Tt.length : Int) : Int) := oda; obtain ⟨i057, ac3, _, hsz57, _⟩ := info_parts wW; have hcut57 := Ux (P := Try.prog) 25 2 .i64 Try.underlying25 ac3 Ao54 Tt.length co54 (ae.length : Int) (oda) q57 (Kd.aA si.out).2.1; have hr57 := Kd.LV (m := ((ae.length : Int) : Int).toNat) si.out (by omega); have hy57 : y621.length = ((ae.length : Int) : Int).toNat := (by rw [ac2.out, List.length_take]; omega); rw [← ac2.out] at hr57; rw [← hy57] at hr57 hcut57; clear hy57 ac3 hsz57 si; have HO623 := ak hr57; clear hr57; replace q57 := eq_true q57))
  go_loopg [12] k1 (fun kq v12 w' => ∃ (kG : List Int), ag (ai.l1 kq kG ay ae = some (r1, r2, r3, r4)) ∧ ag (kq ≤ k1) ∧ ag (Kd.R (Kd.int .i64) 2 w' w.heap.size (fun k_ => (w.heap.size ≤ k_)) v12 kG) ∧ ag (Kd.R k98 98 w' w.heap.size (fun k_ => (w.heap.size ≤ k_)) (.slice Ao51 gG.length co51) gG) ∧ ag (w'.heap[PR]? = some (.cells #[.int .i64 ay, (.slice bX ae.length bN)] 24 (0, 0))) ∧ ag (w'.heap[y7]? = some (.cells #[.int .i64 (wrap64 (Gl + 2)), (.slice Ao51 gG.length co51)] 24 (0, 0))) ∧ ag (Below w.heap.size w w'))
  case atStart => exact ⟨(y621), H', ⟨Nat.le_refl _⟩, ⟨by exact rx (Kd.cO HO623.out (fun _ hk => hk.1))⟩, ⟨rx bi.out⟩, xb eZ, xb eO, ⟨lb⟩⟩
  clear H'; obtain ⟨kG, HA, HK2, gV, bi, eZ, eO, HB⟩ := hrel
  cases gk with
  | zero => exact absurd HA.out (by simp [ai.l1])
  | succ k2 => ?_
  have H := HA.out; clear HA
  simp only [ai.l1] at H
  replace H := Option.bind_eq_some_iff.mp H; obtain ⟨⟨aam, Tu⟩, A580, H⟩ := H; dsimp only at H; have A58 := ak A580; clear A580; replace H := Option.bind_eq_some_iff.mp H; obtain ⟨⟨Sk, Ik, Sl⟩, A590, H⟩ := H; dsimp only at H; have A59 := ak A590; clear A590; replace H := Option.bind_eq_some_iff.mp H; obtain ⟨xM, A600, H⟩ := H; have A60 := ak A600; clear A600
  by_cases c61 : (xM.length : Int) = 0
  ·
   rw [if_pos c61] at H; have c61b := be2 c61; clear c61; replace H := Option.bind_eq_some_iff.mp H; obtain ⟨⟨t639, t642⟩, A620, H⟩ := H; dsimp only at H; have A62 := ak A620; clear A620
   simp only [Option.some.injEq, Prod.mk.injEq] at H
   obtain ⟨rfl, rfl, rfl, rfl⟩ := H; have ⟨_, _⟩ := nn nV; have ⟨_, _, _, _⟩ := cf2 eZ; obtain ⟨Ao65, co65, eo65⟩ := Kd.bT gV.out; subst eo65
   go_wp2_with (first | ((with_reducible refine au (f := 56) rfl ?_); refine gl 98 Try.func56 #[.agg #[.int .i64 ay, .slice bX ae.length bN], .slice Ao65 kG.length co65] ?_; (with_reducible refine (aJ.calls k2 ay _ _ ae _ _ kG aam Tu _ ?side1 ?side2 ?side3 ?side4 A58.out).mono ?_); (case side1 => exact Kd.cZ bU.out lb); (case side2 => exact eU.out); (case side3 => exact cR gV); (case side4 => exact (Kd.aA gV.out).2.1); rintro e w66 ⟨v626, rfl, ho0, hb⟩; refine ⟨_, rfl, ?_⟩; have n_ := a6 (ro gV hb) (Kd.dJ (rx bi.out) (Kd.fI ho0) hb) (Kd.bY (Kd.gF (Kd.lg (M := fun k_ => (w.heap.size ≤ k_)) ho0 (ax lb) (fun k_ h_ => h_)) (Kd.mf (rx bi.out))) (ax lb)) (bo eZ hb) (bo eO hb) (bl hb); clear gV bi eZ eO HB; obtain ⟨gV, bi, mW, eZ, eO, HB⟩ := n_; clear hb; (try clear ho0); obtain ⟨Ao67, co67, eo67⟩ := Kd.bT mW.out; subst eo67) | ((with_reducible refine au (f := 71) rfl ?_); refine gl 99 Try.func71 #[.agg #[.int .i64 aam, .slice Ao67 Tu.length co67]] ?_; (with_reducible refine (bA.calls k2 aam _ _ Tu Sk Ik Sl _ ?side1 ?side2 A59.out).mono ?_); (case side1 => exact cR mW); (case side2 => exact (Kd.aA mW.out).2.1); rintro e w68 ⟨v630, ac4, rfl, ho0, ho1, hb⟩; refine ⟨_, rfl, ?_⟩; have n_ := a8 (ro gV hb) (Kd.dJ (rx bi.out) (Kd.fI ho0) hb) (Kd.dJ (rx mW.out) (Kd.fI ho0) hb) (Kd.bY (Kd.gF (Kd.gF (Kd.lg (M := fun k_ => (w.heap.size ≤ k_)) ho0 (ax lb) (fun k_ h_ => h_)) (Kd.mf (rx bi.out))) (Kd.mf (rx mW.out))) (ax lb)) (Kd.bY (Kd.lg (M := fun k_ => (w.heap.size ≤ k_)) ho1 (ax lb) (fun k_ h_ => h_)) (ax lb)) (bo eZ hb) (bo eO hb) (bl hb); clear gV bi mW eZ eO HB; obtain ⟨gV, bi, mW, o6, sj, eZ, eO, HB⟩ := n_; clear hb; (try clear ho0); (try clear ho1)) | ((with_reducible refine aC (N := 14) rfl ?_); refine bxe 14 #[.int .i64 0, .slice none 0 0] 24 ?_; intro Tv hg w69 hbox hb; have n_ := a15 (ro gV hb) (ro bi hb) (ro mW hb) (ro o6 hb) (ro sj hb) (bo eZ hb) (bo eO hb) (bl hb) hbox (gw w hg) (gw w hg) (nl hg eZ) (nr hg eZ) (nl hg eO) (nr hg eO); clear gV bi mW o6 sj eZ eO HB; obtain ⟨gV, bi, mW, o6, sj, eZ, eO, HB, kC, GW635, GE635, yw, Cm, Cn, Co⟩ := n_; clear hb hbox hg; have ⟨_, _⟩ := nn Cm; have ⟨_, _⟩ := nn Co; have ⟨_, _, _, _⟩ := cf2 kC; obtain ⟨Ao73, co73, eo73⟩ := Kd.bT o6.out; subst eo73) | ((with_reducible refine au (f := 72) rfl ?_); refine gl 103 Try.func72 #[.agg #[.int .i64 Sk, .slice Ao73 Ik.length co73]] ?_; (with_reducible refine (ah.calls k2 Sk _ _ Ik xM _ ?side1 ?side2 A60.out).mono ?_); (case side1 => refine (Kd.aA (e := 98) (base := w.heap.size) (ok := fun k_ => ((((w.heap.size ≤ k_) ∧ True) ∧ some k_ ≠ (.slice Ao51 gG.length co51 : Value).ownBlock) ∧ some k_ ≠ (.slice Ao67 Tu.length co67 : Value).ownBlock)) (n := Ik.length) (c := co73) ?_).2.2; exact (fw o6 kC)); (case side2 => exact (Kd.aA o6.out).2.1); rintro e w74 ⟨v637, rfl, ho0, hb⟩; refine ⟨_, rfl, ?_⟩; have n_ := a10 (fr gV kC hb) (fr bi kC hb) (fr mW kC hb) (fr o6 kC hb) (Kd.dJ (fw sj kC) (Kd.fI ho0) hb) (Kd.bY (Kd.gF (Kd.lg (M := fun k_ => (w.heap.size ≤ k_)) ho0 (ax lb) (fun k_ h_ => h_)) (Kd.mf (fw sj kC))) (ax lb)) (fb eZ yw hb) (fb eO Cn hb) (fp kC hb) (bl hb); clear gV bi mW o6 sj eZ eO kC HB; obtain ⟨gV, bi, mW, o6, sj, He, eZ, eO, kC, HB⟩ := n_; (try clear hb); (try clear hb2); (try clear hk); (try clear hi); (try clear ho0); obtain ⟨Ao75, co75, eo75⟩ := Kd.bT He.out; subst eo75; have ⟨_, _, _, _⟩ := cf2 kC) | ((with_reducible refine au (f := 73) rfl ?_); refine gl 109 Try.func73 #[.agg #[.int .i64 Sk, .slice Ao73 Ik.length co73]] ?_; (with_reducible refine (bL.calls k2 Sk _ _ Ik t639 t642 _ ?side1 ?side2 A62.out).mono ?_); (case side1 => exact cR o6); (case side2 => exact (Kd.aA o6.out).2.1); rintro e w77 ⟨v640, rfl, ho0, hb⟩; refine ⟨_, rfl, ?_⟩; have n_ := a11 (ro gV hb) (ro bi hb) (ro mW hb) (ro o6 hb) (ro sj hb) (ro He hb) (Kd.yI (Kd.kU (ok' := fun k_ => (w.heap.size ≤ k_) ∧ some k_ ≠ (.slice Ao65 kG.length co65 : Value).ownBlock ∧ some k_ ≠ (.slice Ao51 gG.length co51 : Value).ownBlock ∧ some k_ ≠ (.slice Ao67 Tu.length co67 : Value).ownBlock ∧ some k_ ≠ (.slice Ao73 Ik.length co73 : Value).ownBlock ∧ some k_ ≠ (ac4 : Value).ownBlock ∧ some k_ ≠ (.slice Ao75 xM.length co75 : Value).ownBlock ∧ k_ ≠ PR ∧ k_ ≠ y7 ∧ k_ ≠ Tv) ho0 (fun k_ hk_ => ⟨(Nat.le_trans (ax lb) hk_), (Kd.fresh' (Kd.mf (rx gV.out)) k_ hk_), (Kd.fresh' (Kd.mf (rx bi.out)) k_ hk_), (Kd.fresh' (Kd.mf (rx mW.out)) k_ hk_), (Kd.fresh' (Kd.mf (rx o6.out)) k_ hk_), (Kd.fresh' (Kd.mf (rx sj.out)) k_ hk_), (Kd.fresh' (Kd.mf (rx He.out)) k_ hk_), (Kd.ul (g := PR) (o := .cells #[.int .i64 ay, .slice bX ae.length bN] 24 (0, 0)) (bx eZ.out) k_ hk_), (Kd.ul (g := y7) (o := .cells #[.int .i64 (wrap64 (Gl + 2)), .slice Ao51 gG.length co51] 24 (0, 0)) (bx eO.out) k_ hk_), (Kd.ul (g := Tv) (o := .cells #[.int .i64 Sk, .slice Ao73 Ik.length co73] 24 (0, 0)) (bx kC.out) k_ hk_)⟩)) (ax lb)) (bo eZ hb) (bo eO hb) (bo kC hb) (bl hb); clear gV bi mW o6 sj He eZ eO kC HB; obtain ⟨gV, bi, mW, o6, sj, He, HO641, eZ, eO, kC, HB⟩ := n_; clear hb; (try clear ho0)))
   refine bodyPost_ret (ru (rs := [.tmp 4, .tmp 5, .tmp 6, .tmp 7]) rfl (by simp) (.tmp (.tmp (.tmp (.tmp .nil))))) rfl ?_
   exact ⟨_, _, _, by first | rfl | (simp [dx, dz] <;> rfl) | (simp [*, dx, dz] <;> rfl), by exact rx gV.out, by exact vx (Kd.kU HO641.out (fun _ hk => ⟨hk.1, ⟨hk.2.1, (by simp [Value.ownBlock])⟩⟩)), by first | exact Kd.uo _ _ _ _ _ | exact Kd.yP _ _ _ _ _ | exact Kd.uw _ _ _ _ _ | exact Kd.yN _ _ _ _ _ | exact Kd.yO _ _ _ _ _, lb⟩
  rw [if_neg c61] at H; have c61b := bn2 c61
  have c61b2 : ¬ (xM = []) := fun h_ => c61 (by rw [h_]; rfl)
  have H' := ak H; clear H; have ⟨_, _⟩ := nn nV; have ⟨_, _, _, _⟩ := cf2 eZ; obtain ⟨Ao80, co80, eo80⟩ := Kd.bT gV.out; subst eo80
  go_wp2_with (first | ((with_reducible refine au (f := 56) rfl ?_); refine gl 98 Try.func56 #[.agg #[.int .i64 ay, .slice bX ae.length bN], .slice Ao80 kG.length co80] ?_; (with_reducible refine (aJ.calls k2 ay _ _ ae _ _ kG aam Tu _ ?side1 ?side2 ?side3 ?side4 A58.out).mono ?_); (case side1 => exact Kd.cZ bU.out lb); (case side2 => exact eU.out); (case side3 => exact cR gV); (case side4 => exact (Kd.aA gV.out).2.1); rintro e w81 ⟨v626, rfl, ho0, hb⟩; refine ⟨_, rfl, ?_⟩; have n_ := a6 (ro gV hb) (Kd.dJ (rx bi.out) (Kd.fI ho0) hb) (Kd.bY (Kd.gF (Kd.lg (M := fun k_ => (w.heap.size ≤ k_)) ho0 (ax lb) (fun k_ h_ => h_)) (Kd.mf (rx bi.out))) (ax lb)) (bo eZ hb) (bo eO hb) (bl hb); clear gV bi eZ eO HB; obtain ⟨gV, bi, mW, eZ, eO, HB⟩ := n_; clear hb; (try clear ho0); obtain ⟨Ao82, co82, eo82⟩ := Kd.bT mW.out; subst eo82) | ((with_reducible refine au (f := 71) rfl ?_); refine gl 99 Try.func71 #[.agg #[.int .i64 aam, .slice Ao82 Tu.length co82]] ?_; (with_reducible refine (bA.calls k2 aam _ _ Tu Sk Ik Sl _ ?side1 ?side2 A59.out).mono ?_); (case side1 => exact cR mW); (case side2 => exact (Kd.aA mW.out).2.1); rintro e w83 ⟨v630, ac4, rfl, ho0, ho1, hb⟩; refine ⟨_, rfl, ?_⟩; have n_ := a8 (ro gV hb) (Kd.dJ (rx bi.out) (Kd.fI ho0) hb) (Kd.dJ (rx mW.out) (Kd.fI ho0) hb) (Kd.bY (Kd.gF (Kd.gF (Kd.lg (M := fun k_ => (w.heap.size ≤ k_)) ho0 (ax lb) (fun k_ h_ => h_)) (Kd.mf (rx bi.out))) (Kd.mf (rx mW.out))) (ax lb)) (Kd.bY (Kd.lg (M := fun k_ => (w.heap.size ≤ k_)) ho1 (ax lb) (fun k_ h_ => h_)) (ax lb)) (bo eZ hb) (bo eO hb) (bl hb); clear gV bi mW eZ eO HB; obtain ⟨gV, bi, mW, o6, sj, eZ, eO, HB⟩ := n_; clear hb; (try clear ho0); (try clear ho1)) | ((with_reducible refine aC (N := 14) rfl ?_); refine bxe 14 #[.int .i64 0, .slice none 0 0] 24 ?_; intro Tv hg w84 hbox hb; have n_ := a15 (ro gV hb) (ro bi hb) (ro mW hb) (ro o6 hb) (ro sj hb) (bo eZ hb) (bo eO hb) (bl hb) hbox (gw w hg) (gw w hg) (nl hg eZ) (nr hg eZ) (nl hg eO) (nr hg eO); clear gV bi mW o6 sj eZ eO HB; obtain ⟨gV, bi, mW, o6, sj, eZ, eO, HB, kC, GW635, GE635, yw, Cm, Cn, Co⟩ := n_; clear hb hbox hg; have ⟨_, _⟩ := nn Cm; have ⟨_, _⟩ := nn Co; have ⟨_, _, _, _⟩ := cf2 kC; obtain ⟨Ao88, co88, eo88⟩ := Kd.bT o6.out; subst eo88) | ((with_reducible refine au (f := 72) rfl ?_); refine gl 103 Try.func72 #[.agg #[.int .i64 Sk, .slice Ao88 Ik.length co88]] ?_; (with_reducible refine (ah.calls k2 Sk _ _ Ik xM _ ?side1 ?side2 A60.out).mono ?_); (case side1 => refine (Kd.aA (e := 98) (base := w.heap.size) (ok := fun k_ => ((((w.heap.size ≤ k_) ∧ True) ∧ some k_ ≠ (.slice Ao51 gG.length co51 : Value).ownBlock) ∧ some k_ ≠ (.slice Ao82 Tu.length co82 : Value).ownBlock)) (n := Ik.length) (c := co88) ?_).2.2; exact (fw o6 kC)); (case side2 => exact (Kd.aA o6.out).2.1); rintro e w89 ⟨v637, rfl, ho0, hb⟩; refine ⟨_, rfl, ?_⟩; have n_ := a10 (fr gV kC hb) (fr bi kC hb) (fr mW kC hb) (fr o6 kC hb) (Kd.dJ (fw sj kC) (Kd.fI ho0) hb) (Kd.bY (Kd.gF (Kd.lg (M := fun k_ => (w.heap.size ≤ k_)) ho0 (ax lb) (fun k_ h_ => h_)) (Kd.mf (fw sj kC))) (ax lb)) (fb eZ yw hb) (fb eO Cn hb) (fp kC hb) (bl hb); clear gV bi mW o6 sj eZ eO kC HB; obtain ⟨gV, bi, mW, o6, sj, He, eZ, eO, kC, HB⟩ := n_; (try clear hb); (try clear hb2); (try clear hk); (try clear hi); (try clear ho0); obtain ⟨Ao90, co90, eo90⟩ := Kd.bT He.out; subst eo90))
  go_loopg [19, 20] k2 (fun kq v19 v20 w' => ∃ (Fu : List Int) (Cq : Int), v20 = .int .i64 Cq ∧ ag (ai.l2 kq kG Sl xM Fu Cq ay ae = some (r1, r2, r3, r4)) ∧ ag (kq ≤ k2) ∧ ag (Kd.R (Kd.int .i64) 2 w' w.heap.size (fun k_ => (w.heap.size ≤ k_)) (.slice Ao80 kG.length co80) kG) ∧ ag (Kd.R (Kd.int .i64) 3 w' w.heap.size (fun k_ => (w.heap.size ≤ k_) ∧ some k_ ≠ ((.slice Ao90 xM.length co90) : Value).ownBlock ∧ some k_ ≠ (v19 : Value).ownBlock) ac4 Sl) ∧ ag (Kd.R (Kd.int .i64) 3 w' w.heap.size (fun k_ => (w.heap.size ≤ k_) ∧ some k_ ≠ (ac4 : Value).ownBlock ∧ some k_ ≠ (v19 : Value).ownBlock) (.slice Ao90 xM.length co90) xM) ∧ ag (Kd.R (Kd.int .i64) 3 w' w.heap.size (fun k_ => (w.heap.size ≤ k_) ∧ some k_ ≠ (ac4 : Value).ownBlock ∧ some k_ ≠ ((.slice Ao90 xM.length co90) : Value).ownBlock) v19 Fu) ∧ ag (Kd.R k98 98 w' w.heap.size (fun k_ => (w.heap.size ≤ k_) ∧ some k_ ≠ ((.slice Ao88 Ik.length co88) : Value).ownBlock) (.slice Ao51 gG.length co51) gG) ∧ ag (Kd.R k98 98 w' w.heap.size (fun k_ => (w.heap.size ≤ k_) ∧ some k_ ≠ ((.slice Ao51 gG.length co51) : Value).ownBlock) (.slice Ao88 Ik.length co88) Ik) ∧ ag (w'.heap[PR]? = some (.cells #[.int .i64 ay, (.slice bX ae.length bN)] 24 (0, 0))) ∧ ag (w'.heap[y7]? = some (.cells #[.int .i64 (wrap64 (Gl + 2)), (.slice Ao51 gG.length co51)] 24 (0, 0))) ∧ ag (w'.heap[Tv]? = some (.cells #[.int .i64 Sk, (.slice Ao88 Ik.length co88)] 24 (0, 0))) ∧ ag (Below w.heap.size w w'))
  case atStart => exact ⟨(([] : List Int)), (0), sr, H', ⟨Nat.le_refl _⟩, ⟨rx gV.out⟩, ⟨by exact rx (Kd.cO sj.out (fun _ hk => ⟨hk.1.1, ⟨hk.2, (by simp [Value.ownBlock])⟩⟩))⟩, ⟨by exact rx (Kd.cO He.out (fun _ hk => ⟨hk.1.1, ⟨hk.2, (by simp [Value.ownBlock])⟩⟩))⟩, ⟨by first | exact Kd.uo _ _ _ _ _ | exact Kd.yP _ _ _ _ _ | exact Kd.uw _ _ _ _ _ | exact Kd.yN _ _ _ _ _ | exact Kd.yO _ _ _ _ _⟩, ⟨by exact rx (Kd.cO bi.out (fun _ hk => ⟨hk.1.1, hk.2⟩))⟩, ⟨by exact rx (Kd.cO o6.out (fun _ hk => ⟨hk.1.1.1, hk.1.2⟩))⟩, xb eZ, xb eO, xb kC, ⟨lb⟩⟩
  clear H'; obtain ⟨Fu, Cq, rfl, HA, HK3, gV, jh, xy, qZ, bi, kD, eZ, eO, kC, HB⟩ := hrel
  cases gk with
  | zero => exact absurd HA.out (by simp [ai.l2])
  | succ k3 => ?_
  have H := HA.out; clear HA
  simp only [ai.l2] at H
  by_cases c91 : Cq < (xM.length : Int)
  rotate_left
  ·
   rw [if_neg c91] at H; have c91b0 := decide_eq_false c91; clear c91; replace H := Option.bind_eq_some_iff.mp H; obtain ⟨⟨t648, t649⟩, A980, H⟩ := H; dsimp only at H; have A98 := ak A980; clear A980; replace H := Option.bind_eq_some_iff.mp H; obtain ⟨PQ, abd, H⟩ := H; have A99 := ak abd; clear abd; replace H := Option.bind_eq_some_iff.mp H; obtain ⟨Lr, ac5, H⟩ := H; have A100 := ak ac5; clear ac5; have H' := ak H; clear H; have ⟨_, _⟩ := nn nV; have ⟨_, _⟩ := nn yw; have ⟨_, _, _, _⟩ := cf2 eZ
   go_wp2_with (first | ((with_reducible refine au (f := 56) rfl ?_); refine gl 134 Try.func56 #[.agg #[.int .i64 ay, .slice bX ae.length bN], .slice Ao80 kG.length co80] ?_; (with_reducible refine (aJ.calls k3 ay _ _ ae _ _ kG t648 t649 _ ?side1 ?side2 ?side3 ?side4 A98.out).mono ?_); (case side1 => exact Kd.cZ bU.out lb); (case side2 => exact eU.out); (case side3 => exact cR gV); (case side4 => exact (Kd.aA gV.out).2.1); rintro e aal ⟨v650, rfl, ho0, hb⟩; refine ⟨_, rfl, ?_⟩; have n_ := a11 (ro gV hb) (ro jh hb) (ro xy hb) (ro qZ hb) (Kd.dJ (rx bi.out) (Kd.fI ho0) hb) (Kd.dJ (rx kD.out) (Kd.fI ho0) hb) (Kd.bY (Kd.gF (Kd.gF (Kd.lg (M := fun k_ => (w.heap.size ≤ k_)) ho0 (ax lb) (fun k_ h_ => h_)) (Kd.mf (rx bi.out))) (Kd.mf (rx kD.out))) (ax lb)) (bo eZ hb) (bo eO hb) (bo kC hb) (bl hb); clear gV jh xy qZ bi kD eZ eO kC HB; obtain ⟨gV, jh, xy, qZ, bi, kD, Fv, eZ, eO, kC, HB⟩ := n_; clear hb; (try clear ho0); obtain ⟨Ao105, co105, eo105⟩ := Kd.bT Fv.out; subst eo105; obtain ⟨ac6, ac7, eo106⟩ := Kd.bT qZ.out; subst eo106) | ((with_reducible refine au (f := 59) rfl ?_); refine gl 136 Try.func59 #[.agg #[.int .i64 t648, .slice Ao105 t649.length co105], .slice ac6 Fu.length ac7] ?_; (with_reducible refine (bS.calls k3 t648 _ _ t649 _ _ Fu PQ _ ?side1 ?side2 ?side3 ?side4 A99.out).mono ?_); (case side1 => exact cR Fv); (case side2 => exact (Kd.aA Fv.out).2.1); (case side3 => exact cR qZ); (case side4 => exact (Kd.aA qZ.out).2.1); rintro e Xp ⟨rfl, hb⟩; refine ⟨_, rfl, ?_⟩; have n_ := a11 (ro gV hb) (ro jh hb) (ro xy hb) (ro qZ hb) (ro bi hb) (ro kD hb) (ro Fv hb) (bo eZ hb) (bo eO hb) (bo kC hb) (bl hb); clear gV jh xy qZ bi kD Fv eZ eO kC HB; obtain ⟨gV, jh, xy, qZ, bi, kD, Fv, eZ, eO, kC, HB⟩ := n_; clear hb) | ((with_reducible refine au (f := 58) rfl ?_); refine gl 137 Try.func58 #[.slice Ao80 kG.length co80, .slice ac6 Fu.length ac7, .int .i64 PQ] ?_; (with_reducible refine (bu.calls k3 _ _ kG _ _ Fu PQ Lr _ ?side1 ?side2 ?side3 ?side4 A100.out).mono ?_); (case side1 => exact cR gV); (case side2 => exact (Kd.aA gV.out).2.1); (case side3 => exact cR qZ); (case side4 => exact (Kd.aA qZ.out).2.1); rintro e w108 ⟨v654, rfl, ho0, hb⟩; refine ⟨_, rfl, ?_⟩; have n_ := a12 (Kd.dJ (rx gV.out) (Kd.fI ho0) hb) (ro jh hb) (ro xy hb) (ro qZ hb) (ro bi hb) (ro kD hb) (ro Fv hb) (Kd.bY (Kd.gF (Kd.lg (M := fun k_ => (w.heap.size ≤ k_)) ho0 (ax lb) (fun k_ h_ => h_)) (Kd.mf (rx gV.out))) (ax lb)) (bo eZ hb) (bo eO hb) (bo kC hb) (bl hb); clear gV jh xy qZ bi kD Fv eZ eO kC HB; obtain ⟨gV, jh, xy, qZ, bi, kD, Fv, HO655, eZ, eO, kC, HB⟩ := n_; clear hb; (try clear ho0)))
   go_roundg k3
   case measure => have := HK1.out; have := HK2.out; have := HK3.out; omega
   case rel => exact ⟨(Lr), H', ⟨by have := HK1.out; have := HK2.out; have := HK3.out; omega⟩, ⟨by exact rx (Kd.cO HO655.out (fun _ hk => hk.1.1))⟩, ⟨by exact rx (Kd.cO bi.out (fun _ hk => hk.1.1))⟩, xb eZ, xb eO, ⟨lb⟩⟩
  rw [if_pos c91] at H; have c91b0 := decide_eq_true c91; clear c91; replace H := if3 H; obtain ⟨c92b0, c93b0, c94b0, H⟩ := H; replace H := ifn H; obtain ⟨c95, H⟩ := H; have LMc95 := ak c95; clear c95; obtain ⟨y645, Ya⟩ : ∃ y_ : List Int, y_ = (Fu ++ [rd Sl (rd xM Cq)]) := ⟨_, rfl⟩; replace H : (ai.l2 k3 kG Sl xM y645 (wrap64 (Cq + 1)) ay ae) = some (r1, r2, r3, r4) := by first | (rw [Ya]; exact H) | exact H
  have Ny645 := ak Ya; clear Ya; have H' := ak H; clear H; obtain ⟨p643, q643, ac8, e643, hx643_0⟩ := wq (Kd.bB (Kd.aA xy.out).2.2 Cq); cases e643; obtain ⟨Ao96, co96, eo96⟩ := Kd.bT jh.out; subst eo96; obtain ⟨p644, q644, ac9, e644, hx644_0⟩ := wq (Kd.bB (Kd.aA jh.out).2.2 (rd xM Cq)); cases e644
  go_wp2_with (first | ((with_reducible refine lJ (b := .append) (xs := #[.tmp 120, .tmp 128]) rfl ?_); at_builtin; refine Kd.xQ (Kd.int .i64) (w0 := w) w.heap.size rfl (.tmp 120) (.tmp 128) 70 3 (.int .i64 0) 8 rfl Try.underlying70 info3 rfl (by decide) (by omega) u19 Fu (rd Sl (rd xM Cq)) [.int .i64 (rd Sl (rd xM Cq))] (fun k_ => (w.heap.size ≤ k_) ∧ some k_ ≠ (.slice (some ac9) Sl.length co96 : Value).ownBlock ∧ some k_ ≠ (.slice (some ac8) xM.length co90 : Value).ownBlock) (fun _ => False) rfl rfl ?aP (fun _ hk => hk.elim) ?aF ?aO ?aB ?aS ?aL ?_; (case aP => exact rfl); (case aB => exact lb); (case aF => exact (fun k_ hk => ⟨(Nat.le_trans (ax lb) hk), Kd.fresh' (Kd.mf (rx jh.out)) k_ hk, Kd.fresh' (Kd.mf (rx xy.out)) k_ hk⟩)); (case aO => exact (rx qZ.out)); (case aS => exact (ax lb)); (case aL => have := LMc95.out; omega); intro v646 w97 ho hb hg hat; rw [← Ny645.out] at ho; have n_ := a10 (Kd.jB (rx gV.out) (Kd.ji (rx qZ.out)) (by decide) hg) (Kd.qa (ok := (fun k_ => (w.heap.size ≤ k_) ∧ some k_ ≠ (.slice (some ac8) xM.length co90 : Value).ownBlock)) (by exact rx (Kd.cO jh.out (fun _ hk => ⟨⟨hk.1, hk.2.1⟩, hk.2.2⟩))) hg hat) (Kd.qa (ok := (fun k_ => (w.heap.size ≤ k_) ∧ some k_ ≠ (.slice (some ac9) Sl.length co96 : Value).ownBlock)) (by exact rx (Kd.cO xy.out (fun _ hk => ⟨⟨hk.1, hk.2.1⟩, hk.2.2⟩))) hg hat) (Kd.jB (rx bi.out) (Kd.ji (rx qZ.out)) (by decide) hg) (Kd.jB (rx kD.out) (Kd.ji (rx qZ.out)) (by decide) hg) (bH (bx eZ.out) hg (Kd.gQ qZ.out eZ.out (by decide))) (bH (bx eO.out) hg (Kd.gQ qZ.out eO.out (by decide))) (bH (bx kC.out) hg (Kd.gQ qZ.out kC.out (by decide))) hb ho; clear gV jh xy bi kD eZ eO kC HB qZ; obtain ⟨gV, jh, xy, bi, kD, eZ, eO, kC, HB, HO647⟩ := n_; clear ho hb hg hat))
  go_roundg k3
  case measure => have := HK1.out; have := HK2.out; have := HK3.out; omega
  case rel => exact ⟨(y645), (wrap64 (Cq + 1)), sr, H', ⟨by have := HK1.out; have := HK2.out; have := HK3.out; omega⟩, ⟨rx gV.out⟩, ⟨by exact rx (Kd.cO jh.out (fun _ hk => ⟨hk.1.1, ⟨hk.1.2, hk.2⟩⟩))⟩, ⟨by exact rx (Kd.cO xy.out (fun _ hk => ⟨hk.1.1, ⟨hk.1.2, hk.2⟩⟩))⟩, ⟨rx HO647.out⟩, ⟨rx bi.out⟩, ⟨rx kD.out⟩, xb eZ, xb eO, xb kC, ⟨lb⟩⟩
 rw [if_pos c12] at H; have c12b0 := decide_eq_true c12; clear c12; replace H := if2 H; obtain ⟨c13b0, c14b0, H⟩ := H
 by_cases c15 : (rd l1 mH) > 0
 rotate_left
 ·
  rw [if_neg c15] at H; have c15b0 := decide_eq_false c15; clear c15; replace H := ifn H; obtain ⟨c23, H⟩ := H; have LMc23 := ak c23; clear c23; obtain ⟨y608, Yb⟩ : ∃ y_ : List (S98), y_ = (gG ++ [(⟨mH, wrap64 (ay + 1), wrap64 (-(rd l1 mH)), 0⟩ : S98)]) := ⟨_, rfl⟩; replace H : (ai.l0 k1 l1 ay Hd (wrap64 (mH + 1)) ay ae (wrap64 (Gl + 2)) y608) = some (r1, r2, r3, r4) := by first | (rw [Yb]; exact H) | exact H
  have Ny608 := ak Yb; clear Yb; have H' := ak H; clear H; have ⟨_, _⟩ := nn nV; have ⟨_, _, _, _⟩ := cf2 eZ; obtain ⟨p601, q601, Tw, e601, Cr⟩ := wq (Kd.bB HR1.out mH); cases e601
  (try replace Cr := hbc HB Cr)
  try go_wp2
  have n_ := a4 (Kd.fH bi.out) (aK eZ.out) (aK eO.out) (bJ HB.out); clear bi eZ eO HB; obtain ⟨bi, eZ, eO, HB⟩ := n_; obtain ⟨p607, q607, ad607, e607, Fw⟩ := wq (Kd.bB HR1.out mH); have Fx := Fw
  obtain rfl : Tw = ad607 := (by injection e607)
  (try replace Fw := hbc HB Fw)
  refine stC 15 [14] (cX (bc0 eO) (cX (bc1 eO) (cY (hbc HB Fx)))) ai.KG ai.Ed fun hHeld HT_ HW_ => ?_
  generalize wr.drew = w26 at bi eZ eO HB Fw hHeld ⊢
  refine pv HT_ 0 58 ?_; refine pv HT_ 2 60 ?_; refine pv HT_ 3 61 ?_; refine pv HT_ 4 62 ?_; refine pv HT_ 5 63 ?_; refine pv HT_ 6 64 ?_; refine pv HT_ 7 65 ?_; refine tv HT_ HW_ hHeld 1 59 ?_; refine tv HT_ HW_ hHeld 8 66 ?_; refine pv HT_ 9 67 ?_; refine pv HT_ 10 68 ?_
  refine wT (i := 11) (N := some 69) #[T, T, T, T, T, T, T, T, T, T, T, T, F, F, F] rfl rfl (gP HT_.out (by kernel_rfl)) (by decide) (fun K hK => ?_)
  refine zV (w1 := ?_) (v := ?_) (by rfl) rfl ?_ ?_
  rotate_left 2
  ·
   go_simp
   constructor
   ·
    rfl
   ·
    rfl
  refine hK.out _ _ ⟨(aH (bg eO.out _) 0).trans rfl, (aH (bg eO.out _) 1).trans rfl, (World.cell?_alloc_lt _ _ _ (World.block_lt_of_cell? _ _ ((hbc HB Fx)))).trans ((hbc HB Fx))⟩ (fun hHeld => ?_)
  clear hK K
  refine ol (a' := ?_) ?_ ?_
  rotate_left
  ·
   show Act.put _ (some 69) _ = _
   simp only [Act.put, sA, sZ, sS, jA, jG]
   rfl
  refine wT (i := 12) (N := some 70) #[T, T, T, T, T, T, T, T, T, T, T, T, T, F, F] rfl rfl (gP HT_.out (by kernel_rfl)) (by decide) (fun K hK => ?_)
  refine Kd.kV k98 (w0 := w) w.heap.size (by rfl) (.tmp 59) (.tmp 69) 22 98 (.agg #[(.int .i64 0), (.int .i64 0), (.int .i64 0), (.int .i64 0)]) 32 rfl Try.underlying22 Ec rfl (by decide) (by omega) xx gG (⟨mH, wrap64 (ay + 1), wrap64 (-(rd l1 mH)), 0⟩ : S98) [.int .i64 mH, .int .i64 (wrap64 (ay + 1)), .int .i64 (wrap64 (-(rd l1 mH))), .int .i64 0] (fun k_ => (w.heap.size ≤ k_)) (fun _ => False) rfl rfl ?aP (fun _ hk => hk.elim) ?aF ?aO ?aB ?aS ?aL ?_
  (case aP => exact sG _ _ _ (⟨mH, wrap64 (ay + 1), wrap64 (-(rd l1 mH)), 0⟩ : S98))
  (case aB => exact lb)
  (case aF => exact (fun k_ hk => (Nat.le_trans (ax lb) hk)))
  (case aO => exact (rx bi.out))
  (case aS => exact (ax lb))
  (case aL => have := LMc23.out; omega)
  intro v609 w27 ho hb hg hat; rw [← Ny608.out] at ho
  have n_ := a4 (bH (bx eZ.out) hg (Kd.gQ bi.out eZ.out (by decide))) (bH (bx eO.out) hg (Kd.gQ bi.out eO.out (by decide))) hb ho; clear eZ eO HB bi; obtain ⟨eZ, eO, HB, ada⟩ := n_
  clear ho hb hg hat; obtain ⟨Ao28, co28, eo28⟩ := Kd.bT ada.out
  (first | subst eo28 | (injection eo28 with f1_ f2_ f3_; have f4_ := f1_.symm; have f5_ := f3_.symm; clear f1_ f2_ f3_; subst f4_; subst f5_))
  refine hK.out _ _ ⟨(aH eO.out 0).trans rfl, (aH eO.out 1).trans rfl, (hbc HB Fx)⟩ (fun hHeld => ?_)
  clear hK K
  refine ol (a' := ?_) ?_ ?_
  rotate_left
  ·
   show Act.put _ (some 70) _ = _
   simp only [Act.put, sA, sZ, sS, jA, jG]
   rfl
  refine pv HT_ 13 71 ?_
  refine um (i := 14) (N := none) #[T, T, T, T, T, T, T, T, T, T, T, T, T, T, T] rfl rfl (gP HT_.out (by kernel_rfl)) (by decide) (fun K hK => ?_)
  have hs29 : w27.cell? ⟨y7, 1, none⟩ = some (xx) := (aH eO.out 1).trans rfl; have hfs29 := bf eO 1; have hns29_0 := nV.out; have hms29_0 := Ck.out
  refine tV (w1 := ?_) (by rfl) rfl ?_ ?_
  rotate_left
  ·
   go_simp
   rfl
  refine hK.out _ _ ?_
  clear hK K
  refine kN (fV HT_.out (by kernel_rfl)) ?_
  try go_wp2
  go_roundg k1
  case measure => have := HK1.out; omega
  case rel => exact ⟨(Hd), (wrap64 (mH + 1)), (y608), (.slice Ao28 y608.length co28), sr, sr, H', ⟨by have := HK1.out; omega⟩, ⟨by exact rx (Kd.cO (Kd.dN (p := ⟨y7, 1, none⟩) (Kd.fC ada.out eO.out (by decide)) (fun _ hk => hk.2) (.slice Ao28 y608.length co28)) (fun _ hk => hk.1))⟩, ⟨bz⟩, ⟨bz⟩, ⟨lb⟩⟩
 rw [if_pos c15] at H; have c15b0 := decide_eq_true c15; clear c15; replace H := ifn H; obtain ⟨c16, H⟩ := H; have LMc16 := ak c16; clear c16; obtain ⟨adb, Yc⟩ : ∃ y_ : List (S98), y_ = (gG ++ [(⟨ay, mH, rd l1 mH, 0⟩ : S98)]) := ⟨_, rfl⟩; replace H : (ai.l0 k1 l1 ay (wrap64 (Hd + (rd l1 mH))) (wrap64 (mH + 1)) ay ae (wrap64 (Gl + 2)) adb) = some (r1, r2, r3, r4) := by first | (rw [Yc]; exact H) | exact H
 have Ny603 := ak Yc; clear Yc; have H' := ak H; clear H; have ⟨_, _⟩ := nn nV; have ⟨_, _, _, _⟩ := cf2 eZ; obtain ⟨p601, q601, Tw, e601, Cr⟩ := wq (Kd.bB HR1.out mH); cases e601
 (try replace Cr := hbc HB Cr)
 try go_wp2
 have n_ := a4 (Kd.fH bi.out) (aK eZ.out) (aK eO.out) (bJ HB.out); clear bi eZ eO HB; obtain ⟨bi, eZ, eO, HB⟩ := n_; obtain ⟨p602, q602, ad602, e602, Fy⟩ := wq (Kd.bB HR1.out mH); have Fz := Fy
 obtain rfl : Tw = ad602 := (by injection e602)
 (try replace Fy := hbc HB Fy)
 refine stC 13 [12] (cX (bc0 eO) (cX (bc1 eO) (cY (hbc HB Fz)))) ai.UW ai.GU fun hHeld HT_ HW_ => ?_
 generalize wr.drew = w19 at bi eZ eO HB Fy hHeld ⊢
 refine pv HT_ 0 40 ?_; refine pv HT_ 2 42 ?_; refine pv HT_ 3 43 ?_; refine pv HT_ 4 44 ?_; refine pv HT_ 5 45 ?_; refine pv HT_ 6 46 ?_; refine tv HT_ HW_ hHeld 1 41 ?_; refine tv HT_ HW_ hHeld 7 47 ?_; refine pv HT_ 8 48 ?_
 refine wT (i := 9) (N := some 49) #[T, T, T, T, T, T, T, T, T, T, F, F, F] rfl rfl (gP HT_.out (by kernel_rfl)) (by decide) (fun K hK => ?_)
 refine zV (w1 := ?_) (v := ?_) (by rfl) rfl ?_ ?_
 rotate_left 2
 ·
  go_simp
  constructor
  ·
   rfl
  ·
   rfl
 refine hK.out _ _ ⟨(aH (bg eO.out _) 0).trans rfl, (aH (bg eO.out _) 1).trans rfl, (World.cell?_alloc_lt _ _ _ (World.block_lt_of_cell? _ _ ((hbc HB Fz)))).trans ((hbc HB Fz))⟩ (fun hHeld => ?_)
 clear hK K
 refine ol (a' := ?_) ?_ ?_
 rotate_left
 ·
  show Act.put _ (some 49) _ = _
  simp only [Act.put, sA, sZ, sS, jA, jG]
  rfl
 refine wT (i := 10) (N := some 50) #[T, T, T, T, T, T, T, T, T, T, T, F, F] rfl rfl (gP HT_.out (by kernel_rfl)) (by decide) (fun K hK => ?_)
 refine Kd.kV k98 (w0 := w) w.heap.size (by rfl) (.tmp 41) (.tmp 49) 22 98 (.agg #[(.int .i64 0), (.int .i64 0), (.int .i64 0), (.int .i64 0)]) 32 rfl Try.underlying22 Ec rfl (by decide) (by omega) xx gG (⟨ay, mH, rd l1 mH, 0⟩ : S98) [.int .i64 ay, .int .i64 mH, .int .i64 (rd l1 mH), .int .i64 0] (fun k_ => (w.heap.size ≤ k_)) (fun _ => False) rfl rfl ?aP (fun _ hk => hk.elim) ?aF ?aO ?aB ?aS ?aL ?_
 (case aP => exact sG _ _ _ (⟨ay, mH, rd l1 mH, 0⟩ : S98))
 (case aB => exact lb)
 (case aF => exact (fun k_ hk => (Nat.le_trans (ax lb) hk)))
 (case aO => exact (rx bi.out))
 (case aS => exact (ax lb))
 (case aL => have := LMc16.out; omega)
 intro v604 w20 ho hb hg hat; rw [← Ny603.out] at ho
 have n_ := a4 (bH (bx eZ.out) hg (Kd.gQ bi.out eZ.out (by decide))) (bH (bx eO.out) hg (Kd.gQ bi.out eO.out (by decide))) hb ho; clear eZ eO HB bi; obtain ⟨eZ, eO, HB, adc⟩ := n_
 clear ho hb hg hat; obtain ⟨Ao21, co21, eo21⟩ := Kd.bT adc.out
 (first | subst eo21 | (injection eo21 with f1_ f2_ f3_; have f4_ := f1_.symm; have f5_ := f3_.symm; clear f1_ f2_ f3_; subst f4_; subst f5_))
 refine hK.out _ _ ⟨(aH eO.out 0).trans rfl, (aH eO.out 1).trans rfl, (hbc HB Fz)⟩ (fun hHeld => ?_)
 clear hK K
 refine ol (a' := ?_) ?_ ?_
 rotate_left
 ·
  show Act.put _ (some 50) _ = _
  simp only [Act.put, sA, sZ, sS, jA, jG]
  rfl
 refine pv HT_ 11 51 ?_
 refine um (i := 12) (N := none) #[T, T, T, T, T, T, T, T, T, T, T, T, T] rfl rfl (gP HT_.out (by kernel_rfl)) (by decide) (fun K hK => ?_)
 have hs22 : w20.cell? ⟨y7, 1, none⟩ = some (xx) := (aH eO.out 1).trans rfl; have hfs22 := bf eO 1; have hns22_0 := nV.out; have hms22_0 := Ck.out
 refine tV (w1 := ?_) (by rfl) rfl ?_ ?_
 rotate_left
 ·
  go_simp
  rfl
 refine hK.out _ _ ?_
 clear hK K
 refine kN (fV HT_.out (by kernel_rfl)) ?_
 obtain ⟨p606, q606, ad606, e606, Ct⟩ := wq (Kd.bB HR1.out mH)
 obtain rfl : Tw = ad606 := (by injection e606)
 have PT := an Ct GW600
 (try replace Ct := hbc HB Ct)
 replace Ct := cg ⟨y7, 1, none⟩ (.slice Ao21 adb.length co21) Ct PT
 clear PT
 try go_wp2
 go_roundg k1
 case measure => have := HK1.out; omega
 case rel => exact ⟨(wrap64 (Hd + (rd l1 mH))), (wrap64 (mH + 1)), (adb), (.slice Ao21 adb.length co21), sr, sr, H', ⟨by have := HK1.out; omega⟩, ⟨by exact rx (Kd.cO (Kd.dN (p := ⟨y7, 1, none⟩) (Kd.fC adc.out eO.out (by decide)) (fun _ hk => hk.2) (.slice Ao21 adb.length co21)) (fun _ hk => hk.1))⟩, ⟨bz⟩, ⟨bz⟩, ⟨lb⟩⟩
end Go.Proofs.Ytkdoihcjhccliaa.Q
