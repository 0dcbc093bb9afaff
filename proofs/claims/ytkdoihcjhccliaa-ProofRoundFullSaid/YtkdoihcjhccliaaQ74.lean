import Derived.Test.YtkdoihcjhccliaaK
import Derived.Test.YtkdoihcjhccliaaV
import Derived.Test.YtkdoihcjhccliaaQ0
import Derived.Test.YtkdoihcjhccliaaQ3
namespace Go.Proofs.Ytkdoihcjhccliaa.Q
open Go.RowKit Go.Proofs.YtkdoihcjhccliaaW.PrintWords Go.Proofs.YtkdoihcjhccliaaW.PrintLast Go.Proofs.YtkdoihcjhccliaaW.PrintMore
attribute [local go_sem] dF dG eG eH cz cB dH dI   -- for this text's walks alone
set_option linter.unusedVariables false
set_option linter.unusedSimpArgs false

/-! ### az: function 89 -/
mutual
def az.l0 : Nat → List Int → Int → Int → Int → List (S98) → Option (List Int)
  | 0, _, _, _, _, _ => none
  | k + 1, x1, x2, x7, za, lG => if x7 < x2 then ((some (([] : List Int) : List Int)).bind fun Y8 => (if Y8.length + x1.length < 17592186044416 then (az.l1 k x1 x2 x7 (Y8 ++ x1) 0 za lG) else (none))) else (some x1)
def az.l1 : Nat → List Int → Int → Int → List Int → Int → Int → List (S98) → Option (List Int)
  | 0, _, _, _, _, _, _, _ => none
  | k + 1, x1, x2, x7, x8, x9, za, lG => if x9 < (lG.length : Int) then (if 0 ≤ x9 then (if 0 ≤ ((aa lG x9).f0) then (if ((aa lG x9).f0) < (x1.length : Int) then (if (rd x1 ((aa lG x9).f0)) < 4611686018427387904 then (if 0 ≤ ((aa lG x9).f1) then (if ((aa lG x9).f1) < (x8.length : Int) then (if (wrap64 ((rd x1 ((aa lG x9).f0)) + ((aa lG x9).f3))) < (rd x8 ((aa lG x9).f1)) then (az.l1 k x1 x2 x7 (x8.set (((aa lG x9).f1) : Int).toNat (wrap64 ((rd x1 ((aa lG x9).f0)) + ((aa lG x9).f3)))) (wrap64 (x9 + 1)) za lG) else (az.l1 k x1 x2 x7 x8 (wrap64 (x9 + 1)) za lG)) else (none)) else (none)) else (az.l1 k x1 x2 x7 x8 (wrap64 (x9 + 1)) za lG)) else (none)) else (none)) else (none)) else (az.l0 k x8 x2 (wrap64 (x7 + 1)) za lG)
end
def az.f (k : Nat) (ay : Int) (ae : List (S98)) (l1 : List Int) (a2 : Int) : Option (List Int) := az.l0 k l1 a2 0 ay ae
def az.T9 : Bool × List (List Nat × List Nat) := (true, [([], []), ([], []), ([1], [1]), ([0, 2], [0, 2]), ([3], [3]), ([4], [4]), ([5], [5]), ([6], [6]), ([6], [6]), ([8, 6], [6, 8]), ([7, 9, 6], [6, 7, 9]), ([10, 6], [6, 10]), ([6], [6]), ([12, 6], [6, 12]), ([11, 13, 6], [6, 11, 13]), ([6], [6]), ([6], [6]), ([16, 6], [6, 16]), ([15, 17, 6], [6, 15, 17]), ([18, 6], [6, 18]), ([14, 19, 6], [6, 14, 19]), ([6, 20], [6, 20])])
def az.B9 : List Nat := [0, 0, 2, 7, 15, 31, 63, 127, 127, 383, 1023, 2047, 127, 4223, 16383, 127, 127, 65663, 229503, 491647, 1048575, 2097151]
theorem az.UW : oO .any (opsOf Try.f89 9) = az.T9 := by kernel_rfl
theorem az.GU : gM az.T9.2 az.B9 = true := by kernel_rfl
def az.T10 : Bool × List (List Nat × List Nat) := (true, [([], []), ([], []), ([1], [1]), ([], []), ([], []), ([4], [4]), ([3, 5], [3, 5]), ([6], [6]), ([], []), ([8], [8]), ([7, 9], [7, 9]), ([0, 2, 0, 1, 2, 3, 4, 5, 6, 7, 8, 9, 10], [0, 2]), ([11, 10, 0, 1, 2, 3, 4, 5, 6, 7, 8, 9, 10], [10, 11])])
def az.B10 : List Nat := [0, 0, 2, 0, 0, 16, 56, 120, 0, 256, 1016, 2047, 4095]
theorem az.KL : oO .any (opsOf Try.f89 10) = az.T10 := by kernel_rfl
theorem az.Ee : gM az.T10.2 az.B10 = true := by kernel_rfl
set_option maxHeartbeats 8000000 in
set_option maxRecDepth 100000 in
theorem az.calls (k : Nat) (ay : Int) (bX : Option Addr) (bN : Nat) (ae : List (S98)) (P1_ : Nat → Prop) (A1 : Option Addr) (c1 : Nat) (l1 : List Int) (a2 : Int) (r : List Int) (w : World) (dB : Kd.C k98 w bX ae.length ae) (dC : ae.length ≤ bN) (hs1 : Kd.V (Kd.int .i64) 2 w w.heap.size (fun k_ => P1_ k_) (.slice A1 l1.length c1) l1) (h : az.f k ay ae l1 a2 = some r) :
    Calls Try.prog 89 #[.agg #[.int .i64 ay, .slice bX ae.length bN], .slice A1 l1.length c1, .int .i64 a2] w fun e w' => ∃ v0_ : Value, e = .returned (v0_) ∧ Kd.V (Kd.int .i64) 2 w' w.heap.size (fun k_ => (P1_ k_ ∨ w.heap.size ≤ k_)) v0_ r ∧ Below w.heap.size w w' := by
 have hu24 := Try.underlying24; have hu98 := Try.underlying98; have bU := ak dB; have eU := ak dC; clear dB dC; have HO1 := ak (show Kd.V (Kd.int .i64) 2 w w.heap.size (fun k_ => (P1_ k_ ∨ w.heap.size ≤ k_)) (.slice A1 l1.length c1) l1 from Kd.kU hs1 (fun k_ hk => .inl hk)); have HB := ak (Below.refl w.heap.size w); have H : (az.l0 k l1 a2 0 ay ae) = some r := h; clear h; have H' := ak H; clear H
 go_enter Try.func89, Try.ntmps89
 go_wp2_with (first | ((with_reducible refine aC (N := 3) rfl ?_); refine bxe 3 #[.int .i64 ay, .slice bX ae.length bN] 24 ?_; intro zH hg w4 hbox hb; have n_ := a5 (Kd.rA (Kd.zK (vx HO1.out) zH (Nat.le_of_eq hg.symm)) hb) (bl hb) hbox (gw w hg) (gw w hg); clear HO1 HB; obtain ⟨HO1, HB, iU, GW565, GE565⟩ := n_; clear hb hbox hg))
 go_loopg [1, 7] k (fun kq v1 v7 w' => ∃ (zM : List Int) (mr : Int), v7 = .int .i64 mr ∧ ag (az.l0 kq zM a2 mr ay ae = some r) ∧ ag (kq ≤ k) ∧ ag (Kd.V (Kd.int .i64) 2 w' w.heap.size (fun k_ => (P1_ k_ ∨ w.heap.size ≤ k_) ∧ k_ ≠ zH) v1 zM) ∧ ag (w'.heap[zH]? = some (.cells #[.int .i64 ay, (.slice bX ae.length bN)] 24 (0, 0))) ∧ ag (Below w.heap.size w w'))
 case atStart => exact ⟨(l1), (0), sr, H', ⟨Nat.le_refl _⟩, ⟨vx HO1.out⟩, xb iU, ⟨lb⟩⟩
 clear H'; obtain ⟨zM, mr, rfl, HA, HK1, oP, iU, HB⟩ := hrel
 cases gk with
 | zero => exact absurd HA.out (by simp [az.l0])
 | succ k1 => ?_
 have H := HA.out; clear HA
 simp only [az.l0] at H
 by_cases c5 : mr < a2
 rotate_left
 ·
  rw [if_neg c5] at H; have c5b0 := decide_eq_false c5; clear c5; obtain rfl := Option.some.inj H
  go_wp2
  go_ret
  exact ⟨_, by first | rfl | (simp [dx, dz] <;> rfl) | (simp [*, dx, dz] <;> rfl), by exact vx (Kd.kU oP.out (fun _ hk => hk.1)), lb⟩
 rw [if_pos c5] at H; have c5b0 := decide_eq_true c5; clear c5; obtain ⟨Y8, Y9⟩ : ∃ y_ : List Int, y_ = (([] : List Int)) := ⟨_, rfl⟩; replace H : (if Y8.length + zM.length < 17592186044416 then (az.l1 k1 zM a2 mr (Y8 ++ zM) 0 ay ae) else (none)) = some r := by first | (rw [Y9]; exact H) | exact H
 have adW := ak Y9; clear Y9; replace H := ifn H; obtain ⟨c6, H⟩ := H; have LMc6 := ak c6; clear c6; obtain ⟨y569, Za⟩ : ∃ y_ : List Int, y_ = (Y8 ++ zM) := ⟨_, rfl⟩; replace H : (az.l1 k1 zM a2 mr y569 0 ay ae) = some r := by first | (rw [Za]; exact H) | exact H
 have Ny569 := ak Za; clear Za; have H' := ak H; clear H
 go_wp2_with (first | ((with_reducible refine aC (N := 16) rfl ?_); refine Kd.ut (Kd.int .i64) _ 2 ?hg (N := 16) ?hd (xs := ([] : List Int)) (inner := []) (ok := fun _ => True) (okp := fun _ => True) ?hr ?hp (fun _ hk => hk) trivial (Below.refl _ _) (Nat.le_refl _) (by simp) ?_; (case hd => rfl); (case hg => rfl); (case hr => first | (go_simp; done) | (go_simp; rfl)); (case hp => exact (je.none _ _)); intro v567 w7 ho8 hb hg_ hnew_; clear hg_ hnew_; (first | rw [← adW.out] at ho8 | (simp only [Int.reduceToNat] at ho8; rw [← adW.out] at ho8)); have n_ := a4 (Kd.JS (vx oP.out) (Kd.fI ho8) hb) (Kd.bY (Kd.lg (M := fun k_ => (w.heap.size ≤ k_)) ho8 (ax lb) (fun k_ h_ => h_)) (ax lb)) (bo iU hb) (bl hb); clear oP iU HB; obtain ⟨oP, Zb, iU, HB⟩ := n_; clear hb ho8; obtain ⟨Ao10, co10, eo10⟩ := Kd.En oP.out; subst eo10) | ((with_reducible refine lJ (b := .append) (xs := #[.tmp 16, .tmp 17]) rfl ?_); at_builtin; refine Kd.xR (Kd.int .i64) (w0 := w) w.heap.size rfl (.tmp 16) (.tmp 17) 25 2 (.int .i64 0) 8 rfl Try.underlying25 wW rfl (by decide) (by omega) v567 Y8 zM _ _ _ (fun k_ => (w.heap.size ≤ k_)) (fun _ => False) rfl rfl ?aO ?aR (fun _ _ h => h) (fun _ h => h.elim) ?aF ?aB ?aS ?aL ?_; (case aR => repeat (first | exact (Kd.l6 oP.out).2.2 | (with_reducible refine Kd.nD ?_ _) | (with_reducible refine Kd.nE ?_ _) | (with_reducible refine Kd.rq ?_))); (case aB => exact lb); (case aF => exact (fun k_ hk => (Nat.le_trans (ax lb) hk))); (case aO => exact (by exact rx (Kd.cO Zb.out (fun _ hk => hk.1)))); (case aS => exact (ax lb)); (case aL => have := LMc6.out; omega); intro UZ w9 ho hb hg hat; rw [← Ny569.out] at ho; have n_ := a4 (Kd.JR (ok := (fun k_ => (P1_ k_ ∨ w.heap.size ≤ k_) ∧ k_ ≠ zH)) (vx oP.out) hg hat) (bH (bx iU.out) hg (Kd.gQ Zb.out iU.out (by decide))) hb ho; clear oP iU HB Zb; obtain ⟨oP, iU, HB, HO571⟩ := n_; clear ho hb hg hat))
 go_loopg [9] k1 (fun kq v9 w' => ∃ (zI : List Int) (eP : Int), v9 = .int .i64 eP ∧ ag (az.l1 kq zM a2 mr zI eP ay ae = some r) ∧ ag (kq ≤ k1) ∧ ag (Kd.V (Kd.int .i64) 2 w' w.heap.size (fun k_ => (P1_ k_ ∨ w.heap.size ≤ k_) ∧ some k_ ≠ (UZ : Value).ownBlock ∧ k_ ≠ zH) (.slice Ao10 zM.length co10) zM) ∧ ag (Kd.R (Kd.int .i64) 2 w' w.heap.size (fun k_ => (w.heap.size ≤ k_)) UZ zI) ∧ ag (w'.heap[zH]? = some (.cells #[.int .i64 ay, (.slice bX ae.length bN)] 24 (0, 0))) ∧ ag (Below w.heap.size w w'))
 case atStart => exact ⟨(y569), (0), sr, H', ⟨Nat.le_refl _⟩, ⟨by exact vx (Kd.kU oP.out (fun _ hk => ⟨hk.1.1, ⟨hk.2, hk.1.2⟩⟩))⟩, ⟨rx HO571.out⟩, xb iU, ⟨lb⟩⟩
 clear H'; obtain ⟨zI, eP, rfl, HA, HK2, oP, eX, iU, HB⟩ := hrel
 cases gk with
 | zero => exact absurd HA.out (by simp [az.l1])
 | succ k2 => ?_
 have H := HA.out; clear HA
 simp only [az.l1] at H
 by_cases c11 : eP < (ae.length : Int)
 rotate_left
 ·
  rw [if_neg c11] at H; have c11b0 := decide_eq_false c11; clear c11; have H' := ak H; clear H; have ⟨_, _, _, _⟩ := cf2 iU
  go_wp2
  go_roundg k2
  case measure => have := HK1.out; have := HK2.out; omega
  case rel => exact ⟨(zI), (wrap64 (mr + 1)), sr, H', ⟨by have := HK1.out; have := HK2.out; omega⟩, ⟨Kd.kU (Kd.R_V (by (with_reducible repeat (first | apply Kd.pq | apply Kd.oD | apply Kd.fH)); exact (Kd.fC eX.out iU.out (by decide)))) (fun k_ hk => by first | exact ⟨(.inr (hk.1)), hk.2⟩ | exact (.inr (hk)))⟩, xb iU, ⟨lb⟩⟩
 rw [if_pos c11] at H; have c11b0 := decide_eq_true c11; clear c11; replace H := if3 H; obtain ⟨c12b0, c13b0, c14b0, H⟩ := H
 by_cases c15 : (rd zM ((aa ae eP).f0)) < 4611686018427387904
 rotate_left
 ·
  rw [if_neg c15] at H; have c15b0 := decide_eq_false c15; clear c15; have H' := ak H; clear H; have ⟨_, _, _, _⟩ := cf2 iU; obtain ⟨p572, q572, QE, adX, vM, vN, vO, vP⟩ := wq (dU bU.out eP); cases adX
  (try replace vM := hbc HB vM)
  (try replace vN := hbc HB vN)
  (try replace vO := hbc HB vO)
  (try replace vP := hbc HB vP)
  try go_wp2_with (first | ((with_reducible refine aC (N := 10) rfl ?_); refine bxe 10 #[.int .i64 0, .int .i64 0, .int .i64 0, .int .i64 0] 98 ?_; intro eF hg w37 hbox hb; have n_ := a9 (Kd.rA (Kd.zK (vx oP.out) eF (Nat.le_of_eq hg.symm)) hb) (ro eX hb) (bo iU hb) (bl hb) hbox (gw w hg) (gw w hg) (nl hg iU) (nr hg iU); clear oP eX iU HB; obtain ⟨oP, eX, iU, HB, ku, adY, Zc, Ho, vQ⟩ := n_; clear hb hbox hg; have ⟨_, _⟩ := nn vQ; have ⟨_, _, _, _, _, _, _, _⟩ := cf4 ku))
  have n0_ : ag (Kd.V (Kd.int .i64) 2 ((((w37.setCell ⟨eF, 0, none⟩ (.int .i64 ((aa ae eP).f0))).setCell ⟨eF, 1, none⟩ (.int .i64 ((aa ae eP).f1))).setCell ⟨eF, 2, none⟩ (.int .i64 ((aa ae eP).f2))).setCell ⟨eF, 3, none⟩ (.int .i64 ((aa ae eP).f3))) w.heap.size (fun k_ => (P1_ k_ ∨ w.heap.size ≤ k_) ∧ some k_ ≠ (UZ : Value).ownBlock ∧ k_ ≠ zH ∧ k_ ≠ eF) (.slice Ao10 zM.length co10) zM) := ⟨by exact vx (Kd.kU (Kd.yL (p := ⟨eF, 3, none⟩) (Kd.yL (p := ⟨eF, 2, none⟩) (Kd.yL (p := ⟨eF, 1, none⟩) (Kd.yL (p := ⟨eF, 0, none⟩) (Kd.kU oP.out (fun k_ hk => (⟨hk, hk.2⟩ : _ ∧ k_ ≠ eF))) (fun _ hk => hk.2) (.int .i64 ((aa ae eP).f0))) (fun _ hk => hk.2) (.int .i64 ((aa ae eP).f1))) (fun _ hk => hk.2) (.int .i64 ((aa ae eP).f2))) (fun _ hk => hk.2) (.int .i64 ((aa ae eP).f3))) (fun _ hk => ⟨hk.1.1.1, ⟨hk.1.1.2.1, ⟨hk.1.1.2.2, hk.1.2⟩⟩⟩))⟩
  have n1_ : ag (Kd.R (Kd.int .i64) 2 ((((w37.setCell ⟨eF, 0, none⟩ (.int .i64 ((aa ae eP).f0))).setCell ⟨eF, 1, none⟩ (.int .i64 ((aa ae eP).f1))).setCell ⟨eF, 2, none⟩ (.int .i64 ((aa ae eP).f2))).setCell ⟨eF, 3, none⟩ (.int .i64 ((aa ae eP).f3))) w.heap.size (fun k_ => (w.heap.size ≤ k_)) UZ zI) := ⟨by exact rx (Kd.cO (Kd.dN (p := ⟨eF, 3, none⟩) (Kd.dN (p := ⟨eF, 2, none⟩) (Kd.dN (p := ⟨eF, 1, none⟩) (Kd.dN (p := ⟨eF, 0, none⟩) (Kd.fC eX.out ku.out (by decide)) (fun _ hk => hk.2) (.int .i64 ((aa ae eP).f0))) (fun _ hk => hk.2) (.int .i64 ((aa ae eP).f1))) (fun _ hk => hk.2) (.int .i64 ((aa ae eP).f2))) (fun _ hk => hk.2) (.int .i64 ((aa ae eP).f3))) (fun _ hk => hk.1))⟩
  have n2_ : ag (((((w37.setCell ⟨eF, 0, none⟩ (.int .i64 ((aa ae eP).f0))).setCell ⟨eF, 1, none⟩ (.int .i64 ((aa ae eP).f1))).setCell ⟨eF, 2, none⟩ (.int .i64 ((aa ae eP).f2))).setCell ⟨eF, 3, none⟩ (.int .i64 ((aa ae eP).f3))).heap[zH]? = some (.cells #[.int .i64 ay, .slice (some QE) ae.length bN] 24 (0, 0))) := ⟨bz⟩
  have n3_ : ag (((((w37.setCell ⟨eF, 0, none⟩ (.int .i64 ((aa ae eP).f0))).setCell ⟨eF, 1, none⟩ (.int .i64 ((aa ae eP).f1))).setCell ⟨eF, 2, none⟩ (.int .i64 ((aa ae eP).f2))).setCell ⟨eF, 3, none⟩ (.int .i64 ((aa ae eP).f3))).heap[eF]? = some (.cells #[.int .i64 ((aa ae eP).f0), .int .i64 ((aa ae eP).f1), .int .i64 ((aa ae eP).f2), .int .i64 ((aa ae eP).f3)] 98 (0, 0))) := ⟨bz⟩
  have n4_ : ag (Below w.heap.size w ((((w37.setCell ⟨eF, 0, none⟩ (.int .i64 ((aa ae eP).f0))).setCell ⟨eF, 1, none⟩ (.int .i64 ((aa ae eP).f1))).setCell ⟨eF, 2, none⟩ (.int .i64 ((aa ae eP).f2))).setCell ⟨eF, 3, none⟩ (.int .i64 ((aa ae eP).f3)))) := ⟨lb⟩
  (try clear oP)
  (try clear eX)
  (try clear iU)
  (try clear ku)
  (try clear HB)
  generalize ((((w37.setCell ⟨eF, 0, none⟩ (.int .i64 ((aa ae eP).f0))).setCell ⟨eF, 1, none⟩ (.int .i64 ((aa ae eP).f1))).setCell ⟨eF, 2, none⟩ (.int .i64 ((aa ae eP).f2))).setCell ⟨eF, 3, none⟩ (.int .i64 ((aa ae eP).f3))) = w40 at n0_ n1_ n2_ n3_ n4_ ⊢
  have oP := n0_; have eX := n1_; have iU := n2_; have ku := n3_; have HB := n4_; clear n0_ n1_ n2_ n3_ n4_; have n_ := a5 (Kd.JQ oP.out) (Kd.fH eX.out) (aK iU.out) (aK ku.out) (bJ HB.out); clear oP eX iU ku HB; obtain ⟨oP, eX, iU, ku, HB⟩ := n_; obtain ⟨p574, q574, QF, adZ, vR⟩ := wq (Kd.bB (Kd.l6 oP.out).2.2 ((aa ae eP).f0)); cases adZ
  refine stC 22 [] (cX (bc0 ku) (cX (bc1 ku) (cX (bc2 ku) (cX (bc3 ku) (cY vR))))) az.UW az.GU fun hHeld HT_ HW_ => ?_
  generalize w40.drew = w41 at oP eX iU ku HB vR hHeld ⊢
  refine pv HT_ 0 31 ?_; refine pv HT_ 1 32 ?_; refine tv HT_ HW_ hHeld 2 33 ?_; refine pv HT_ 3 34 ?_; refine tv HT_ HW_ hHeld 4 35 ?_; refine pv HT_ 5 36 ?_; refine pv HT_ 6 37 ?_; refine pu HT_ 7 38 ?_; refine pu HT_ 8 39 ?_; refine pu HT_ 9 40 ?_; refine pu HT_ 10 41 ?_; refine pu HT_ 11 42 ?_; refine pu HT_ 12 43 ?_; refine pu HT_ 13 44 ?_; refine pu HT_ 14 45 ?_; refine pu HT_ 15 46 ?_; refine pu HT_ 16 47 ?_; refine pu HT_ 17 48 ?_; refine pu HT_ 18 49 ?_; refine pu HT_ 19 50 ?_; refine pu HT_ 20 51 ?_; refine pv HT_ 21 52 ?_
  refine kN (fV HT_.out (by kernel_rfl)) ?_
  try go_wp2
  go_roundg k2
  case measure => have := HK1.out; have := HK2.out; omega
  case rel => exact ⟨(zI), (wrap64 (eP + 1)), sr, H', ⟨by have := HK1.out; have := HK2.out; omega⟩, ⟨by exact vx (Kd.kU oP.out (fun _ hk => ⟨hk.1, ⟨hk.2.1, hk.2.2.1⟩⟩))⟩, ⟨rx eX.out⟩, xb iU, ⟨lb⟩⟩
 rw [if_pos c15] at H; have c15b0 := decide_eq_true c15; clear c15; replace H := if2 H; obtain ⟨c16b0, c17b0, H⟩ := H
 by_cases c18 : (wrap64 ((rd zM ((aa ae eP).f0)) + ((aa ae eP).f3))) < (rd zI ((aa ae eP).f1))
 rotate_left
 ·
  rw [if_neg c18] at H; have c18b0 := decide_eq_false c18; clear c18; have H' := ak H; clear H; have ⟨_, _, _, _⟩ := cf2 iU; obtain ⟨p572, q572, QE, adX, vM, vN, vO, vP⟩ := wq (dU bU.out eP); cases adX
  (try replace vM := hbc HB vM)
  (try replace vN := hbc HB vN)
  (try replace vO := hbc HB vO)
  (try replace vP := hbc HB vP)
  try go_wp2_with (first | ((with_reducible refine aC (N := 10) rfl ?_); refine bxe 10 #[.int .i64 0, .int .i64 0, .int .i64 0, .int .i64 0] 98 ?_; intro eF hg w30 hbox hb; have n_ := a9 (Kd.rA (Kd.zK (vx oP.out) eF (Nat.le_of_eq hg.symm)) hb) (ro eX hb) (bo iU hb) (bl hb) hbox (gw w hg) (gw w hg) (nl hg iU) (nr hg iU); clear oP eX iU HB; obtain ⟨oP, eX, iU, HB, ku, adY, Zc, Ho, vQ⟩ := n_; clear hb hbox hg; have ⟨_, _⟩ := nn vQ; have ⟨_, _, _, _, _, _, _, _⟩ := cf4 ku))
  have n0_ : ag (Kd.V (Kd.int .i64) 2 ((((w30.setCell ⟨eF, 0, none⟩ (.int .i64 ((aa ae eP).f0))).setCell ⟨eF, 1, none⟩ (.int .i64 ((aa ae eP).f1))).setCell ⟨eF, 2, none⟩ (.int .i64 ((aa ae eP).f2))).setCell ⟨eF, 3, none⟩ (.int .i64 ((aa ae eP).f3))) w.heap.size (fun k_ => (P1_ k_ ∨ w.heap.size ≤ k_) ∧ some k_ ≠ (UZ : Value).ownBlock ∧ k_ ≠ zH ∧ k_ ≠ eF) (.slice Ao10 zM.length co10) zM) := ⟨by exact vx (Kd.kU (Kd.yL (p := ⟨eF, 3, none⟩) (Kd.yL (p := ⟨eF, 2, none⟩) (Kd.yL (p := ⟨eF, 1, none⟩) (Kd.yL (p := ⟨eF, 0, none⟩) (Kd.kU oP.out (fun k_ hk => (⟨hk, hk.2⟩ : _ ∧ k_ ≠ eF))) (fun _ hk => hk.2) (.int .i64 ((aa ae eP).f0))) (fun _ hk => hk.2) (.int .i64 ((aa ae eP).f1))) (fun _ hk => hk.2) (.int .i64 ((aa ae eP).f2))) (fun _ hk => hk.2) (.int .i64 ((aa ae eP).f3))) (fun _ hk => ⟨hk.1.1.1, ⟨hk.1.1.2.1, ⟨hk.1.1.2.2, hk.1.2⟩⟩⟩))⟩
  have n1_ : ag (Kd.R (Kd.int .i64) 2 ((((w30.setCell ⟨eF, 0, none⟩ (.int .i64 ((aa ae eP).f0))).setCell ⟨eF, 1, none⟩ (.int .i64 ((aa ae eP).f1))).setCell ⟨eF, 2, none⟩ (.int .i64 ((aa ae eP).f2))).setCell ⟨eF, 3, none⟩ (.int .i64 ((aa ae eP).f3))) w.heap.size (fun k_ => (w.heap.size ≤ k_)) UZ zI) := ⟨by exact rx (Kd.cO (Kd.dN (p := ⟨eF, 3, none⟩) (Kd.dN (p := ⟨eF, 2, none⟩) (Kd.dN (p := ⟨eF, 1, none⟩) (Kd.dN (p := ⟨eF, 0, none⟩) (Kd.fC eX.out ku.out (by decide)) (fun _ hk => hk.2) (.int .i64 ((aa ae eP).f0))) (fun _ hk => hk.2) (.int .i64 ((aa ae eP).f1))) (fun _ hk => hk.2) (.int .i64 ((aa ae eP).f2))) (fun _ hk => hk.2) (.int .i64 ((aa ae eP).f3))) (fun _ hk => hk.1))⟩
  have n2_ : ag (((((w30.setCell ⟨eF, 0, none⟩ (.int .i64 ((aa ae eP).f0))).setCell ⟨eF, 1, none⟩ (.int .i64 ((aa ae eP).f1))).setCell ⟨eF, 2, none⟩ (.int .i64 ((aa ae eP).f2))).setCell ⟨eF, 3, none⟩ (.int .i64 ((aa ae eP).f3))).heap[zH]? = some (.cells #[.int .i64 ay, .slice (some QE) ae.length bN] 24 (0, 0))) := ⟨bz⟩
  have n3_ : ag (((((w30.setCell ⟨eF, 0, none⟩ (.int .i64 ((aa ae eP).f0))).setCell ⟨eF, 1, none⟩ (.int .i64 ((aa ae eP).f1))).setCell ⟨eF, 2, none⟩ (.int .i64 ((aa ae eP).f2))).setCell ⟨eF, 3, none⟩ (.int .i64 ((aa ae eP).f3))).heap[eF]? = some (.cells #[.int .i64 ((aa ae eP).f0), .int .i64 ((aa ae eP).f1), .int .i64 ((aa ae eP).f2), .int .i64 ((aa ae eP).f3)] 98 (0, 0))) := ⟨bz⟩
  have n4_ : ag (Below w.heap.size w ((((w30.setCell ⟨eF, 0, none⟩ (.int .i64 ((aa ae eP).f0))).setCell ⟨eF, 1, none⟩ (.int .i64 ((aa ae eP).f1))).setCell ⟨eF, 2, none⟩ (.int .i64 ((aa ae eP).f2))).setCell ⟨eF, 3, none⟩ (.int .i64 ((aa ae eP).f3)))) := ⟨lb⟩
  (try clear oP)
  (try clear eX)
  (try clear iU)
  (try clear ku)
  (try clear HB)
  generalize ((((w30.setCell ⟨eF, 0, none⟩ (.int .i64 ((aa ae eP).f0))).setCell ⟨eF, 1, none⟩ (.int .i64 ((aa ae eP).f1))).setCell ⟨eF, 2, none⟩ (.int .i64 ((aa ae eP).f2))).setCell ⟨eF, 3, none⟩ (.int .i64 ((aa ae eP).f3))) = w33 at n0_ n1_ n2_ n3_ n4_ ⊢
  have oP := n0_; have eX := n1_; have iU := n2_; have ku := n3_; have HB := n4_; clear n0_ n1_ n2_ n3_ n4_; have n_ := a5 (Kd.JQ oP.out) (Kd.fH eX.out) (aK iU.out) (aK ku.out) (bJ HB.out); clear oP eX iU ku HB; obtain ⟨oP, eX, iU, ku, HB⟩ := n_; obtain ⟨p574, q574, QF, adZ, vR⟩ := wq (Kd.bB (Kd.l6 oP.out).2.2 ((aa ae eP).f0)); cases adZ; obtain ⟨p575, q575, Zd, e575, CZ⟩ := wq (Kd.bB (Kd.l6 oP.out).2.2 ((aa ae eP).f0))
  obtain rfl : QF = Zd := (by injection e575); obtain ⟨Ao35, co35, eo35⟩ := Kd.bT eX.out
  (first | subst eo35 | (injection eo35 with f1_ f2_ f3_; have f4_ := f1_.symm; have f5_ := f3_.symm; clear f1_ f2_ f3_; subst f4_; subst f5_))
  obtain ⟨p576, q576, ad576, e576, xC⟩ := wq (Kd.bB (Kd.aA eX.out).2.2 ((aa ae eP).f1)); cases e576
  refine stC 22 [] (cX (bc0 ku) (cX (bc1 ku) (cX (bc2 ku) (cX (bc3 ku) (cX vR (cX CZ (cY xC))))))) az.UW az.GU fun hHeld HT_ HW_ => ?_
  generalize w33.drew = w34 at oP eX iU ku HB vR CZ xC hHeld ⊢
  refine pv HT_ 0 31 ?_; refine pv HT_ 1 32 ?_; refine tv HT_ HW_ hHeld 2 33 ?_; refine pv HT_ 3 34 ?_; refine tv HT_ HW_ hHeld 4 35 ?_; refine pv HT_ 5 36 ?_; refine pv HT_ 6 37 ?_; refine pv HT_ 7 38 ?_; refine pv HT_ 8 39 ?_; refine pv HT_ 12 43 ?_; refine pv HT_ 15 46 ?_; refine pv HT_ 16 47 ?_; refine tv HT_ HW_ hHeld 9 40 ?_; refine pv HT_ 10 41 ?_; refine tv HT_ HW_ hHeld 11 42 ?_; refine tv HT_ HW_ hHeld 13 44 ?_; refine pv HT_ 14 45 ?_; refine tv HT_ HW_ hHeld 17 48 ?_; refine pv HT_ 18 49 ?_; refine tv HT_ HW_ hHeld 19 50 ?_; refine pv HT_ 20 51 ?_; refine pv HT_ 21 52 ?_
  refine kN (fV HT_.out (by kernel_rfl)) ?_
  try go_wp2
  go_roundg k2
  case measure => have := HK1.out; have := HK2.out; omega
  case rel => exact ⟨(zI), (wrap64 (eP + 1)), sr, H', ⟨by have := HK1.out; have := HK2.out; omega⟩, ⟨by exact vx (Kd.kU oP.out (fun _ hk => ⟨hk.1, ⟨hk.2.1, hk.2.2.1⟩⟩))⟩, ⟨rx eX.out⟩, xb iU, ⟨lb⟩⟩
 rw [if_pos c18] at H; have c18b0 := decide_eq_true c18; clear c18; obtain ⟨y578, Ze⟩ : ∃ y_ : List Int, y_ = (zI.set (((aa ae eP).f1) : Int).toNat (wrap64 ((rd zM ((aa ae eP).f0)) + ((aa ae eP).f3)))) := ⟨_, rfl⟩; replace H : (az.l1 k2 zM a2 mr y578 (wrap64 (eP + 1)) ay ae) = some r := by first | (rw [Ze]; exact H) | exact H
 have Ny578 := ak Ze; clear Ze; have H' := ak H; clear H; have ⟨_, _, _, _⟩ := cf2 iU; obtain ⟨p572, q572, QE, adX, vM, vN, vO, vP⟩ := wq (dU bU.out eP); cases adX
 (try replace vM := hbc HB vM)
 (try replace vN := hbc HB vN)
 (try replace vO := hbc HB vO)
 (try replace vP := hbc HB vP)
 try go_wp2_with (first | ((with_reducible refine aC (N := 10) rfl ?_); refine bxe 10 #[.int .i64 0, .int .i64 0, .int .i64 0, .int .i64 0] 98 ?_; intro eF hg w21 hbox hb; have n_ := a9 (Kd.rA (Kd.zK (vx oP.out) eF (Nat.le_of_eq hg.symm)) hb) (ro eX hb) (bo iU hb) (bl hb) hbox (gw w hg) (gw w hg) (nl hg iU) (nr hg iU); clear oP eX iU HB; obtain ⟨oP, eX, iU, HB, ku, adY, Zc, Ho, vQ⟩ := n_; clear hb hbox hg; have ⟨_, _⟩ := nn vQ; have ⟨_, _, _, _, _, _, _, _⟩ := cf4 ku))
 have n0_ : ag (Kd.V (Kd.int .i64) 2 ((((w21.setCell ⟨eF, 0, none⟩ (.int .i64 ((aa ae eP).f0))).setCell ⟨eF, 1, none⟩ (.int .i64 ((aa ae eP).f1))).setCell ⟨eF, 2, none⟩ (.int .i64 ((aa ae eP).f2))).setCell ⟨eF, 3, none⟩ (.int .i64 ((aa ae eP).f3))) w.heap.size (fun k_ => (P1_ k_ ∨ w.heap.size ≤ k_) ∧ some k_ ≠ (UZ : Value).ownBlock ∧ k_ ≠ zH ∧ k_ ≠ eF) (.slice Ao10 zM.length co10) zM) := ⟨by exact vx (Kd.kU (Kd.yL (p := ⟨eF, 3, none⟩) (Kd.yL (p := ⟨eF, 2, none⟩) (Kd.yL (p := ⟨eF, 1, none⟩) (Kd.yL (p := ⟨eF, 0, none⟩) (Kd.kU oP.out (fun k_ hk => (⟨hk, hk.2⟩ : _ ∧ k_ ≠ eF))) (fun _ hk => hk.2) (.int .i64 ((aa ae eP).f0))) (fun _ hk => hk.2) (.int .i64 ((aa ae eP).f1))) (fun _ hk => hk.2) (.int .i64 ((aa ae eP).f2))) (fun _ hk => hk.2) (.int .i64 ((aa ae eP).f3))) (fun _ hk => ⟨hk.1.1.1, ⟨hk.1.1.2.1, ⟨hk.1.1.2.2, hk.1.2⟩⟩⟩))⟩
 have n1_ : ag (Kd.R (Kd.int .i64) 2 ((((w21.setCell ⟨eF, 0, none⟩ (.int .i64 ((aa ae eP).f0))).setCell ⟨eF, 1, none⟩ (.int .i64 ((aa ae eP).f1))).setCell ⟨eF, 2, none⟩ (.int .i64 ((aa ae eP).f2))).setCell ⟨eF, 3, none⟩ (.int .i64 ((aa ae eP).f3))) w.heap.size (fun k_ => (w.heap.size ≤ k_)) UZ zI) := ⟨by exact rx (Kd.cO (Kd.dN (p := ⟨eF, 3, none⟩) (Kd.dN (p := ⟨eF, 2, none⟩) (Kd.dN (p := ⟨eF, 1, none⟩) (Kd.dN (p := ⟨eF, 0, none⟩) (Kd.fC eX.out ku.out (by decide)) (fun _ hk => hk.2) (.int .i64 ((aa ae eP).f0))) (fun _ hk => hk.2) (.int .i64 ((aa ae eP).f1))) (fun _ hk => hk.2) (.int .i64 ((aa ae eP).f2))) (fun _ hk => hk.2) (.int .i64 ((aa ae eP).f3))) (fun _ hk => hk.1))⟩
 have n2_ : ag (((((w21.setCell ⟨eF, 0, none⟩ (.int .i64 ((aa ae eP).f0))).setCell ⟨eF, 1, none⟩ (.int .i64 ((aa ae eP).f1))).setCell ⟨eF, 2, none⟩ (.int .i64 ((aa ae eP).f2))).setCell ⟨eF, 3, none⟩ (.int .i64 ((aa ae eP).f3))).heap[zH]? = some (.cells #[.int .i64 ay, .slice (some QE) ae.length bN] 24 (0, 0))) := ⟨bz⟩
 have n3_ : ag (((((w21.setCell ⟨eF, 0, none⟩ (.int .i64 ((aa ae eP).f0))).setCell ⟨eF, 1, none⟩ (.int .i64 ((aa ae eP).f1))).setCell ⟨eF, 2, none⟩ (.int .i64 ((aa ae eP).f2))).setCell ⟨eF, 3, none⟩ (.int .i64 ((aa ae eP).f3))).heap[eF]? = some (.cells #[.int .i64 ((aa ae eP).f0), .int .i64 ((aa ae eP).f1), .int .i64 ((aa ae eP).f2), .int .i64 ((aa ae eP).f3)] 98 (0, 0))) := ⟨bz⟩
 have n4_ : ag (Below w.heap.size w ((((w21.setCell ⟨eF, 0, none⟩ (.int .i64 ((aa ae eP).f0))).setCell ⟨eF, 1, none⟩ (.int .i64 ((aa ae eP).f1))).setCell ⟨eF, 2, none⟩ (.int .i64 ((aa ae eP).f2))).setCell ⟨eF, 3, none⟩ (.int .i64 ((aa ae eP).f3)))) := ⟨lb⟩
 (try clear oP)
 (try clear eX)
 (try clear iU)
 (try clear ku)
 (try clear HB)
 generalize ((((w21.setCell ⟨eF, 0, none⟩ (.int .i64 ((aa ae eP).f0))).setCell ⟨eF, 1, none⟩ (.int .i64 ((aa ae eP).f1))).setCell ⟨eF, 2, none⟩ (.int .i64 ((aa ae eP).f2))).setCell ⟨eF, 3, none⟩ (.int .i64 ((aa ae eP).f3))) = w24 at n0_ n1_ n2_ n3_ n4_ ⊢
 have oP := n0_; have eX := n1_; have iU := n2_; have ku := n3_; have HB := n4_; clear n0_ n1_ n2_ n3_ n4_; have n_ := a5 (Kd.JQ oP.out) (Kd.fH eX.out) (aK iU.out) (aK ku.out) (bJ HB.out); clear oP eX iU ku HB; obtain ⟨oP, eX, iU, ku, HB⟩ := n_; obtain ⟨p574, q574, QF, adZ, vR⟩ := wq (Kd.bB (Kd.l6 oP.out).2.2 ((aa ae eP).f0)); cases adZ; obtain ⟨p575, q575, Zd, e575, CZ⟩ := wq (Kd.bB (Kd.l6 oP.out).2.2 ((aa ae eP).f0))
 obtain rfl : QF = Zd := (by injection e575); obtain ⟨Ao26, co26, eo26⟩ := Kd.bT eX.out
 (first | subst eo26 | (injection eo26 with f1_ f2_ f3_; have f4_ := f1_.symm; have f5_ := f3_.symm; clear f1_ f2_ f3_; subst f4_; subst f5_))
 obtain ⟨p576, q576, ad576, e576, xC⟩ := wq (Kd.bB (Kd.aA eX.out).2.2 ((aa ae eP).f1)); cases e576
 refine stC 22 [] (cX (bc0 ku) (cX (bc1 ku) (cX (bc2 ku) (cX (bc3 ku) (cX vR (cX CZ (cY xC))))))) az.UW az.GU fun hHeld HT_ HW_ => ?_
 generalize w24.drew = w25 at oP eX iU ku HB vR CZ xC hHeld ⊢
 refine pv HT_ 0 31 ?_; refine pv HT_ 1 32 ?_; refine tv HT_ HW_ hHeld 2 33 ?_; refine pv HT_ 3 34 ?_; refine tv HT_ HW_ hHeld 4 35 ?_; refine pv HT_ 5 36 ?_; refine pv HT_ 6 37 ?_; refine pv HT_ 7 38 ?_; refine pv HT_ 8 39 ?_; refine pv HT_ 12 43 ?_; refine pv HT_ 15 46 ?_; refine pv HT_ 16 47 ?_; refine tv HT_ HW_ hHeld 9 40 ?_; refine pv HT_ 10 41 ?_; refine tv HT_ HW_ hHeld 11 42 ?_; refine tv HT_ HW_ hHeld 13 44 ?_; refine pv HT_ 14 45 ?_; refine tv HT_ HW_ hHeld 17 48 ?_; refine pv HT_ 18 49 ?_; refine tv HT_ HW_ hHeld 19 50 ?_; refine pv HT_ 20 51 ?_; refine pv HT_ 21 52 ?_
 refine kN (fV HT_.out (by kernel_rfl)) ?_
 try go_wp2
 have n_ := a5 (Kd.JQ oP.out) (Kd.fH eX.out) (aK iU.out) (aK ku.out) (bJ HB.out); clear oP eX iU ku HB; obtain ⟨oP, eX, iU, ku, HB⟩ := n_; obtain ⟨p577, q577, ad577, e577, QG⟩ := wq (Kd.bB (Kd.l6 oP.out).2.2 ((aa ae eP).f0))
 obtain rfl : QF = ad577 := (by injection e577); have p19 : 0 ≤ (((aa ae eP).f1) : Int) := oda; have q19 : (((aa ae eP).f1) : Int) < ((zI.length : Int) : Int) := oda
 obtain ⟨go19, co19, eo19, gb19, gl19, cl19, HG19⟩ := Kd.l9 eX.out (by omega)
 (first | cases eo19 | (injection eo19 with ea_ en_ ec_; (first | subst ea_ | (injection ea_ with ea_; subst ea_)); subst ec_; clear en_))
 have GB19 := ak gb19; have GG19 := ak HG19; clear gb19 gl19 HG19
 (first | simp only [add_plain] at xC | skip)
 obtain ⟨QH, QI⟩ := Kd.gJ 0 eX.out (((aa ae eP).f1) : Int) p19 q19; replace p19 := eq_true p19; replace q19 := eq_true q19; have HP28 := Kd.wP eX.out (((aa ae eP).f1) : Int) (wrap64 ((rd zM ((aa ae eP).f0)) + ((aa ae eP).f3))); rw [← Ny578.out] at HP28; have HQ28 := ak HP28; clear HP28
 refine stC 13 [12] (cX (bc0 ku) (cX (bc1 ku) (cX (bc2 ku) (cX (bc3 ku) (cY QG))))) az.KL az.Ee fun hHeld HT_ HW_ => ?_
 generalize w25.drew = w27 at oP eX iU ku HB GG19 HQ28 QI QH xC QG hHeld ⊢
 refine pv HT_ 0 53 ?_; refine pv HT_ 1 54 ?_; refine pv HT_ 3 56 ?_; refine pv HT_ 4 57 ?_; refine pv HT_ 8 61 ?_; refine tv HT_ HW_ hHeld 2 55 ?_; refine tv HT_ HW_ hHeld 5 58 ?_; refine pv HT_ 6 59 ?_; refine tv HT_ HW_ hHeld 7 60 ?_; refine tv HT_ HW_ hHeld 9 62 ?_; refine pv HT_ 10 63 ?_; refine pv HT_ 11 64 ?_
 refine um (i := 12) (N := none) #[T, T, T, T, T, T, T, T, T, T, T, T, T] rfl rfl (gP HT_.out (by kernel_rfl)) (by decide) (fun K hK => ?_)
 refine tV (w1 := ?_) (by rfl) rfl ?_ ?_
 rotate_left
 ·
  go_simp
  rfl
 refine hK.out _ _ ?_
 clear hK K
 refine kN (fV HT_.out (by kernel_rfl)) ?_
 try go_wp2
 go_roundg k2
 case measure => have := HK1.out; have := HK2.out; omega
 case rel => exact ⟨(y578), (wrap64 (eP + 1)), sr, H', ⟨by have := HK1.out; have := HK2.out; omega⟩, ⟨by exact vx (Kd.kU (Kd.yL (p := ⟨go19, (((aa ae eP).f1) : Int).toNat, none⟩) (Kd.kU oP.out (fun k_ hk => (⟨hk, fun e_ => hk.2.1 (by rw [e_]; rfl)⟩ : _ ∧ k_ ≠ go19))) (fun _ hk => hk.2) (.int .i64 (wrap64 ((rd zM ((aa ae eP).f0)) + ((aa ae eP).f3))))) (fun _ hk => ⟨hk.1.1, ⟨hk.1.2.1, hk.1.2.2.1⟩⟩))⟩, ⟨by (with_reducible repeat (first | apply Kd.pq | apply Kd.oD | apply Kd.fH)); exact HQ28.out⟩, ⟨by (with_reducible repeat (first | refine dw ?_ _ | refine aK ?_ | refine bg ?_ _)); refine dY ?_ (by have h_ := Kd.gQ eX.out iU.out (by decide); intro e_; exact h_ (by rw [e_]; rfl)) _; exact bx iU.out⟩, ⟨by repeat (first | (with_reducible first | exact HB.out | apply fE | apply gq | apply bJ | refine bR ?_ GB19.out | refine bR ?_ GE565.out | refine bR ?_ Zc.out) | exact HB.out)⟩⟩
end Go.Proofs.Ytkdoihcjhccliaa.Q
