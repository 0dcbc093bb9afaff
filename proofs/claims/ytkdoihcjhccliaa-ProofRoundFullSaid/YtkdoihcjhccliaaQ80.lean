import Derived.Test.YtkdoihcjhccliaaV
import Derived.Test.YtkdoihcjhccliaaQ0
import Derived.Test.YtkdoihcjhccliaaQ3
import Derived.Test.YtkdoihcjhccliaaQ23
import Derived.Test.YtkdoihcjhccliaaQ45
import Derived.Test.YtkdoihcjhccliaaQ79
import Derived.Test.YtkdoihcjhccliaaQ84
namespace Go.Proofs.Ytkdoihcjhccliaa.Q
open Go.RowKit Go.Proofs.YtkdoihcjhccliaaW.PrintWords Go.Proofs.YtkdoihcjhccliaaW.PrintLast Go.Proofs.YtkdoihcjhccliaaW.PrintMore
attribute [local go_sem] dF dG eG eH cz cB dH dI   -- for this text's walks alone
set_option linter.unusedVariables false
set_option linter.unusedSimpArgs false

/-! ### aG: function 74 -/
mutual
def aG.l0 : Nat → List (List Int) → Int → Int → List (S98) → Option (List Int × Int)
  | 0, _, _, _, _ => none
  | k + 1, x6, x7, lY, qP => if x7 < lY then ((aN.f k lY qP x7).bind fun Zg => (if 0 ≤ x7 then (if x7 < (x6.length : Int) then (aG.l0 k (x6.set (x7 : Int).toNat Zg.1) (wrap64 (x7 + 1)) lY qP) else (none)) else (none))) else (if 0 ≤ lY then (if (lY : Int).toNat ≤ 35184372088832 then (aG.l1 k x6 (List.replicate (lY : Int).toNat 0) 0 lY qP) else (none)) else (none))
def aG.l1 : Nat → List (List Int) → List Int → Int → Int → List (S98) → Option (List Int × Int)
  | 0, _, _, _, _, _ => none
  | k + 1, x6, x8, x9, lY, qP => if x9 < lY then (if 0 ≤ x9 then (if x9 < (x8.length : Int) then (aG.l2 k x6 (x8.set (x9 : Int).toNat x9) x9 (wrap64 (lY - 1)) lY qP) else (none)) else (none)) else ((bD.f k x8).bind fun Zh => (some (Zh, 0)))
def aG.l2 : Nat → List (List Int) → List Int → Int → Int → Int → List (S98) → Option (List Int × Int)
  | 0, _, _, _, _, _, _ => none
  | k + 1, x6, x8, x9, x10, lY, qP => if x10 ≥ 0 then (if 0 ≤ x10 then (if x10 < (x6.length : Int) then (if 0 ≤ x9 then (if x9 < ((ow x6 x10).length : Int) then (if (rd (ow x6 x10) x9) ≥ 0 then (if x9 < (x6.length : Int) then (if x10 < ((ow x6 x9).length : Int) then (if (rd (ow x6 x9) x10) ≥ 0 then (if x9 < (x8.length : Int) then (if x10 < (rd x8 x9) then (aG.l2 k x6 (x8.set (x9 : Int).toNat x10) x9 (wrap64 (x10 - 1)) lY qP) else (aG.l2 k x6 x8 x9 (wrap64 (x10 - 1)) lY qP)) else (none)) else (aG.l2 k x6 x8 x9 (wrap64 (x10 - 1)) lY qP)) else (none)) else (none)) else (aG.l2 k x6 x8 x9 (wrap64 (x10 - 1)) lY qP)) else (none)) else (none)) else (none)) else (none)) else (aG.l1 k x6 x8 (wrap64 (x9 + 1)) lY qP)
end
def aG.f (k : Nat) (ay : Int) (ae : List (S98)) : Option (List Int × Int) := (av.f k ay ae).bind fun Ht => (if Ht.1 = 0 then (if 0 ≤ ay then (if (ay : Int).toNat ≤ 11728124029610 then (aG.l0 k (List.replicate (ay : Int).toNat []) 0 ay ae) else (none)) else (none)) else (some (([] : List Int), Ht.1)))
set_option maxHeartbeats 8000000 in
set_option maxRecDepth 100000 in
theorem aG.calls (k : Nat) (ay : Int) (bX : Option Addr) (bN : Nat) (ae : List (S98)) (r1 : List Int) (r2 : Int) (w : World) (dB : Kd.C k98 w bX ae.length ae) (dC : ae.length ≤ bN) (h : aG.f k ay ae = some (r1, r2)) :
    Calls Try.prog 74 #[.agg #[.int .i64 ay, .slice bX ae.length bN]] w fun e w' => ∃ v0_ : Value, e = .returned (.tuple #[v0_, .int .i64 r2]) ∧ Kd.R (Kd.int .i64) 3 w' w.heap.size (fun _ => True) v0_ r1 ∧ Below w.heap.size w w' := by
 have hu24 := Try.underlying24; have bU := ak dB; have eU := ak dC; clear dB dC; have HB := ak (Below.refl w.heap.size w); have H : ((av.f k ay ae).bind fun Ht => (if Ht.1 = 0 then (if 0 ≤ ay then (if (ay : Int).toNat ≤ 11728124029610 then (aG.l0 k (List.replicate (ay : Int).toNat []) 0 ay ae) else (none)) else (none)) else (some (([] : List Int), Ht.1)))) = some (r1, r2) := h; clear h; replace H := Option.bind_eq_some_iff.mp H; obtain ⟨⟨t711, t712⟩, A20, H⟩ := H; dsimp only at H; have A2 := ak A20; clear A20
 by_cases c3 : t711 = 0
 rotate_left
 ·
  rw [if_neg c3] at H; have c3b := bn2 c3
  simp only [Option.some.injEq, Prod.mk.injEq] at H
  obtain ⟨rfl, rfl⟩ := H
  go_enter Try.func74, Try.ntmps74
  go_wp2_with (first | ((with_reducible refine aC (N := 1) rfl ?_); refine bxe 1 #[.int .i64 ay, .slice bX ae.length bN] 24 ?_; intro TE hg w56 hbox hb; have kE := ak (hbox); have GW710 := ak (gw w hg); have GE710 := ak (gw w hg); replace HB := ak (bl hb); clear hb hbox hg; have ⟨_, _, _, _⟩ := cf2 kE) | ((with_reducible refine au (f := 44) rfl ?_); refine gl 13 Try.func44 #[.agg #[.int .i64 ay, .slice bX ae.length bN]] ?_; (with_reducible refine (av.calls k ay _ _ ae t711 t712 _ (Kd.cZ bU.out lb) eU.out A2.out).mono ?_); rintro e w58 ⟨rfl, hb⟩; refine ⟨_, rfl, ?_⟩; replace kE := ak (bo kE hb); replace HB := ak (bl hb); clear hb))
  go_ret2
  exact ⟨_, by first | rfl | (simp [dx, dz] <;> rfl) | (simp [*, dx, dz] <;> rfl), by first | exact Kd.uo _ _ _ _ _ | exact Kd.yP _ _ _ _ _ | exact Kd.uw _ _ _ _ _ | exact Kd.yN _ _ _ _ _ | exact Kd.yO _ _ _ _ _, lb⟩
 rw [if_pos c3] at H; have c3b := be2 c3; clear c3; replace H := ife H; obtain ⟨c4b0, c4b1, H⟩ := H; replace H := ife H; obtain ⟨c5b0, c5b1, H⟩ := H; obtain ⟨y713, Zi⟩ : ∃ y_ : List (List Int), y_ = (List.replicate (ay : Int).toNat []) := ⟨_, rfl⟩; replace H : (aG.l0 k y713 0 ay ae) = some (r1, r2) := by first | (rw [Zi]; exact H) | exact H
 have ad9 := ak Zi; clear Zi; have H' := ak H; clear H
 go_enter Try.func74, Try.ntmps74
 go_wp2_with (first | ((with_reducible refine aC (N := 1) rfl ?_); refine bxe 1 #[.int .i64 ay, .slice bX ae.length bN] 24 ?_; intro TE hg w6 hbox hb; have kE := ak (hbox); have GW710 := ak (gw w hg); have GE710 := ak (gw w hg); replace HB := ak (bl hb); clear hb hbox hg; have ⟨_, _, _, _⟩ := cf2 kE) | ((with_reducible refine au (f := 44) rfl ?_); refine gl 13 Try.func44 #[.agg #[.int .i64 ay, .slice bX ae.length bN]] ?_; (with_reducible refine (av.calls k ay _ _ ae t711 t712 _ (Kd.cZ bU.out lb) eU.out A2.out).mono ?_); rintro e w8 ⟨rfl, hb⟩; refine ⟨_, rfl, ?_⟩; replace kE := ak (bo kE hb); replace HB := ak (bl hb); clear hb; have ⟨_, _, _, _⟩ := cf2 kE) | ((with_reducible refine aC (N := 21) rfl ?_); refine Kd.aax (Kd.slice 3 (Kd.int .i64)) _ 70 rfl (N := 21) rfl 134 _ _ rfl ay rfl rfl Try.underlying134 (.slice none 0 0) 24 aea rfl (by decide) (by omega) [] (ok := fun _ => True) (okp := fun _ => True) ⟨_, rfl, Kd.uo _ _ _ _ _⟩ (fun _ hk => hk) trivial (oda) (Nat.le_trans (Nat.mul_le_mul_right _ (oda : ay.toNat ≤ 11728124029610)) (by omega)) (Below.refl _ _) (Nat.le_refl _) ?_; intro v714 w10 ho11 hb hg_ hnew_; clear hg_ hnew_; (first | rw [← ad9.out] at ho11 | (simp only [Int.reduceToNat] at ho11; rw [← ad9.out] at ho11)); have HO715 := ak (Kd.Vi ho11 (ax lb)); replace kE := ak (bo kE hb); replace HB := ak (bl hb); clear hb ho11))
 go_loopg [7] k (fun kq v7 w' => ∃ (eD : List (List Int)) (mr : Int), v7 = .int .i64 mr ∧ ag (aG.l0 kq eD mr ay ae = some (r1, r2)) ∧ ag (kq ≤ k) ∧ ag (Kd.S (Kd.slice 3 (Kd.int .i64)) 70 w' w.heap.size (fun _ => True) v714 eD) ∧ ag (w'.heap[TE]? = some (.cells #[.int .i64 ay, (.slice bX ae.length bN)] 24 (0, 0))) ∧ ag (Below w.heap.size w w'))
 case atStart => exact ⟨(y713), (0), sr, H', ⟨Nat.le_refl _⟩, ⟨sx HO715.out⟩, xb kE, ⟨lb⟩⟩
 clear H'; obtain ⟨eD, mr, rfl, HA, HK1, iR, kE, HB⟩ := hrel
 cases gk with
 | zero => exact absurd HA.out (by simp [aG.l0])
 | succ k1 => ?_
 have H := HA.out; clear HA
 simp only [aG.l0] at H
 by_cases c12 : mr < ay
 ·
  rw [if_pos c12] at H; have c12b0 := decide_eq_true c12; clear c12; replace H := Option.bind_eq_some_iff.mp H; obtain ⟨⟨Zj, t719⟩, A130, H⟩ := H; dsimp only at H; have A13 := ak A130; clear A130; replace H := if2 H; obtain ⟨c14b0, c15b0, H⟩ := H; obtain ⟨y720, Zk⟩ : ∃ y_ : List (List Int), y_ = (eD.set (mr : Int).toNat Zj) := ⟨_, rfl⟩; replace H : (aG.l0 k1 y720 (wrap64 (mr + 1)) ay ae) = some (r1, r2) := by first | (rw [Zk]; exact H) | exact H
  have Ny720 := ak Zk; clear Zk; have H' := ak H; clear H; have ⟨_, _, _, _⟩ := cf2 kE
  go_wp2_with (first | ((with_reducible refine au (f := 91) rfl ?_); refine gl 33 Try.func91 #[.agg #[.int .i64 ay, .slice bX ae.length bN], .int .i64 mr] ?_; (with_reducible refine (aN.calls k1 ay _ _ ae mr Zj t719 _ (Kd.cZ bU.out lb) eU.out A13.out).mono ?_); rintro e w18 ⟨v717, rfl, ho0, hb⟩; obtain ⟨TF, TG, rfl⟩ := Kd.bT ho0; refine ⟨_, rfl, ?_⟩; have Zl := ak (Kd.bY ho0 (ax lb)); replace iR := ak (Kd.Eo (sx iR.out) (Kd.fI ho0) hb); replace kE := ak (bo kE hb); replace HB := ak (bl hb); clear hb; (try clear ho0); have p16 : 0 ≤ (mr : Int) := oda; have q16 : (mr : Int) < ((eD.length : Int) : Int) := oda; obtain ⟨go16, co16, eo16, gb16, gl16, cl16, HG16⟩ := Kd.aaw iR.out (by omega); (first | cases eo16 | (injection eo16 with ea_ en_ ec_; (first | subst ea_ | (injection ea_ with ea_; subst ea_)); subst ec_; clear en_)); have GB16 := ak gb16; have GG16 := ak HG16; clear gb16 gl16 HG16; obtain ⟨_, ce16, hcl16, hM16, hcc16, hfr16, _, _⟩ := Kd.Uw iR.out [] (mr : Int) p16 q16; obtain ⟨ve16_0, rfl, ge16_0⟩ := hM16; have QM := hcc16 0 _ rfl; have QN := hfr16 0; (try simp only [show ((Kd.slice 3 (Kd.int .i64))).sz = 1 from rfl, Nat.mul_one, Nat.add_zero] at QM); (try simp only [show ((Kd.slice 3 (Kd.int .i64))).sz = 1 from rfl, Nat.mul_one, Nat.add_zero] at QN); clear hcl16 hcc16 hfr16; replace p16 := eq_true p16; replace q16 := eq_true q16; have n_ := ak (Kd.zq (ok' := (fun k_ => some k_ ≠ (.slice TF Zj.length TG : Value).ownBlock)) iR.out (fun k_ hk => hk.2)); clear iR; have iR := n_; clear n_; have HX19 := ak (show Kd.S (Kd.slice 3 (Kd.int .i64)) 70 w18 w.heap.size (fun k_ => ((fun _ => True)) k_ ∧ ¬ ((fun k_ => some k_ = (.slice TF Zj.length TG : Value).ownBlock)) k_) (.slice (some ⟨go16, 0, none⟩) eD.length co16) eD from (by exact sx (Kd.zq iR.out (fun k_ hk => ⟨trivial, fun e_ => hk e_⟩)))); obtain ⟨oki19, ce19, hcl19, hM19, hcc19, hfr19, hoki19, hH19⟩ := Kd.Uw HX19.out [] (mr : Int) (oda) (by have h_ : (mr : Int) < ((eD.length : Int) : Int) := oda; first | exact h_ | (have e_ := (Kd.kL iR.out).1; omega) | simpa using h_); obtain ⟨ve19_0, rfl, ge19_0⟩ := hM19; have HP19 := Kd.S_seg hH19 (oda) (by have h_ : (mr : Int) < ((eD.length : Int) : Int) := oda; first | exact h_ | (have e_ := (Kd.kL iR.out).1; omega) | simpa using h_) (seg := [(.slice TF Zj.length TG : Value)]) (j := 0) (show 1 ≤ 1 from by decide) (x' := Zj) (Kd.M_row (Kd.cO (Kd.Iu rfl (Kd.cO (ok' := fun k_ => ((fun _ => True)) k_ ∧ k_ ≠ go16) (Kd.JN (Zl.out) (Kd.Lx iR.out) (by decide)) (fun k_ hk => ⟨trivial, fun e_ => (hk.2) (by rw [e_]; rfl)⟩))) (fun _ h_ => Or.inr (h_)))) (fun _ hk => hk) (fun k_ hk_ => ((Kd.cO (ok' := fun k_ => ((fun _ => True)) k_ ∧ k_ ≠ go16) (Kd.JN (Zl.out) (Kd.Lx iR.out) (by decide)) (fun k_ hk => ⟨trivial, fun e_ => (hk.2) (by rw [e_]; rfl)⟩))).1 k_ hk_.symm); have QH := hcc19 0 _ rfl; (try simp only [show ((Kd.slice 3 (Kd.int .i64))).sz = 1 from rfl, Nat.mul_one, Nat.add_zero] at QH); have QI := hfr19 0; (try simp only [show ((Kd.slice 3 (Kd.int .i64))).sz = 1 from rfl, Nat.mul_one, Nat.add_zero] at QI); clear hcl19 hcc19 hfr19 hoki19 hH19; (try simp only [show ((Kd.slice 3 (Kd.int .i64))).sz = 1 from rfl, Nat.mul_one, Nat.add_zero] at HP19)) | ((with_reducible refine fG (t := 70) (p := 36) rfl ?_); refine eQ (t := 70) (p := 36) (v := ?vo_w20) (w1 := (w18.setCell ⟨go16, (mr : Int).toNat, none⟩ ((.slice TF Zj.length TG : Value)))) ?hg ?ho ?hn ?hr ?_; (case ho => rfl); (case hg => rfl); (case hn => rfl); (case hr => first | (go_simp; done) | (go_simp; rfl)); intro w20 hw; have hg : w18.grownBy w20 (some go16) := (by rw [hw]; exact HP19.2); have hp_ : Kd.S (Kd.slice 3 (Kd.int .i64)) 70 w20 w.heap.size (fun _ => True) (.slice (some ⟨go16, 0, none⟩) eD.length co16) y720 := (by rw [hw, Ny720.out]; exact HP19.1); clear HP19; have n0_ := ak (hp_); have n1_ := ak (bH (bx kE.out) hg (Kd.S_ne iR.out kE.out (by decide))); have n2_ := ak ((by rw [hw]; exact bR (HB.out) GB16.out : Below w.heap.size w w20)); clear iR; clear kE; clear HB; clear Zl; have iR := n0_; have kE := n1_; have HB := n2_; clear n0_ n1_ n2_; clear hg hw hp_))
  go_roundg k1
  case measure => have := HK1.out; omega
  case rel => exact ⟨(y720), (wrap64 (mr + 1)), sr, H', ⟨by have := HK1.out; omega⟩, ⟨sx iR.out⟩, xb kE, ⟨lb⟩⟩
 rw [if_neg c12] at H; have c12b0 := decide_eq_false c12; clear c12; replace H := ife H; obtain ⟨c21b0, c21b1, H⟩ := H; replace H := ife H; obtain ⟨c22b0, c22b1, H⟩ := H; obtain ⟨y721, Zm⟩ : ∃ y_ : List Int, y_ = (List.replicate (ay : Int).toNat 0) := ⟨_, rfl⟩; replace H : (aG.l1 k1 eD y721 0 ay ae) = some (r1, r2) := by first | (rw [Zm]; exact H) | exact H
 have aeb := ak Zm; clear Zm; have H' := ak H; clear H; have ⟨_, _, _, _⟩ := cf2 kE
 go_wp2_with (first | ((with_reducible refine aC (N := 39) rfl ?_); refine Kd.ni (Kd.int .i64) _ 3 rfl (N := 39) rfl 70 _ _ rfl ay rfl rfl Try.underlying70 (.int .i64 0) 8 info3 rfl (by decide) (by omega) 0 (ok := fun _ => True) (okp := fun _ => True) rfl (fun _ hk => hk) trivial (oda) (Nat.le_trans (Nat.mul_le_mul_right _ (oda : ay.toNat ≤ 35184372088832)) (by omega)) (Below.refl _ _) (Nat.le_refl _) ?_; intro v722 w24 ho25 hb hg_ hnew_; clear hg_ hnew_; (first | rw [← aeb.out] at ho25 | (simp only [Int.reduceToNat] at ho25; rw [← aeb.out] at ho25)); have HO723 := ak (Kd.bY ho25 (ax lb)); replace iR := ak (Kd.Eo (sx iR.out) (Kd.fI ho25) hb); replace kE := ak (bo kE hb); replace HB := ak (bl hb); clear hb ho25))
 go_loopg [9] k1 (fun kq v9 w' => ∃ (zI : List Int) (eP : Int), v9 = .int .i64 eP ∧ ag (aG.l1 kq eD zI eP ay ae = some (r1, r2)) ∧ ag (kq ≤ k1) ∧ ag (Kd.S (Kd.slice 3 (Kd.int .i64)) 70 w' w.heap.size (fun k_ => some k_ ≠ (v722 : Value).ownBlock) v714 eD) ∧ ag (Kd.R (Kd.int .i64) 3 w' w.heap.size (fun _ => True) v722 zI) ∧ ag (w'.heap[TE]? = some (.cells #[.int .i64 ay, (.slice bX ae.length bN)] 24 (0, 0))) ∧ ag (Below w.heap.size w w'))
 case atStart => exact ⟨(y721), (0), sr, H', ⟨Nat.le_refl _⟩, ⟨by exact sx (Kd.zq iR.out (fun _ hk => hk.2))⟩, ⟨rx HO723.out⟩, xb kE, ⟨lb⟩⟩
 clear H'; obtain ⟨zI, eP, rfl, HA, HK2, iR, eX, kE, HB⟩ := hrel
 cases gk with
 | zero => exact absurd HA.out (by simp [aG.l1])
 | succ k2 => ?_
 have H := HA.out; clear HA
 simp only [aG.l1] at H
 by_cases c26 : eP < ay
 rotate_left
 ·
  rw [if_neg c26] at H; have c26b0 := decide_eq_false c26; clear c26; replace H := Option.bind_eq_some_iff.mp H; obtain ⟨Zh, A520, H⟩ := H; have A52 := ak A520; clear A520
  simp only [Option.some.injEq, Prod.mk.injEq] at H
  obtain ⟨rfl, rfl⟩ := H; have ⟨_, _, _, _⟩ := cf2 kE; obtain ⟨Ao54, co54, eo54⟩ := Kd.bT eX.out; subst eo54
  go_wp2_with (first | ((with_reducible refine au (f := 92) rfl ?_); refine gl 88 Try.func92 #[.slice Ao54 zI.length co54] ?_; (with_reducible refine (bD.calls k2 _ _ zI Zh _ ?side1 ?side2 A52.out).mono ?_); (case side1 => repeat (first | exact (Kd.aA eX.out).2.2 | (with_reducible refine Kd.nD ?_ _) | (with_reducible refine Kd.nE ?_ _) | (with_reducible refine Kd.rq ?_))); (case side2 => exact (Kd.aA eX.out).2.1); rintro e w55 ⟨v725, rfl, ho0, hb⟩; refine ⟨_, rfl, ?_⟩; have HO726 := ak (Kd.bY (Kd.gF ho0 (Kd.mf (rx eX.out))) (ax lb)); replace iR := ak (Kd.Eo (sx iR.out) (Kd.fI ho0) hb); replace eX := ak (Kd.dJ (rx eX.out) (Kd.fI ho0) hb); replace kE := ak (bo kE hb); replace HB := ak (bl hb); clear hb; (try clear ho0)))
  go_ret2
  exact ⟨_, by first | rfl | (simp [dx, dz] <;> rfl) | (simp [*, dx, dz] <;> rfl), by exact rx (Kd.cO HO726.out (fun _ hk => trivial)), lb⟩
 rw [if_pos c26] at H; have c26b0 := decide_eq_true c26; clear c26; replace H := if2 H; obtain ⟨c27b0, c28b0, H⟩ := H; obtain ⟨y727, Zn⟩ : ∃ y_ : List Int, y_ = (zI.set (eP : Int).toNat eP) := ⟨_, rfl⟩; replace H : (aG.l2 k2 eD y727 eP (wrap64 (ay - 1)) ay ae) = some (r1, r2) := by first | (rw [Zn]; exact H) | exact H
 have Ny727 := ak Zn; clear Zn; have H' := ak H; clear H; have ⟨_, _, _, _⟩ := cf2 kE; have p29 : 0 ≤ (eP : Int) := oda; have q29 : (eP : Int) < ((zI.length : Int) : Int) := oda
 obtain ⟨go29, co29, eo29, gb29, gl29, cl29, HG29⟩ := Kd.l9 eX.out (by omega)
 (first | cases eo29 | (injection eo29 with ea_ en_ ec_; (first | subst ea_ | (injection ea_ with ea_; subst ea_)); subst ec_; clear en_))
 have GB29 := ak gb29; have GG29 := ak HG29; clear gb29 gl29 HG29; obtain ⟨hx29_0, hf29_0⟩ := Kd.gJ 0 eX.out (eP : Int) p29 q29; replace p29 := eq_true p29; replace q29 := eq_true q29; have HP31 := Kd.lL eX.out (eP : Int) eP
 go_wp2_with (first | ((with_reducible refine fG (t := 3) (p := 49) rfl ?_); refine eQ (t := 3) (p := 49) (v := ?vo_w32) (w1 := (wr.setCell ⟨go29, (eP : Int).toNat, none⟩ (.int .i64 eP))) ?hg ?ho ?hn ?hr ?_; (case ho => rfl); (case hg => rfl); (case hn => rfl); (case hr => first | (go_simp; done) | (go_simp; rfl)); intro w32 hw; have hg : wr.grownBy w32 (some go29) := (by rw [hw]; exact HP31.2); have hp_ : Kd.R (Kd.int .i64) 3 w32 w.heap.size (fun _ => True) (.slice (some ⟨go29, 0, none⟩) zI.length co29) y727 := (by rw [hw, Ny727.out]; exact HP31.1); clear HP31; replace iR := ak (Kd.LA (v := (.slice (some ⟨go29, 0, none⟩) zI.length co29)) (v1 := (.slice (some ⟨go29, 0, none⟩) zI.length co29)) (ok := (fun _ => True)) (by exact sx (Kd.zq iR.out (fun _ hk => ⟨trivial, hk⟩))) hg (.inl rfl)); replace kE := ak (bH (bx kE.out) hg (Kd.gQ eX.out kE.out (by decide))); replace eX := ak (hp_); replace HB := ak ((by rw [hw]; exact bR (HB.out) GB29.out : Below w.heap.size w w32)); clear hg hw hp_; have ⟨_, _, _, _⟩ := cf2 kE))
 go_loopg [10] k2 (fun kq v10 w' => ∃ (kK : List Int) (dS : Int), v10 = .int .i64 dS ∧ ag (aG.l2 kq eD kK eP dS ay ae = some (r1, r2)) ∧ ag (kq ≤ k2) ∧ ag (Kd.S (Kd.slice 3 (Kd.int .i64)) 70 w' w.heap.size (fun k_ => some k_ ≠ ((.slice (some ⟨go29, 0, none⟩) zI.length co29) : Value).ownBlock) v714 eD) ∧ ag (Kd.R (Kd.int .i64) 3 w' w.heap.size (fun _ => True) (.slice (some ⟨go29, 0, none⟩) zI.length co29) kK) ∧ ag (w'.heap[TE]? = some (.cells #[.int .i64 ay, (.slice bX ae.length bN)] 24 (0, 0))) ∧ ag (Below w.heap.size w w'))
 case atStart => exact ⟨(y727), (wrap64 (ay - 1)), sr, H', ⟨Nat.le_refl _⟩, ⟨by exact sx (Kd.zq iR.out (fun _ hk => hk.2))⟩, ⟨rx eX.out⟩, xb kE, ⟨lb⟩⟩
 clear H'; obtain ⟨kK, dS, rfl, HA, HK3, iR, eX, kE, HB⟩ := hrel; have pW := (Kd.aA eX.out).1; rw [pW] at eX
 (try simp only [pW])
 (try simp only [pW] at kE)
 (try simp only [pW] at iR)
 cases gk with
 | zero => exact absurd HA.out (by simp [aG.l2])
 | succ k3 => ?_
 have H := HA.out; clear HA
 simp only [aG.l2] at H
 by_cases c34 : dS ≥ 0
 rotate_left
 ·
  rw [if_neg c34] at H; have c34b0 := decide_eq_false c34; clear c34; have H' := ak H; clear H
  go_wp2
  (try simp only [← pW])
  go_roundg k3
  case measure => have := HK1.out; have := HK2.out; have := HK3.out; omega
  case rel => exact ⟨(kK), (wrap64 (eP + 1)), sr, H', ⟨by have := HK1.out; have := HK2.out; have := HK3.out; omega⟩, ⟨by (try simp only [pW]); exact sx iR.out⟩, ⟨by (try simp only [pW]); exact rx eX.out⟩, ⟨by (try simp only [pW]); exact bx kE.out⟩, ⟨lb⟩⟩
 rw [if_pos c34] at H; have c34b0 := decide_eq_true c34; clear c34; replace H := if3 H; obtain ⟨c35b0, c36b0, c37b0, H⟩ := H; replace H := ifd H; obtain ⟨c38b0, H⟩ := H
 by_cases c39 : (rd (ow eD dS) eP) ≥ 0
 rotate_left
 ·
  rw [if_neg c39] at H; have c39b0 := decide_eq_false c39; clear c39; have H' := ak H; clear H; obtain ⟨Ao51, co51, eo51⟩ := Kd.Ep iR.out; subst eo51; have F5 : 0 ≤ (dS : Int) := oda; have F6 : dS < (eD.length : Int) := oda; obtain ⟨Hu, QO, QP, Zo, xD, qQ, qR⟩ := Jv (Kd.kL iR.out).2.2 dS F5 F6; cases Zo
  obtain ⟨Zp, Dc, De, vY⟩ := Kd.Iq iR.out [] dS F5 (by first | exact F6 | exact oda | (have e_ := (Kd.kL iR.out).1; omega))
  obtain ⟨Jw, rfl, mZ⟩ := De; have j6 := vY 0 _ rfl; rw [Nat.add_zero, show ((Kd.slice 3 (Kd.int .i64))).sz = 1 from rfl, Nat.mul_one] at j6; replace j6 := Option.some.inj (j6.symm.trans xD); rw [j6] at mZ; have Df := ak (show Kd.R (Kd.int .i64) 3 _ _ _ _ (ow eD dS) from mZ); clear j6 mZ; clear vY Dc; have qU := ak qR; have Jy := ak qQ; clear qR qQ; replace F5 := eq_true F5; replace F6 := eq_true F6; obtain ⟨p729, q729, Zq, Zr, Jz⟩ := wq (Kd.bB (by repeat (first | (with_reducible exact qU.out) | (with_reducible refine Kd.nD ?_ _) | (with_reducible refine Kd.nE ?_ _) | (with_reducible refine Kd.rq ?_) | exact qU.out)) eP)
  cases Zr
  go_wp2
  (try simp only [← pW])
  go_roundg k3
  case measure => have := HK1.out; have := HK2.out; have := HK3.out; omega
  case rel => exact ⟨(kK), (wrap64 (dS - 1)), sr, H', ⟨by have := HK1.out; have := HK2.out; have := HK3.out; omega⟩, ⟨by (try simp only [pW]); exact sx iR.out⟩, ⟨by (try simp only [pW]); exact rx eX.out⟩, ⟨by (try simp only [pW]); exact bx kE.out⟩, ⟨lb⟩⟩
 rw [if_pos c39] at H; have c39b0 := decide_eq_true c39; clear c39; replace H := if2 H; obtain ⟨c40b0, c41b0, H⟩ := H
 by_cases c42 : (rd (ow eD eP) dS) ≥ 0
 rotate_left
 ·
  rw [if_neg c42] at H; have c42b0 := decide_eq_false c42; clear c42; have H' := ak H; clear H; obtain ⟨Ao50, co50, eo50⟩ := Kd.Ep iR.out; subst eo50; have F5 : 0 ≤ (dS : Int) := oda; have F6 : dS < (eD.length : Int) := oda; obtain ⟨Hu, QO, QP, Zo, xD, qQ, qR⟩ := Jv (Kd.kL iR.out).2.2 dS F5 F6; cases Zo
  obtain ⟨Zp, Dc, De, vY⟩ := Kd.Iq iR.out [] dS F5 (by first | exact F6 | exact oda | (have e_ := (Kd.kL iR.out).1; omega))
  obtain ⟨Jw, rfl, mZ⟩ := De; have j6 := vY 0 _ rfl; rw [Nat.add_zero, show ((Kd.slice 3 (Kd.int .i64))).sz = 1 from rfl, Nat.mul_one] at j6; replace j6 := Option.some.inj (j6.symm.trans xD); rw [j6] at mZ; have Df := ak (show Kd.R (Kd.int .i64) 3 _ _ _ _ (ow eD dS) from mZ); clear j6 mZ; clear vY Dc; have qU := ak qR; have Jy := ak qQ; clear qR qQ; replace F5 := eq_true F5; replace F6 := eq_true F6; obtain ⟨p729, q729, Zq, Zr, Jz⟩ := wq (Kd.bB (by repeat (first | (with_reducible exact qU.out) | (with_reducible refine Kd.nD ?_ _) | (with_reducible refine Kd.nE ?_ _) | (with_reducible refine Kd.rq ?_) | exact qU.out)) eP)
  cases Zr; have Ke : 0 ≤ (eP : Int) := oda; have Kg : eP < (eD.length : Int) := oda; obtain ⟨QQ, U2, U3, aec, Dh, vZ, wh⟩ := Jv (Kd.kL iR.out).2.2 eP Ke Kg
  obtain rfl : Hu = QQ := (by injection aec)
  obtain ⟨aed, Hy, Hz, zu⟩ := Kd.Iq iR.out [] eP Ke (by first | exact Kg | exact oda | (have e_ := (Kd.kL iR.out).1; omega))
  obtain ⟨QR, rfl, qV⟩ := Hz; have lZ := zu 0 _ rfl; rw [Nat.add_zero, show ((Kd.slice 3 (Kd.int .i64))).sz = 1 from rfl, Nat.mul_one] at lZ; replace lZ := Option.some.inj (lZ.symm.trans Dh); rw [lZ] at qV; have F7 := ak (show Kd.R (Kd.int .i64) 3 _ _ _ _ (ow eD eP) from qV); clear lZ qV; clear zu Hy; have wo := ak wh; have QS := ak vZ; clear wh vZ; replace Ke := eq_true Ke; replace Kg := eq_true Kg; obtain ⟨p731, q731, aee, aef, QT⟩ := wq (Kd.bB (by repeat (first | (with_reducible exact wo.out) | (with_reducible refine Kd.nD ?_ _) | (with_reducible refine Kd.nE ?_ _) | (with_reducible refine Kd.rq ?_) | exact wo.out)) dS)
  cases aef
  go_wp2
  (try simp only [← pW])
  go_roundg k3
  case measure => have := HK1.out; have := HK2.out; have := HK3.out; omega
  case rel => exact ⟨(kK), (wrap64 (dS - 1)), sr, H', ⟨by have := HK1.out; have := HK2.out; have := HK3.out; omega⟩, ⟨by (try simp only [pW]); exact sx iR.out⟩, ⟨by (try simp only [pW]); exact rx eX.out⟩, ⟨by (try simp only [pW]); exact bx kE.out⟩, ⟨lb⟩⟩
 rw [if_pos c42] at H; have c42b0 := decide_eq_true c42; clear c42; replace H := ifd H; obtain ⟨c43b0, H⟩ := H
 by_cases c44 : dS < (rd kK eP)
 rotate_left
 ·
  rw [if_neg c44] at H; have c44b0 := decide_eq_false c44; clear c44; have H' := ak H; clear H; obtain ⟨Ao49, co49, eo49⟩ := Kd.Ep iR.out; subst eo49; have F5 : 0 ≤ (dS : Int) := oda; have F6 : dS < (eD.length : Int) := oda; obtain ⟨Hu, QO, QP, Zo, xD, qQ, qR⟩ := Jv (Kd.kL iR.out).2.2 dS F5 F6; cases Zo
  obtain ⟨Zp, Dc, De, vY⟩ := Kd.Iq iR.out [] dS F5 (by first | exact F6 | exact oda | (have e_ := (Kd.kL iR.out).1; omega))
  obtain ⟨Jw, rfl, mZ⟩ := De; have j6 := vY 0 _ rfl; rw [Nat.add_zero, show ((Kd.slice 3 (Kd.int .i64))).sz = 1 from rfl, Nat.mul_one] at j6; replace j6 := Option.some.inj (j6.symm.trans xD); rw [j6] at mZ; have Df := ak (show Kd.R (Kd.int .i64) 3 _ _ _ _ (ow eD dS) from mZ); clear j6 mZ; clear vY Dc; have qU := ak qR; have Jy := ak qQ; clear qR qQ; replace F5 := eq_true F5; replace F6 := eq_true F6; obtain ⟨p729, q729, Zq, Zr, Jz⟩ := wq (Kd.bB (by repeat (first | (with_reducible exact qU.out) | (with_reducible refine Kd.nD ?_ _) | (with_reducible refine Kd.nE ?_ _) | (with_reducible refine Kd.rq ?_) | exact qU.out)) eP)
  cases Zr; have Ke : 0 ≤ (eP : Int) := oda; have Kg : eP < (eD.length : Int) := oda; obtain ⟨QQ, U2, U3, aec, Dh, vZ, wh⟩ := Jv (Kd.kL iR.out).2.2 eP Ke Kg
  obtain rfl : Hu = QQ := (by injection aec)
  obtain ⟨aed, Hy, Hz, zu⟩ := Kd.Iq iR.out [] eP Ke (by first | exact Kg | exact oda | (have e_ := (Kd.kL iR.out).1; omega))
  obtain ⟨QR, rfl, qV⟩ := Hz; have lZ := zu 0 _ rfl; rw [Nat.add_zero, show ((Kd.slice 3 (Kd.int .i64))).sz = 1 from rfl, Nat.mul_one] at lZ; replace lZ := Option.some.inj (lZ.symm.trans Dh); rw [lZ] at qV; have F7 := ak (show Kd.R (Kd.int .i64) 3 _ _ _ _ (ow eD eP) from qV); clear lZ qV; clear zu Hy; have wo := ak wh; have QS := ak vZ; clear wh vZ; replace Ke := eq_true Ke; replace Kg := eq_true Kg; obtain ⟨p731, q731, aee, aef, QT⟩ := wq (Kd.bB (by repeat (first | (with_reducible exact wo.out) | (with_reducible refine Kd.nD ?_ _) | (with_reducible refine Kd.nE ?_ _) | (with_reducible refine Kd.rq ?_) | exact wo.out)) dS)
  cases aef; obtain ⟨p732, q732, Zt, e732, xE⟩ := wq (Kd.bB (Kd.aA eX.out).2.2 eP)
  obtain rfl : (⟨go29, 0, none⟩ : Addr) = Zt := (by injection e732)
  (first | simp only [add_plain] at xE | simp only [lI] at xE | simp only [Addr.add, Nat.zero_add] at xE | skip)
  go_wp2
  (try simp only [← pW])
  go_roundg k3
  case measure => have := HK1.out; have := HK2.out; have := HK3.out; omega
  case rel => exact ⟨(kK), (wrap64 (dS - 1)), sr, H', ⟨by have := HK1.out; have := HK2.out; have := HK3.out; omega⟩, ⟨by (try simp only [pW]); exact sx iR.out⟩, ⟨by (try simp only [pW]); exact rx eX.out⟩, ⟨by (try simp only [pW]); exact bx kE.out⟩, ⟨lb⟩⟩
 rw [if_pos c44] at H; have c44b0 := decide_eq_true c44; clear c44; obtain ⟨y733, Zu⟩ : ∃ y_ : List Int, y_ = (kK.set (eP : Int).toNat dS) := ⟨_, rfl⟩; replace H : (aG.l2 k3 eD y733 eP (wrap64 (dS - 1)) ay ae) = some (r1, r2) := by first | (rw [Zu]; exact H) | exact H
 have Ny733 := ak Zu; clear Zu; have H' := ak H; clear H; obtain ⟨Ao46, co46, eo46⟩ := Kd.Ep iR.out; subst eo46; have F5 : 0 ≤ (dS : Int) := oda; have F6 : dS < (eD.length : Int) := oda; obtain ⟨Hu, QO, QP, Zo, xD, qQ, qR⟩ := Jv (Kd.kL iR.out).2.2 dS F5 F6; cases Zo
 obtain ⟨Zp, Dc, De, vY⟩ := Kd.Iq iR.out [] dS F5 (by first | exact F6 | exact oda | (have e_ := (Kd.kL iR.out).1; omega))
 obtain ⟨Jw, rfl, mZ⟩ := De; have j6 := vY 0 _ rfl; rw [Nat.add_zero, show ((Kd.slice 3 (Kd.int .i64))).sz = 1 from rfl, Nat.mul_one] at j6; replace j6 := Option.some.inj (j6.symm.trans xD); rw [j6] at mZ; have Df := ak (show Kd.R (Kd.int .i64) 3 _ _ _ _ (ow eD dS) from mZ); clear j6 mZ; clear vY Dc; have qU := ak qR; have Jy := ak qQ; clear qR qQ; replace F5 := eq_true F5; replace F6 := eq_true F6; obtain ⟨p729, q729, Zq, Zr, Jz⟩ := wq (Kd.bB (by repeat (first | (with_reducible exact qU.out) | (with_reducible refine Kd.nD ?_ _) | (with_reducible refine Kd.nE ?_ _) | (with_reducible refine Kd.rq ?_) | exact qU.out)) eP)
 cases Zr; have Ke : 0 ≤ (eP : Int) := oda; have Kg : eP < (eD.length : Int) := oda; obtain ⟨QQ, U2, U3, aec, Dh, vZ, wh⟩ := Jv (Kd.kL iR.out).2.2 eP Ke Kg
 obtain rfl : Hu = QQ := (by injection aec)
 obtain ⟨aed, Hy, Hz, zu⟩ := Kd.Iq iR.out [] eP Ke (by first | exact Kg | exact oda | (have e_ := (Kd.kL iR.out).1; omega))
 obtain ⟨QR, rfl, qV⟩ := Hz; have lZ := zu 0 _ rfl; rw [Nat.add_zero, show ((Kd.slice 3 (Kd.int .i64))).sz = 1 from rfl, Nat.mul_one] at lZ; replace lZ := Option.some.inj (lZ.symm.trans Dh); rw [lZ] at qV; have F7 := ak (show Kd.R (Kd.int .i64) 3 _ _ _ _ (ow eD eP) from qV); clear lZ qV; clear zu Hy; have wo := ak wh; have QS := ak vZ; clear wh vZ; replace Ke := eq_true Ke; replace Kg := eq_true Kg; obtain ⟨p731, q731, aee, aef, QT⟩ := wq (Kd.bB (by repeat (first | (with_reducible exact wo.out) | (with_reducible refine Kd.nD ?_ _) | (with_reducible refine Kd.nE ?_ _) | (with_reducible refine Kd.rq ?_) | exact wo.out)) dS)
 cases aef; obtain ⟨p732, q732, Zt, e732, xE⟩ := wq (Kd.bB (Kd.aA eX.out).2.2 eP)
 obtain rfl : (⟨go29, 0, none⟩ : Addr) = Zt := (by injection e732)
 (first | simp only [add_plain] at xE | simp only [lI] at xE | simp only [Addr.add, Nat.zero_add] at xE | skip); have p45 : 0 ≤ (eP : Int) := oda; have q45 : (eP : Int) < ((kK.length : Int) : Int) := oda; obtain ⟨hx45_0, hf45_0⟩ := Kd.gJ 0 eX.out (eP : Int) p45 q45; replace p45 := eq_true p45; replace q45 := eq_true q45; have HP47 := Kd.lL eX.out (eP : Int) dS
 go_wp2_with (first | ((with_reducible refine fG (t := 3) (p := 86) rfl ?_); refine eQ (t := 3) (p := 86) (v := ?vo_w48) (w1 := (wr.setCell ⟨go29, (eP : Int).toNat, none⟩ (.int .i64 dS))) ?hg ?ho ?hn ?hr ?_; (case ho => rfl); (case hg => rfl); (case hn => rfl); (case hr => first | (go_simp; done) | (go_simp; rfl)); intro w48 hw; have hg : wr.grownBy w48 (some go29) := (by rw [hw]; exact HP47.2); have hp_ : Kd.R (Kd.int .i64) 3 w48 w.heap.size (fun _ => True) (.slice (some ⟨go29, 0, none⟩) kK.length co29) y733 := (by rw [hw, Ny733.out]; exact HP47.1); clear HP47; replace iR := ak (Kd.LA (v := (.slice (some ⟨go29, 0, none⟩) kK.length co29)) (v1 := (.slice (some ⟨go29, 0, none⟩) kK.length co29)) (ok := (fun _ => True)) (by exact sx (Kd.zq iR.out (fun _ hk => ⟨trivial, hk⟩))) hg (.inl rfl)); replace kE := ak (bH (bx kE.out) hg (Kd.gQ eX.out kE.out (by decide))); replace eX := ak (hp_); replace Df := ak (Kd.qa (v := (.slice (some ⟨go29, 0, none⟩) kK.length co29)) (v1 := (.slice (some ⟨go29, 0, none⟩) kK.length co29)) (ok := (fun k_ => some k_ ≠ (.slice (some Hu) eD.length co46 : Value).ownBlock)) (by exact rx (Kd.cO Df.out (fun _ hk => ⟨hk.2, hk.1⟩))) hg (.inl rfl)); replace F7 := ak (Kd.qa (v := (.slice (some ⟨go29, 0, none⟩) kK.length co29)) (v1 := (.slice (some ⟨go29, 0, none⟩) kK.length co29)) (ok := (fun k_ => some k_ ≠ (.slice (some Hu) eD.length co46 : Value).ownBlock)) (by exact rx (Kd.cO F7.out (fun _ hk => ⟨hk.2, hk.1⟩))) hg (.inl rfl)); replace HB := ak ((by rw [hw]; exact bR (HB.out) GB29.out : Below w.heap.size w w48)); clear hg hw hp_))
 (try simp only [← pW])
 go_roundg k3
 case measure => have := HK1.out; have := HK2.out; have := HK3.out; omega
 case rel => exact ⟨(y733), (wrap64 (dS - 1)), sr, H', ⟨by have := HK1.out; have := HK2.out; have := HK3.out; omega⟩, ⟨by (try simp only [pW]); exact sx (Kd.zq iR.out (fun _ hk => hk.2))⟩, ⟨by (try simp only [pW]); exact rx eX.out⟩, ⟨by (try simp only [pW]); exact bx kE.out⟩, ⟨lb⟩⟩
end Go.Proofs.Ytkdoihcjhccliaa.Q
