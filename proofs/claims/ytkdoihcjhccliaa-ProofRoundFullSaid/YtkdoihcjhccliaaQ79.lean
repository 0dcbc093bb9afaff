import Derived.Test.YtkdoihcjhccliaaK
import Derived.Test.YtkdoihcjhccliaaV
import Derived.Test.YtkdoihcjhccliaaQ0
import Derived.Test.YtkdoihcjhccliaaQ3
import Derived.Test.YtkdoihcjhccliaaQ23
namespace Go.Proofs.Ytkdoihcjhccliaa.Q
open Go.RowKit Go.Proofs.YtkdoihcjhccliaaW.PrintWords Go.Proofs.YtkdoihcjhccliaaW.PrintLast Go.Proofs.YtkdoihcjhccliaaW.PrintMore
attribute [local go_sem] dF dG eG eH cz cB dH dI   -- for this text's walks alone
set_option linter.unusedVariables false
set_option linter.unusedSimpArgs false

/-! ### aN: function 91 -/
mutual
def aN.l0 : Nat → Int → List Int → Int → Int → List (S98) → Option (List Int × Int)
  | 0, _, _, _, _, _ => none
  | k + 1, x1, x7, x8, qW, l5 => if x8 < qW then (if 0 ≤ x8 then (if x8 < (x7.length : Int) then (aN.l0 k x1 (x7.set (x8 : Int).toNat (-1)) (wrap64 (x8 + 1)) qW l5) else (none)) else (none)) else (if 0 ≤ x1 then (if x1 < (x7.length : Int) then (aN.l1 k (x7.set (x1 : Int).toNat 0) 0 qW l5) else (none)) else (none))
def aN.l1 : Nat → List Int → Int → Int → List (S98) → Option (List Int × Int)
  | 0, _, _, _, _ => none
  | k + 1, x7, x9, qW, l5 => if x9 < qW then (aN.l2 k x7 x9 0 qW l5) else (some (x7, 0))
def aN.l2 : Nat → List Int → Int → Int → Int → List (S98) → Option (List Int × Int)
  | 0, _, _, _, _, _ => none
  | k + 1, x7, x9, x10, qW, l5 => if x10 < (l5.length : Int) then (if 0 ≤ x10 then (if 0 ≤ ((aa l5 x10).f0) then (if ((aa l5 x10).f0) < (x7.length : Int) then (if (rd x7 ((aa l5 x10).f0)) = x9 then (if 0 ≤ ((aa l5 x10).f1) then (if ((aa l5 x10).f1) < (x7.length : Int) then (if (rd x7 ((aa l5 x10).f1)) < 0 then (aN.l2 k (x7.set (((aa l5 x10).f1) : Int).toNat (wrap64 (x9 + 1))) x9 (wrap64 (x10 + 1)) qW l5) else (aN.l2 k x7 x9 (wrap64 (x10 + 1)) qW l5)) else (none)) else (none)) else (aN.l2 k x7 x9 (wrap64 (x10 + 1)) qW l5)) else (none)) else (none)) else (none)) else (aN.l1 k x7 (wrap64 (x9 + 1)) qW l5)
end
def aN.f (k : Nat) (ay : Int) (ae : List (S98)) (a1 : Int) : Option (List Int × Int) := (gL.f k ay ae a1).bind fun Lu => (if Lu = 0 then (if 0 ≤ ay then (if (ay : Int).toNat ≤ 35184372088832 then (aN.l0 k a1 (List.replicate (ay : Int).toNat 0) 0 ay ae) else (none)) else (none)) else (some (([] : List Int), Lu)))
set_option maxHeartbeats 8000000 in
set_option maxRecDepth 100000 in
theorem aN.calls (k : Nat) (ay : Int) (bX : Option Addr) (bN : Nat) (ae : List (S98)) (a1 : Int) (r1 : List Int) (r2 : Int) (w : World) (dB : Kd.C k98 w bX ae.length ae) (dC : ae.length ≤ bN) (h : aN.f k ay ae a1 = some (r1, r2)) :
    Calls Try.prog 91 #[.agg #[.int .i64 ay, .slice bX ae.length bN], .int .i64 a1] w fun e w' => ∃ v0_ : Value, e = .returned (.tuple #[v0_, .int .i64 r2]) ∧ Kd.R (Kd.int .i64) 3 w' w.heap.size (fun _ => True) v0_ r1 ∧ Below w.heap.size w w' := by
 have hu24 := Try.underlying24; have hu98 := Try.underlying98; have bU := ak dB; have eU := ak dC; clear dB dC; have HB := ak (Below.refl w.heap.size w); have H : ((gL.f k ay ae a1).bind fun Lu => (if Lu = 0 then (if 0 ≤ ay then (if (ay : Int).toNat ≤ 35184372088832 then (aN.l0 k a1 (List.replicate (ay : Int).toNat 0) 0 ay ae) else (none)) else (none)) else (some (([] : List Int), Lu)))) = some (r1, r2) := h; clear h; replace H := Option.bind_eq_some_iff.mp H; obtain ⟨Lu, A30, H⟩ := H; have A3 := ak A30; clear A30
 by_cases c4 : Lu = 0
 rotate_left
 ·
  rw [if_neg c4] at H; have c4b := bn2 c4
  simp only [Option.some.injEq, Prod.mk.injEq] at H
  obtain ⟨rfl, rfl⟩ := H
  go_enter Try.func91, Try.ntmps91
  go_wp2_with (first | ((with_reducible refine aC (N := 2) rfl ?_); refine bxe 2 #[.int .i64 ay, .slice bX ae.length bN] 24 ?_; intro QV hg w55 hbox hb; have n_ := a4 (bl hb) hbox (gw w hg) (gw w hg); clear HB; obtain ⟨HB, iD, GW690, GE690⟩ := n_; clear hb hbox hg; have ⟨_, _, _, _⟩ := cf2 iD) | ((with_reducible refine au (f := 55) rfl ?_); refine gl 14 Try.func55 #[.agg #[.int .i64 ay, .slice bX ae.length bN], .int .i64 a1] ?_; (with_reducible refine (gL.calls k ay _ _ ae a1 Lu _ (Kd.cZ bU.out lb) eU.out A3.out).mono ?_); rintro e w57 ⟨rfl, hb⟩; refine ⟨_, rfl, ?_⟩; have n_ := a2 (bo iD hb) (bl hb); clear iD HB; obtain ⟨iD, HB⟩ := n_; clear hb))
  go_ret2
  exact ⟨_, by first | rfl | (simp [dx, dz] <;> rfl) | (simp [*, dx, dz] <;> rfl), by first | exact Kd.uo _ _ _ _ _ | exact Kd.yP _ _ _ _ _ | exact Kd.uw _ _ _ _ _ | exact Kd.yN _ _ _ _ _ | exact Kd.yO _ _ _ _ _, lb⟩
 rw [if_pos c4] at H; have c4b := be2 c4; clear c4; replace H := ife H; obtain ⟨c5b0, c5b1, H⟩ := H; replace H := ife H; obtain ⟨c6b0, c6b1, H⟩ := H; obtain ⟨y692, ZB⟩ : ∃ y_ : List Int, y_ = (List.replicate (ay : Int).toNat 0) := ⟨_, rfl⟩; replace H : (aN.l0 k a1 y692 0 ay ae) = some (r1, r2) := by first | (rw [ZB]; exact H) | exact H
 have aei := ak ZB; clear ZB; have H' := ak H; clear H
 go_enter Try.func91, Try.ntmps91
 go_wp2_with (first | ((with_reducible refine aC (N := 2) rfl ?_); refine bxe 2 #[.int .i64 ay, .slice bX ae.length bN] 24 ?_; intro QV hg w7 hbox hb; have n_ := a4 (bl hb) hbox (gw w hg) (gw w hg); clear HB; obtain ⟨HB, iD, GW690, GE690⟩ := n_; clear hb hbox hg; have ⟨_, _, _, _⟩ := cf2 iD) | ((with_reducible refine au (f := 55) rfl ?_); refine gl 14 Try.func55 #[.agg #[.int .i64 ay, .slice bX ae.length bN], .int .i64 a1] ?_; (with_reducible refine (gL.calls k ay _ _ ae a1 Lu _ (Kd.cZ bU.out lb) eU.out A3.out).mono ?_); rintro e w9 ⟨rfl, hb⟩; refine ⟨_, rfl, ?_⟩; have n_ := a2 (bo iD hb) (bl hb); clear iD HB; obtain ⟨iD, HB⟩ := n_; clear hb; have ⟨_, _, _, _⟩ := cf2 iD) | ((with_reducible refine aC (N := 20) rfl ?_); refine Kd.ni (Kd.int .i64) _ 3 rfl (N := 20) rfl 70 _ _ rfl ay rfl rfl Try.underlying70 (.int .i64 0) 8 info3 rfl (by decide) (by omega) 0 (ok := fun _ => True) (okp := fun _ => True) rfl (fun _ hk => hk) trivial (oda) (Nat.le_trans (Nat.mul_le_mul_right _ (oda : ay.toNat ≤ 35184372088832)) (by omega)) (Below.refl _ _) (Nat.le_refl _) ?_; intro v693 w11 ho12 hb hg_ hnew_; clear hg_ hnew_; (first | rw [← aei.out] at ho12 | (simp only [Int.reduceToNat] at ho12; rw [← aei.out] at ho12)); have n_ := a3 (Kd.bY ho12 (ax lb)) (bo iD hb) (bl hb); clear iD HB; obtain ⟨HO694, iD, HB⟩ := n_; clear hb ho12))
 go_loopg [8] k (fun kq v8 w' => ∃ (mr : List Int) (fQ : Int), v8 = .int .i64 fQ ∧ ag (aN.l0 kq a1 mr fQ ay ae = some (r1, r2)) ∧ ag (kq ≤ k) ∧ ag (Kd.R (Kd.int .i64) 3 w' w.heap.size (fun _ => True) v693 mr) ∧ ag (w'.heap[QV]? = some (.cells #[.int .i64 ay, (.slice bX ae.length bN)] 24 (0, 0))) ∧ ag (Below w.heap.size w w'))
 case atStart => exact ⟨(y692), (0), sr, H', ⟨Nat.le_refl _⟩, ⟨rx HO694.out⟩, xb iD, ⟨lb⟩⟩
 clear H'; obtain ⟨mr, fQ, rfl, HA, HK1, lc, iD, HB⟩ := hrel
 cases gk with
 | zero => exact absurd HA.out (by simp [aN.l0])
 | succ k1 => ?_
 have H := HA.out; clear HA
 simp only [aN.l0] at H
 by_cases c13 : fQ < ay
 ·
  rw [if_pos c13] at H; have c13b0 := decide_eq_true c13; clear c13; replace H := if2 H; obtain ⟨c14b0, c15b0, H⟩ := H; obtain ⟨y695, ZC⟩ : ∃ y_ : List Int, y_ = (mr.set (fQ : Int).toNat (-1)) := ⟨_, rfl⟩; replace H : (aN.l0 k1 a1 y695 (wrap64 (fQ + 1)) ay ae) = some (r1, r2) := by first | (rw [ZC]; exact H) | exact H
  have Ny695 := ak ZC; clear ZC; have H' := ak H; clear H; have ⟨_, _, _, _⟩ := cf2 iD; have p16 : 0 ≤ (fQ : Int) := oda; have q16 : (fQ : Int) < ((mr.length : Int) : Int) := oda
  obtain ⟨go16, co16, eo16, gb16, gl16, cl16, HG16⟩ := Kd.l9 lc.out (by omega)
  (first | cases eo16 | (injection eo16 with ea_ en_ ec_; (first | subst ea_ | (injection ea_ with ea_; subst ea_)); subst ec_; clear en_))
  have GB16 := ak gb16; have GG16 := ak HG16; clear gb16 gl16 HG16; obtain ⟨QM, QN⟩ := Kd.gJ 0 lc.out (fQ : Int) p16 q16; replace p16 := eq_true p16; replace q16 := eq_true q16; have HP18 := Kd.lL lc.out (fQ : Int) (-1)
  go_wp2_with (first | ((with_reducible refine fG (t := 3) (p := 29) rfl ?_); refine eQ (t := 3) (p := 29) (v := ?vo_w19) (w1 := (wr.setCell ⟨go16, (fQ : Int).toNat, none⟩ (.int .i64 (-1)))) ?hg ?ho ?hn ?hr ?_; (case ho => rfl); (case hg => rfl); (case hn => rfl); (case hr => first | (go_simp; done) | (go_simp; rfl)); intro w19 hw; have hg : wr.grownBy w19 (some go16) := (by rw [hw]; exact HP18.2); have hp_ : Kd.R (Kd.int .i64) 3 w19 w.heap.size (fun _ => True) (.slice (some ⟨go16, 0, none⟩) mr.length co16) y695 := (by rw [hw, Ny695.out]; exact HP18.1); clear HP18; have n_ := a3 hp_ (bH (bx iD.out) hg (Kd.gQ lc.out iD.out (by decide))) (by rw [hw]; exact bR (HB.out) GB16.out : Below w.heap.size w w19); clear lc iD HB; obtain ⟨lc, iD, HB⟩ := n_; clear hg hw hp_))
  go_roundg k1
  case measure => have := HK1.out; omega
  case rel => exact ⟨(y695), (wrap64 (fQ + 1)), sr, H', ⟨by have := HK1.out; omega⟩, ⟨rx lc.out⟩, xb iD, ⟨lb⟩⟩
 rw [if_neg c13] at H; have c13b0 := decide_eq_false c13; clear c13; replace H := if2 H; obtain ⟨c20b0, c21b0, H⟩ := H; obtain ⟨y696, ZE⟩ : ∃ y_ : List Int, y_ = (mr.set (a1 : Int).toNat 0) := ⟨_, rfl⟩; replace H : (aN.l1 k1 y696 0 ay ae) = some (r1, r2) := by first | (rw [ZE]; exact H) | exact H
 have Ny696 := ak ZE; clear ZE; have H' := ak H; clear H; have ⟨_, _, _, _⟩ := cf2 iD; have p22 : 0 ≤ (a1 : Int) := oda; have q22 : (a1 : Int) < ((mr.length : Int) : Int) := oda
 obtain ⟨go22, co22, eo22, gb22, gl22, cl22, HG22⟩ := Kd.l9 lc.out (by omega)
 (first | cases eo22 | (injection eo22 with ea_ en_ ec_; (first | subst ea_ | (injection ea_ with ea_; subst ea_)); subst ec_; clear en_))
 have GB22 := ak gb22; have GG22 := ak HG22; clear gb22 gl22 HG22; obtain ⟨adM, adN⟩ := Kd.gJ 0 lc.out (a1 : Int) p22 q22; replace p22 := eq_true p22; replace q22 := eq_true q22; have HP24 := Kd.lL lc.out (a1 : Int) 0
 go_wp2_with (first | ((with_reducible refine fG (t := 3) (p := 32) rfl ?_); refine eQ (t := 3) (p := 32) (v := ?vo_w25) (w1 := (wr.setCell ⟨go22, (a1 : Int).toNat, none⟩ (.int .i64 0))) ?hg ?ho ?hn ?hr ?_; (case ho => rfl); (case hg => rfl); (case hn => rfl); (case hr => first | (go_simp; done) | (go_simp; rfl)); intro w25 hw; have hg : wr.grownBy w25 (some go22) := (by rw [hw]; exact HP24.2); have hp_ : Kd.R (Kd.int .i64) 3 w25 w.heap.size (fun _ => True) (.slice (some ⟨go22, 0, none⟩) mr.length co22) y696 := (by rw [hw, Ny696.out]; exact HP24.1); clear HP24; have n_ := a3 hp_ (bH (bx iD.out) hg (Kd.gQ lc.out iD.out (by decide))) (by rw [hw]; exact bR (HB.out) GB22.out : Below w.heap.size w w25); clear lc iD HB; obtain ⟨lc, iD, HB⟩ := n_; clear hg hw hp_))
 go_loopg [9] k1 (fun kq v9 w' => ∃ (gK : List Int) (eP : Int), v9 = .int .i64 eP ∧ ag (aN.l1 kq gK eP ay ae = some (r1, r2)) ∧ ag (kq ≤ k1) ∧ ag (Kd.R (Kd.int .i64) 3 w' w.heap.size (fun _ => True) (.slice (some ⟨go22, 0, none⟩) mr.length co22) gK) ∧ ag (w'.heap[QV]? = some (.cells #[.int .i64 ay, (.slice bX ae.length bN)] 24 (0, 0))) ∧ ag (Below w.heap.size w w'))
 case atStart => exact ⟨(y696), (0), sr, H', ⟨Nat.le_refl _⟩, ⟨rx lc.out⟩, xb iD, ⟨lb⟩⟩
 clear H'; obtain ⟨gK, eP, rfl, HA, HK2, lc, iD, HB⟩ := hrel; have yE := (Kd.aA lc.out).1; rw [yE] at lc
 (try simp only [yE])
 (try simp only [yE] at iD)
 cases gk with
 | zero => exact absurd HA.out (by simp [aN.l1])
 | succ k2 => ?_
 have H := HA.out; clear HA
 simp only [aN.l1] at H
 by_cases c26 : eP < ay
 rotate_left
 ·
  rw [if_neg c26] at H; have c26b0 := decide_eq_false c26; clear c26
  simp only [Option.some.injEq, Prod.mk.injEq] at H
  obtain ⟨rfl, rfl⟩ := H; have ⟨_, _, _, _⟩ := cf2 iD
  go_wp2
  go_ret2
  exact ⟨_, by first | rfl | (simp [dx, dz] <;> rfl) | (simp [*, dx, dz] <;> rfl), by exact rx lc.out, lb⟩
 rw [if_pos c26] at H; have c26b0 := decide_eq_true c26; clear c26; have H' := ak H; clear H; have ⟨_, _, _, _⟩ := cf2 iD
 go_wp2
 go_loopg [10] k2 (fun kq v10 w' => ∃ (K4 : List Int) (dS : Int), v10 = .int .i64 dS ∧ ag (aN.l2 kq K4 eP dS ay ae = some (r1, r2)) ∧ ag (kq ≤ k2) ∧ ag (Kd.R (Kd.int .i64) 3 w' w.heap.size (fun _ => True) (.slice (some ⟨go22, 0, none⟩) gK.length co22) K4) ∧ ag (w'.heap[QV]? = some (.cells #[.int .i64 ay, (.slice bX ae.length bN)] 24 (0, 0))) ∧ ag (Below w.heap.size w w'))
 case atStart => exact ⟨(gK), (0), sr, H', ⟨Nat.le_refl _⟩, ⟨by (try simp only [yE]); exact rx lc.out⟩, ⟨by (try simp only [yE]); exact bx iD.out⟩, ⟨lb⟩⟩
 clear H'; obtain ⟨K4, dS, rfl, HA, HK3, lc, iD, HB⟩ := hrel; have xG := (Kd.aA lc.out).1; rw [xG] at lc
 (try simp only [xG])
 (try simp only [xG] at iD)
 cases gk with
 | zero => exact absurd HA.out (by simp [aN.l2])
 | succ k3 => ?_
 have H := HA.out; clear HA
 simp only [aN.l2] at H
 by_cases c28 : dS < (ae.length : Int)
 rotate_left
 ·
  rw [if_neg c28] at H; have c28b0 := decide_eq_false c28; clear c28; have H' := ak H; clear H; have ⟨_, _, _, _⟩ := cf2 iD
  go_wp2
  (try simp only [← yE, ← xG])
  go_roundg k3
  case measure => have := HK1.out; have := HK2.out; have := HK3.out; omega
  case rel => exact ⟨(K4), (wrap64 (eP + 1)), sr, H', ⟨by have := HK1.out; have := HK2.out; have := HK3.out; omega⟩, ⟨by (try simp only [yE]); (try simp only [xG]); exact rx lc.out⟩, ⟨by (try simp only [yE]); (try simp only [xG]); exact bx iD.out⟩, ⟨lb⟩⟩
 rw [if_pos c28] at H; have c28b0 := decide_eq_true c28; clear c28; replace H := if3 H; obtain ⟨c29b0, c30b0, c31b0, H⟩ := H
 by_cases c32 : (rd K4 ((aa ae dS).f0)) = eP
 rotate_left
 ·
  rw [if_neg c32] at H; have c32b := bn2 c32; have H' := ak H; clear H; have ⟨_, _, _, _⟩ := cf2 iD; obtain ⟨p697, q697, ZF, aej, wu, ww, wz, wB⟩ := wq (dU bU.out dS); cases aej
  (try replace wu := hbc HB wu)
  (try replace ww := hbc HB ww)
  (try replace wz := hbc HB wz)
  (try replace wB := hbc HB wB)
  go_wp2_with (first | ((with_reducible refine aC (N := 11) rfl ?_); refine bxe 11 #[.int .i64 0, .int .i64 0, .int .i64 0, .int .i64 0] 98 ?_; intro kH hg w50 hbox hb; have n_ := a8 (ro lc hb) (bo iD hb) (bl hb) hbox (gw w hg) (gw w hg) (nl hg iD) (nr hg iD); clear lc iD HB; obtain ⟨lc, iD, HB, oN, aek, ael, mI, wC⟩ := n_; clear hb hbox hg; have ⟨_, _⟩ := nn wC; have ⟨_, _, _, _, _, _, _, _⟩ := cf4 oN; obtain ⟨p699, q699, QW, aem, jd⟩ := wq (Kd.bB (Kd.aA lc.out).2.2 ((aa ae dS).f0)); obtain rfl : (⟨go22, 0, none⟩ : Addr) = QW := (by injection aem); (first | simp only [add_plain] at jd | simp only [lI] at jd | simp only [Addr.add, Nat.zero_add] at jd | skip); have Dj : (⟨go22, 0, none⟩ : Addr).block ≠ kH := Kd.dQ (Kd.gQ lc.out oN.out (by decide)); have Dk : (⟨go22, 0, none⟩ : Addr).block ≠ kH := Kd.dQ (Kd.gQ lc.out oN.out (by decide)); have Dl : (⟨go22, 0, none⟩ : Addr).block ≠ kH := Kd.dQ (Kd.gQ lc.out oN.out (by decide)); have Dm : (⟨go22, 0, none⟩ : Addr).block ≠ kH := Kd.dQ (Kd.gQ lc.out oN.out (by decide)); replace jd := cg ⟨kH, 0, none⟩ (.int .i64 ((aa ae dS).f0)) jd Dj; replace jd := cg ⟨kH, 1, none⟩ (.int .i64 ((aa ae dS).f1)) jd Dk; replace jd := cg ⟨kH, 2, none⟩ (.int .i64 ((aa ae dS).f2)) jd Dl; replace jd := cg ⟨kH, 3, none⟩ (.int .i64 ((aa ae dS).f3)) jd Dm; clear Dj; clear Dk; clear Dl; clear Dm))
  (try simp only [← xG])
  go_roundg k3
  case measure => have := HK1.out; have := HK2.out; have := HK3.out; omega
  case rel => exact ⟨(K4), (wrap64 (dS + 1)), sr, H', ⟨by have := HK1.out; have := HK2.out; have := HK3.out; omega⟩, ⟨by (try simp only [yE]); (try simp only [xG]); exact rx (Kd.cO (Kd.dN (p := ⟨kH, 3, none⟩) (Kd.dN (p := ⟨kH, 2, none⟩) (Kd.dN (p := ⟨kH, 1, none⟩) (Kd.dN (p := ⟨kH, 0, none⟩) (Kd.fC lc.out oN.out (by decide)) (fun _ hk => hk.2) (.int .i64 ((aa ae dS).f0))) (fun _ hk => hk.2) (.int .i64 ((aa ae dS).f1))) (fun _ hk => hk.2) (.int .i64 ((aa ae dS).f2))) (fun _ hk => hk.2) (.int .i64 ((aa ae dS).f3))) (fun _ hk => trivial))⟩, ⟨by (try simp only [yE]); (try simp only [xG]); (with_reducible repeat (first | refine dw ?_ _ | refine aK ?_ | refine bg ?_ _)); refine dY ?_ mI.out _; (with_reducible repeat (first | refine dw ?_ _ | refine aK ?_ | refine bg ?_ _)); refine dY ?_ mI.out _; (with_reducible repeat (first | refine dw ?_ _ | refine aK ?_ | refine bg ?_ _)); refine dY ?_ mI.out _; (with_reducible repeat (first | refine dw ?_ _ | refine aK ?_ | refine bg ?_ _)); refine dY ?_ mI.out _; exact bx iD.out⟩, ⟨lb⟩⟩
 rw [if_pos c32] at H; have c32b := be2 c32; clear c32; replace H := if2 H; obtain ⟨c33b0, c34b0, H⟩ := H
 by_cases c35 : (rd K4 ((aa ae dS).f1)) < 0
 rotate_left
 ·
  rw [if_neg c35] at H; have c35b0 := decide_eq_false c35; clear c35; have H' := ak H; clear H; have ⟨_, _, _, _⟩ := cf2 iD; obtain ⟨p697, q697, ZF, aej, wu, ww, wz, wB⟩ := wq (dU bU.out dS); cases aej
  (try replace wu := hbc HB wu)
  (try replace ww := hbc HB ww)
  (try replace wz := hbc HB wz)
  (try replace wB := hbc HB wB)
  go_wp2_with (first | ((with_reducible refine aC (N := 11) rfl ?_); refine bxe 11 #[.int .i64 0, .int .i64 0, .int .i64 0, .int .i64 0] 98 ?_; intro kH hg w46 hbox hb; have n_ := a8 (ro lc hb) (bo iD hb) (bl hb) hbox (gw w hg) (gw w hg) (nl hg iD) (nr hg iD); clear lc iD HB; obtain ⟨lc, iD, HB, oN, aek, ael, mI, wC⟩ := n_; clear hb hbox hg; have ⟨_, _⟩ := nn wC; have ⟨_, _, _, _, _, _, _, _⟩ := cf4 oN; obtain ⟨p699, q699, QW, aem, jd⟩ := wq (Kd.bB (Kd.aA lc.out).2.2 ((aa ae dS).f0)); obtain rfl : (⟨go22, 0, none⟩ : Addr) = QW := (by injection aem); (first | simp only [add_plain] at jd | simp only [lI] at jd | simp only [Addr.add, Nat.zero_add] at jd | skip); have Dj : (⟨go22, 0, none⟩ : Addr).block ≠ kH := Kd.dQ (Kd.gQ lc.out oN.out (by decide)); have Dk : (⟨go22, 0, none⟩ : Addr).block ≠ kH := Kd.dQ (Kd.gQ lc.out oN.out (by decide)); have Dl : (⟨go22, 0, none⟩ : Addr).block ≠ kH := Kd.dQ (Kd.gQ lc.out oN.out (by decide)); have Dm : (⟨go22, 0, none⟩ : Addr).block ≠ kH := Kd.dQ (Kd.gQ lc.out oN.out (by decide)); replace jd := cg ⟨kH, 0, none⟩ (.int .i64 ((aa ae dS).f0)) jd Dj; replace jd := cg ⟨kH, 1, none⟩ (.int .i64 ((aa ae dS).f1)) jd Dk; replace jd := cg ⟨kH, 2, none⟩ (.int .i64 ((aa ae dS).f2)) jd Dl; replace jd := cg ⟨kH, 3, none⟩ (.int .i64 ((aa ae dS).f3)) jd Dm; clear Dj; clear Dk; clear Dl; clear Dm; obtain ⟨p700, q700, ZG, e700, ng⟩ := wq (Kd.bB (Kd.aA lc.out).2.2 ((aa ae dS).f1)); obtain rfl : (⟨go22, 0, none⟩ : Addr) = ZG := (by injection e700); (first | simp only [add_plain] at ng | simp only [lI] at ng | simp only [Addr.add, Nat.zero_add] at ng | skip); have QX : (⟨go22, 0, none⟩ : Addr).block ≠ kH := Kd.dQ (Kd.gQ lc.out oN.out (by decide)); have QY : (⟨go22, 0, none⟩ : Addr).block ≠ kH := Kd.dQ (Kd.gQ lc.out oN.out (by decide)); have QZ : (⟨go22, 0, none⟩ : Addr).block ≠ kH := Kd.dQ (Kd.gQ lc.out oN.out (by decide)); have Q0 : (⟨go22, 0, none⟩ : Addr).block ≠ kH := Kd.dQ (Kd.gQ lc.out oN.out (by decide)); replace ng := cg ⟨kH, 0, none⟩ (.int .i64 ((aa ae dS).f0)) ng QX; replace ng := cg ⟨kH, 1, none⟩ (.int .i64 ((aa ae dS).f1)) ng QY; replace ng := cg ⟨kH, 2, none⟩ (.int .i64 ((aa ae dS).f2)) ng QZ; replace ng := cg ⟨kH, 3, none⟩ (.int .i64 ((aa ae dS).f3)) ng Q0; clear QX; clear QY; clear QZ; clear Q0))
  (try simp only [← xG])
  go_roundg k3
  case measure => have := HK1.out; have := HK2.out; have := HK3.out; omega
  case rel => exact ⟨(K4), (wrap64 (dS + 1)), sr, H', ⟨by have := HK1.out; have := HK2.out; have := HK3.out; omega⟩, ⟨by (try simp only [yE]); (try simp only [xG]); exact rx (Kd.cO (Kd.dN (p := ⟨kH, 3, none⟩) (Kd.dN (p := ⟨kH, 2, none⟩) (Kd.dN (p := ⟨kH, 1, none⟩) (Kd.dN (p := ⟨kH, 0, none⟩) (Kd.fC lc.out oN.out (by decide)) (fun _ hk => hk.2) (.int .i64 ((aa ae dS).f0))) (fun _ hk => hk.2) (.int .i64 ((aa ae dS).f1))) (fun _ hk => hk.2) (.int .i64 ((aa ae dS).f2))) (fun _ hk => hk.2) (.int .i64 ((aa ae dS).f3))) (fun _ hk => trivial))⟩, ⟨by (try simp only [yE]); (try simp only [xG]); (with_reducible repeat (first | refine dw ?_ _ | refine aK ?_ | refine bg ?_ _)); refine dY ?_ mI.out _; (with_reducible repeat (first | refine dw ?_ _ | refine aK ?_ | refine bg ?_ _)); refine dY ?_ mI.out _; (with_reducible repeat (first | refine dw ?_ _ | refine aK ?_ | refine bg ?_ _)); refine dY ?_ mI.out _; (with_reducible repeat (first | refine dw ?_ _ | refine aK ?_ | refine bg ?_ _)); refine dY ?_ mI.out _; exact bx iD.out⟩, ⟨lb⟩⟩
 rw [if_pos c35] at H; have c35b0 := decide_eq_true c35; clear c35; obtain ⟨y701, ZH⟩ : ∃ y_ : List Int, y_ = (K4.set (((aa ae dS).f1) : Int).toNat (wrap64 (eP + 1))) := ⟨_, rfl⟩; replace H : (aN.l2 k3 y701 eP (wrap64 (dS + 1)) ay ae) = some (r1, r2) := by first | (rw [ZH]; exact H) | exact H
 have Ny701 := ak ZH; clear ZH; have H' := ak H; clear H; have ⟨_, _, _, _⟩ := cf2 iD; obtain ⟨p697, q697, ZF, aej, wu, ww, wz, wB⟩ := wq (dU bU.out dS); cases aej
 (try replace wu := hbc HB wu)
 (try replace ww := hbc HB ww)
 (try replace wz := hbc HB wz)
 (try replace wB := hbc HB wB)
 go_wp2_with (first | ((with_reducible refine aC (N := 11) rfl ?_); refine bxe 11 #[.int .i64 0, .int .i64 0, .int .i64 0, .int .i64 0] 98 ?_; intro kH hg w38 hbox hb; have n_ := a8 (ro lc hb) (bo iD hb) (bl hb) hbox (gw w hg) (gw w hg) (nl hg iD) (nr hg iD); clear lc iD HB; obtain ⟨lc, iD, HB, oN, aek, ael, mI, wC⟩ := n_; clear hb hbox hg; have ⟨_, _⟩ := nn wC; have ⟨_, _, _, _, _, _, _, _⟩ := cf4 oN) | ((with_reducible refine fG (t := 98) (p := 11) rfl ?_); refine eQ (t := 98) (p := 11) (v := ?vo_w41) (w1 := ((((w38.setCell ⟨kH, 0, none⟩ (.int .i64 ((aa ae dS).f0))).setCell ⟨kH, 1, none⟩ (.int .i64 ((aa ae dS).f1))).setCell ⟨kH, 2, none⟩ (.int .i64 ((aa ae dS).f2))).setCell ⟨kH, 3, none⟩ (.int .i64 ((aa ae dS).f3)))) ?hg ?ho ?hn ?hr ?_; (case ho => rfl); (case hg => rfl); (case hn => rfl); (case hr => first | (go_simp; done) | (go_simp; rfl)); intro w41 hw; have n0_ : ag (Kd.R (Kd.int .i64) 3 w41 w.heap.size (fun _ => True) (.slice (some ⟨go22, 0, none⟩) K4.length co22) K4) := ⟨(by rw [hw]; exact (by exact rx (Kd.cO (Kd.dN (p := ⟨kH, 3, none⟩) (Kd.dN (p := ⟨kH, 2, none⟩) (Kd.dN (p := ⟨kH, 1, none⟩) (Kd.dN (p := ⟨kH, 0, none⟩) (Kd.fC lc.out oN.out (by decide)) (fun _ hk => hk.2) (.int .i64 ((aa ae dS).f0))) (fun _ hk => hk.2) (.int .i64 ((aa ae dS).f1))) (fun _ hk => hk.2) (.int .i64 ((aa ae dS).f2))) (fun _ hk => hk.2) (.int .i64 ((aa ae dS).f3))) (fun _ hk => trivial))))⟩; have n1_ : ag (w41.heap[QV]? = some (.cells #[.int .i64 ay, .slice (some ZF) ae.length bN] 24 (0, 0))) := ⟨(by rw [hw]; exact bz)⟩; have n2_ : ag (w41.heap[kH]? = some (.cells #[.int .i64 ((aa ae dS).f0), .int .i64 ((aa ae dS).f1), .int .i64 ((aa ae dS).f2), .int .i64 ((aa ae dS).f3)] 98 (0, 0))) := ⟨(by rw [hw]; exact bz)⟩; have n3_ : ag (Below w.heap.size w w41) := ⟨(by rw [hw]; exact lb)⟩; clear hw; clear lc; clear iD; clear oN; clear HB; have lc := n0_; have iD := n1_; have oN := n2_; have HB := n3_; clear n0_ n1_ n2_ n3_; have ⟨_, _, _, _, _, _, _, _⟩ := cf4 oN; obtain ⟨p699, q699, QW, aem, jd⟩ := wq (Kd.bB (Kd.aA lc.out).2.2 ((aa ae dS).f0)); obtain rfl : (⟨go22, 0, none⟩ : Addr) = QW := (by injection aem); (first | simp only [add_plain] at jd | simp only [lI] at jd | simp only [Addr.add, Nat.zero_add] at jd | skip); obtain ⟨p700, q700, ZG, e700, ng⟩ := wq (Kd.bB (Kd.aA lc.out).2.2 ((aa ae dS).f1)); obtain rfl : (⟨go22, 0, none⟩ : Addr) = ZG := (by injection e700); (first | simp only [add_plain] at ng | simp only [lI] at ng | simp only [Addr.add, Nat.zero_add] at ng | skip); have p36 : 0 ≤ (((aa ae dS).f1) : Int) := oda; have q36 : (((aa ae dS).f1) : Int) < ((K4.length : Int) : Int) := oda; obtain ⟨hx36_0, hf36_0⟩ := Kd.gJ 0 lc.out (((aa ae dS).f1) : Int) p36 q36; replace p36 := eq_true p36; replace q36 := eq_true q36; obtain ⟨hy43_, hz43_⟩ := Kd.gJ 0 lc.out (((aa ae dS).f1) : Int) (oda) (oda); have HP43 := Kd.lL lc.out (((aa ae dS).f1) : Int) (wrap64 (eP + 1))) | ((with_reducible refine fG (t := 3) (p := 71) rfl ?_); refine eQ (t := 3) (p := 71) (v := ?vo_w44) (w1 := (w41.setCell ⟨go22, (((aa ae dS).f1) : Int).toNat, none⟩ (.int .i64 (wrap64 (eP + 1))))) ?hg ?ho ?hn ?hr ?_; (case ho => rfl); (case hg => rfl); (case hn => rfl); (case hr => first | (go_simp; done) | (go_simp; rfl)); intro w44 hw; have hg : w41.grownBy w44 (some go22) := (by rw [hw]; exact HP43.2); have hp_ : Kd.R (Kd.int .i64) 3 w44 w.heap.size (fun _ => True) (.slice (some ⟨go22, 0, none⟩) K4.length co22) y701 := (by rw [hw, Ny701.out]; exact HP43.1); clear HP43; have n_ := a4 hp_ (bH (bx iD.out) hg (Kd.gQ lc.out iD.out (by decide))) (bH (bx oN.out) hg (Kd.gQ lc.out oN.out (by decide))) (by rw [hw]; exact bR (HB.out) GB22.out : Below w.heap.size w w44); clear lc iD oN HB; obtain ⟨lc, iD, oN, HB⟩ := n_; clear hg hw hp_))
 (try simp only [← xG])
 go_roundg k3
 case measure => have := HK1.out; have := HK2.out; have := HK3.out; omega
 case rel => exact ⟨(y701), (wrap64 (dS + 1)), sr, H', ⟨by have := HK1.out; have := HK2.out; have := HK3.out; omega⟩, ⟨by (try simp only [yE]); (try simp only [xG]); exact rx lc.out⟩, ⟨by (try simp only [yE]); (try simp only [xG]); exact bx iD.out⟩, ⟨lb⟩⟩
end Go.Proofs.Ytkdoihcjhccliaa.Q
