import Derived.Test.YtkdoihcjhccliaaK
import Derived.Test.YtkdoihcjhccliaaQ0
import Derived.Test.YtkdoihcjhccliaaQ3
namespace Go.Proofs.Ytkdoihcjhccliaa.Q
open Go.RowKit Go.Proofs.YtkdoihcjhccliaaW.PrintWords Go.Proofs.YtkdoihcjhccliaaW.PrintLast Go.Proofs.YtkdoihcjhccliaaW.PrintMore
attribute [local go_sem] dF dG eG eH cz cB dH dI   -- for this text's walks alone
set_option linter.unusedVariables false
set_option linter.unusedSimpArgs false

/-! ### dO: function 53 -/
def dO.l0 : Nat → List Bool → Int → List (S98) → Int → Int → Option (Int × Int)
  | 0, _, _, _, _, _ => none
  | k + 1, x1, x5, x15, x16, x17 => if x17 < x16 then (if 0 ≤ x17 then (if x17 < (x15.length : Int) then (if 0 ≤ ((aa x15 x17).f0) then (if ((aa x15 x17).f0) < (x1.length : Int) then (if fF false x1 ((aa x15 x17).f0) = true then (if 0 ≤ ((aa x15 x17).f1) then (if ((aa x15 x17).f1) < (x1.length : Int) then (if (fF false x1 ((aa x15 x17).f1) = true) then (dO.l0 k x1 x5 x15 x16 (wrap64 (x17 + 1))) else (dO.l0 k x1 (wrap64 (x5 + ((aa x15 x17).f2))) x15 x16 (wrap64 (x17 + 1)))) else (none)) else (none)) else (dO.l0 k x1 x5 x15 x16 (wrap64 (x17 + 1)))) else (none)) else (none)) else (none)) else (none)) else (some (0, x5))
def dO.f (k : Nat) (ay : Int) (ae : List (S98)) (l1 : List Bool) : Option (Int × Int) := if (l1.length : Int) = ay then (dO.l0 k l1 0 ae (ae.length : Int) 0) else (some (221, 0))
set_option maxHeartbeats 8000000 in
set_option maxRecDepth 100000 in
theorem dO.calls (k : Nat) (ay : Int) (bX : Option Addr) (bN : Nat) (ae : List (S98)) (A1 : Option Addr) (c1 : Nat) (l1 : List Bool) (r1 : Int) (r2 : Int) (w : World) (dB : Kd.C k98 w bX ae.length ae) (dC : ae.length ≤ bN) (hr1 : Kd.C Kd.bool w A1 l1.length l1) (hc1 : l1.length ≤ c1) (h : dO.f k ay ae l1 = some (r1, r2)) :
    Calls Try.prog 53 #[.agg #[.int .i64 ay, .slice bX ae.length bN], .slice A1 l1.length c1] w fun e w' => oQ r1 (e = .returned (.int .i64 r2) ∧ Below w.heap.size w w') (e = gave r1 ∧ Below w.heap.size w w') := by
 have hu24 := Try.underlying24; have hu98 := Try.underlying98; have bU := ak dB; have eU := ak dC; clear dB dC; have HR1 := ak hr1; have HC1 := ak hc1; clear hr1 hc1; have HB := ak (Below.refl w.heap.size w); have H : (if (l1.length : Int) = ay then (dO.l0 k l1 0 ae (ae.length : Int) 0) else (some (221, 0))) = some (r1, r2) := h; clear h
 by_cases c3 : (l1.length : Int) = ay
 rotate_left
 ·
  rw [if_neg c3] at H; have c3b := bn2 c3
  simp only [Option.some.injEq, Prod.mk.injEq] at H
  obtain ⟨rfl, rfl⟩ := H
  go_enter Try.func53, Try.ntmps53
  go_wp2_with (first | ((with_reducible refine aC (N := 2) rfl ?_); refine bxe 2 #[.int .i64 ay, .slice bX ae.length bN] 24 ?_; intro ab9 hg w27 hbox hb; have n_ := a4 (bl hb) hbox (gw w hg) (gw w hg); clear HB; obtain ⟨HB, rV, GW126, GE126⟩ := n_; clear hb hbox hg; have ⟨_, _, _, _⟩ := cf2 rV) | ((with_reducible refine au (f := 51) rfl ?_); refine pl 13 Try.func51 #[.bool false, .int .i64 221] ?_; refine (aQ.bad 221 _).mono ?_; rintro e w' ⟨rfl, rfl⟩; refine ⟨_, rfl, ?_⟩; (repeat (first | refine fO ?_ | refine fu ?_)); exact fP rfl (oQ.no da ⟨rfl, lb⟩)))
 rw [if_pos c3] at H; have c3b := be2 c3; clear c3; have A4 := ak (show aQ.f true 221 = some () from rfl); have H' := ak H; clear H
 go_enter Try.func53, Try.ntmps53
 go_wp2_with (first | ((with_reducible refine aC (N := 2) rfl ?_); refine bxe 2 #[.int .i64 ay, .slice bX ae.length bN] 24 ?_; intro ab9 hg w5 hbox hb; have n_ := a4 (bl hb) hbox (gw w hg) (gw w hg); clear HB; obtain ⟨HB, rV, GW126, GE126⟩ := n_; clear hb hbox hg; have ⟨_, _, _, _⟩ := cf2 rV) | ((with_reducible refine au (f := 51) rfl ?_); refine gl 13 Try.func51 #[.bool true, .int .i64 221] ?_; (with_reducible refine (aQ.calls true 221  _ A4.out).mono ?_); rintro e w' ⟨rfl, ⟨nd, rfl⟩⟩; refine ⟨_, rfl, ?_⟩))
 go_loopg [5, 17] k (fun kq v5 v17 w' => ∃ (bV : Int) (bF : Int), v5 = .int .i64 bV ∧ v17 = .int .i64 bF ∧ ag (dO.l0 kq l1 bV ae (ae.length : Int) bF = some (r1, r2)) ∧ ag (kq ≤ k) ∧ ag (w'.heap[ab9]? = some (.cells #[.int .i64 ay, (.slice bX ae.length bN)] 24 (0, 0))) ∧ ag (Below w.heap.size w w'))
 case atStart => exact ⟨(0), (0), sr, sr, H', ⟨Nat.le_refl _⟩, xb rV, ⟨lb⟩⟩
 clear H'; obtain ⟨bV, bF, rfl, rfl, HA, HK1, rV, HB⟩ := hrel
 cases gk with
 | zero => exact absurd HA.out (by simp [dO.l0])
 | succ k1 => ?_
 have H := HA.out; clear HA
 simp only [dO.l0] at H
 by_cases c7 : bF < (ae.length : Int)
 rotate_left
 ·
  rw [if_neg c7] at H; have c7b0 := decide_eq_false c7; clear c7
  simp only [Option.some.injEq, Prod.mk.injEq] at H
  obtain ⟨rfl, rfl⟩ := H
  go_wp2
  go_ret
  exact oQ.ok ⟨er, lb⟩
 rw [if_pos c7] at H; have c7b0 := decide_eq_true c7; clear c7; replace H := if3 H; obtain ⟨c8b0, c9b0, c10b0, H⟩ := H; replace H := ifd H; obtain ⟨c11b0, H⟩ := H; obtain ⟨bq12, hbq12⟩ : ∃ b_ : Bool, b_ = (fF false l1 ((aa ae bF).f0)) := ⟨_, rfl⟩; replace H : (if bq12 = true then (if 0 ≤ ((aa ae bF).f1) then (if ((aa ae bF).f1) < (l1.length : Int) then (if (fF false l1 ((aa ae bF).f1) = true) then (dO.l0 k1 l1 bV ae (ae.length : Int) (wrap64 (bF + 1))) else (dO.l0 k1 l1 (wrap64 (bV + ((aa ae bF).f2))) ae (ae.length : Int) (wrap64 (bF + 1)))) else (none)) else (none)) else (dO.l0 k1 l1 bV ae (ae.length : Int) (wrap64 (bF + 1)))) = some (r1, r2) := by rw [← hbq12] at H; exact H
 have Nbq12 := ak hbq12; clear hbq12
 by_cases c13 : bq12 = true
 rotate_left
 ·
  replace c13 := Bool.eq_false_iff.mpr c13; subst c13
  have H1 : (dO.l0 k1 l1 bV ae (ae.length : Int) (wrap64 (bF + 1))) = some (r1, r2) := by rw [if_neg (show ¬ (false = true) by decide)] at H; exact H
  clear H; have H := H1; clear H1; have H' := ak H; clear H; obtain ⟨p127, q127, aca, e127, uS, uT, uU, uV⟩ := wq (dU bU.out bF); cases e127
  (try replace uS := hbc HB uS)
  (try replace uT := hbc HB uT)
  (try replace uU := hbc HB uU)
  (try replace uV := hbc HB uV)
  go_wp2_with (first | ((with_reducible refine aC (N := 7) rfl ?_); refine bxe 7 #[.int .i64 0, .int .i64 0, .int .i64 0, .int .i64 0] 98 ?_; intro qX hg w24 hbox hb; have n_ := a7 (bo rV hb) (bl hb) hbox (gw w hg) (gw w hg) (nl hg rV) (nr hg rV); clear rV HB; obtain ⟨rV, HB, NB, qY, acb, GJ, uW⟩ := n_; clear hb hbox hg; have ⟨_, _⟩ := nn uW; have ⟨_, _, _, _, _, _, _, _⟩ := cf4 NB; obtain ⟨p129, q129, Td, e129, fA⟩ := wq (Kd.gu HR1.out ((aa ae bF).f0)); (try rw [← Nbq12.out] at fA); cases e129; have uX := an fA qY; have uY := an fA qY; have uZ := an fA qY; have u6 := an fA qY; replace fA := hbc HB fA; replace fA := cg ⟨qX, 0, none⟩ (.int .i64 ((aa ae bF).f0)) fA uX; replace fA := cg ⟨qX, 1, none⟩ (.int .i64 ((aa ae bF).f1)) fA uY; replace fA := cg ⟨qX, 2, none⟩ (.int .i64 ((aa ae bF).f2)) fA uZ; replace fA := cg ⟨qX, 3, none⟩ (.int .i64 ((aa ae bF).f3)) fA u6; clear uX; clear uY; clear uZ; clear u6))
  go_roundg k1
  case measure => have := HK1.out; omega
  case rel => exact ⟨(bV), (wrap64 (bF + 1)), sr, sr, H', ⟨by have := HK1.out; omega⟩, ⟨bz⟩, ⟨lb⟩⟩
 subst c13
 replace H := ip H; replace H := if2 H; obtain ⟨c14b0, c15b0, H⟩ := H; obtain ⟨bq16, hbq16⟩ : ∃ b_ : Bool, b_ = (fF false l1 ((aa ae bF).f1)) := ⟨_, rfl⟩; replace H : (if (bq16 = true) then (dO.l0 k1 l1 bV ae (ae.length : Int) (wrap64 (bF + 1))) else (dO.l0 k1 l1 (wrap64 (bV + ((aa ae bF).f2))) ae (ae.length : Int) (wrap64 (bF + 1)))) = some (r1, r2) := by rw [← hbq16] at H; exact H
 have Nbq16 := ak hbq16; clear hbq16
 by_cases c17 : (bq16 = true)
 ·
  subst c17
  replace H := ip H; have H' := ak H; clear H; obtain ⟨p127, q127, aca, e127, uS, uT, uU, uV⟩ := wq (dU bU.out bF); cases e127
  (try replace uS := hbc HB uS)
  (try replace uT := hbc HB uT)
  (try replace uU := hbc HB uU)
  (try replace uV := hbc HB uV)
  go_wp2_with (first | ((with_reducible refine aC (N := 7) rfl ?_); refine bxe 7 #[.int .i64 0, .int .i64 0, .int .i64 0, .int .i64 0] 98 ?_; intro qX hg w18 hbox hb; have n_ := a7 (bo rV hb) (bl hb) hbox (gw w hg) (gw w hg) (nl hg rV) (nr hg rV); clear rV HB; obtain ⟨rV, HB, NB, qY, acb, GJ, uW⟩ := n_; clear hb hbox hg; have ⟨_, _⟩ := nn uW; have ⟨_, _, _, _, _, _, _, _⟩ := cf4 NB; obtain ⟨p129, q129, Td, e129, fA⟩ := wq (Kd.gu HR1.out ((aa ae bF).f0)); (try rw [← Nbq12.out] at fA); (try rw [← Nbq16.out] at fA); cases e129; have uX := an fA qY; have uY := an fA qY; have uZ := an fA qY; have u6 := an fA qY; replace fA := hbc HB fA; replace fA := cg ⟨qX, 0, none⟩ (.int .i64 ((aa ae bF).f0)) fA uX; replace fA := cg ⟨qX, 1, none⟩ (.int .i64 ((aa ae bF).f1)) fA uY; replace fA := cg ⟨qX, 2, none⟩ (.int .i64 ((aa ae bF).f2)) fA uZ; replace fA := cg ⟨qX, 3, none⟩ (.int .i64 ((aa ae bF).f3)) fA u6; clear uX; clear uY; clear uZ; clear u6; obtain ⟨p130, q130, WL, e130, gZ⟩ := wq (Kd.gu HR1.out ((aa ae bF).f1)); (try rw [← Nbq12.out] at gZ); (try rw [← Nbq16.out] at gZ); obtain rfl : Td = WL := (by injection e130); have AO := an gZ qY; have AP := an gZ qY; have AQ := an gZ qY; have AR := an gZ qY; replace gZ := hbc HB gZ; replace gZ := cg ⟨qX, 0, none⟩ (.int .i64 ((aa ae bF).f0)) gZ AO; replace gZ := cg ⟨qX, 1, none⟩ (.int .i64 ((aa ae bF).f1)) gZ AP; replace gZ := cg ⟨qX, 2, none⟩ (.int .i64 ((aa ae bF).f2)) gZ AQ; replace gZ := cg ⟨qX, 3, none⟩ (.int .i64 ((aa ae bF).f3)) gZ AR; clear AO; clear AP; clear AQ; clear AR))
  go_roundg k1
  case measure => have := HK1.out; omega
  case rel => exact ⟨(bV), (wrap64 (bF + 1)), sr, sr, H', ⟨by have := HK1.out; omega⟩, ⟨bz⟩, ⟨lb⟩⟩
 replace c17 := Bool.eq_false_iff.mpr c17; subst c17
 have H1 : (dO.l0 k1 l1 (wrap64 (bV + ((aa ae bF).f2))) ae (ae.length : Int) (wrap64 (bF + 1))) = some (r1, r2) := by rw [if_neg (show ¬ (false = true) by decide)] at H; exact H
 clear H; have H := H1; clear H1; have H' := ak H; clear H; obtain ⟨p127, q127, aca, e127, uS, uT, uU, uV⟩ := wq (dU bU.out bF); cases e127
 (try replace uS := hbc HB uS)
 (try replace uT := hbc HB uT)
 (try replace uU := hbc HB uU)
 (try replace uV := hbc HB uV)
 go_wp2_with (first | ((with_reducible refine aC (N := 7) rfl ?_); refine bxe 7 #[.int .i64 0, .int .i64 0, .int .i64 0, .int .i64 0] 98 ?_; intro qX hg w21 hbox hb; have n_ := a7 (bo rV hb) (bl hb) hbox (gw w hg) (gw w hg) (nl hg rV) (nr hg rV); clear rV HB; obtain ⟨rV, HB, NB, qY, acb, GJ, uW⟩ := n_; clear hb hbox hg; have ⟨_, _⟩ := nn uW; have ⟨_, _, _, _, _, _, _, _⟩ := cf4 NB; obtain ⟨p129, q129, Td, e129, fA⟩ := wq (Kd.gu HR1.out ((aa ae bF).f0)); (try rw [← Nbq12.out] at fA); (try rw [← Nbq16.out] at fA); cases e129; have uX := an fA qY; have uY := an fA qY; have uZ := an fA qY; have u6 := an fA qY; replace fA := hbc HB fA; replace fA := cg ⟨qX, 0, none⟩ (.int .i64 ((aa ae bF).f0)) fA uX; replace fA := cg ⟨qX, 1, none⟩ (.int .i64 ((aa ae bF).f1)) fA uY; replace fA := cg ⟨qX, 2, none⟩ (.int .i64 ((aa ae bF).f2)) fA uZ; replace fA := cg ⟨qX, 3, none⟩ (.int .i64 ((aa ae bF).f3)) fA u6; clear uX; clear uY; clear uZ; clear u6; obtain ⟨p130, q130, WL, e130, gZ⟩ := wq (Kd.gu HR1.out ((aa ae bF).f1)); (try rw [← Nbq12.out] at gZ); (try rw [← Nbq16.out] at gZ); obtain rfl : Td = WL := (by injection e130); have AO := an gZ qY; have AP := an gZ qY; have AQ := an gZ qY; have AR := an gZ qY; replace gZ := hbc HB gZ; replace gZ := cg ⟨qX, 0, none⟩ (.int .i64 ((aa ae bF).f0)) gZ AO; replace gZ := cg ⟨qX, 1, none⟩ (.int .i64 ((aa ae bF).f1)) gZ AP; replace gZ := cg ⟨qX, 2, none⟩ (.int .i64 ((aa ae bF).f2)) gZ AQ; replace gZ := cg ⟨qX, 3, none⟩ (.int .i64 ((aa ae bF).f3)) gZ AR; clear AO; clear AP; clear AQ; clear AR))
 go_roundg k1
 case measure => have := HK1.out; omega
 case rel => exact ⟨(wrap64 (bV + ((aa ae bF).f2))), (wrap64 (bF + 1)), sr, sr, H', ⟨by have := HK1.out; omega⟩, ⟨bz⟩, ⟨lb⟩⟩
theorem dO.ok (k : Nat) (ay : Int) (bX : Option Addr) (bN : Nat) (ae : List (S98)) (A1 : Option Addr) (c1 : Nat) (l1 : List Bool) (r2 : Int) (w : World) (dB : Kd.C k98 w bX ae.length ae) (dC : ae.length ≤ bN) (hr1 : Kd.C Kd.bool w A1 l1.length l1) (hc1 : l1.length ≤ c1) (h : dO.f k ay ae l1 = some (0, r2)) :
    Calls Try.prog 53 #[.agg #[.int .i64 ay, .slice bX ae.length bN], .slice A1 l1.length c1] w fun e w' => e = .returned (.int .i64 r2) ∧ Below w.heap.size w w' :=
 (dO.calls k ay bX bN ae A1 c1 l1 0 r2 w dB dC hr1 hc1 h).mono fun e w' h_ => h_.good rfl
theorem dO.bad (k : Nat) (ay : Int) (bX : Option Addr) (bN : Nat) (ae : List (S98)) (A1 : Option Addr) (c1 : Nat) (l1 : List Bool) (r1 : Int) (r2 : Int) (w : World) (dB : Kd.C k98 w bX ae.length ae) (dC : ae.length ≤ bN) (hr1 : Kd.C Kd.bool w A1 l1.length l1) (hc1 : l1.length ≤ c1) (h : dO.f k ay ae l1 = some (r1, r2)) (hne_ : r1 ≠ 0) :
    Calls Try.prog 53 #[.agg #[.int .i64 ay, .slice bX ae.length bN], .slice A1 l1.length c1] w fun e w' => e = gave r1 ∧ Below w.heap.size w w' :=
 (dO.calls k ay bX bN ae A1 c1 l1 r1 r2 w dB dC hr1 hc1 h).mono fun e w' h_ => h_.bad hne_

end Go.Proofs.Ytkdoihcjhccliaa.Q
