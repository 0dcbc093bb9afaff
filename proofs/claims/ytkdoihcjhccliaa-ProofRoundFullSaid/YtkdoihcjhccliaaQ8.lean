import Derived.Test.YtkdoihcjhccliaaK
import Derived.Test.YtkdoihcjhccliaaQ0
import Derived.Test.YtkdoihcjhccliaaQ3
import Derived.Test.YtkdoihcjhccliaaQ5
import Derived.Test.YtkdoihcjhccliaaQ6
import Derived.Test.YtkdoihcjhccliaaQ7
namespace Go.Proofs.Ytkdoihcjhccliaa.Q
open Go.RowKit Go.Proofs.YtkdoihcjhccliaaW.PrintWords Go.Proofs.YtkdoihcjhccliaaW.PrintLast Go.Proofs.YtkdoihcjhccliaaW.PrintMore
attribute [local go_sem] dF dG eG eH cz cB dH dI   -- for this text's walks alone
set_option linter.unusedVariables false
set_option linter.unusedSimpArgs false

/-! ### iO: function 49 -/
def iO.l0 : Nat → List Int → Int → List Int → Int → Int → Int → Int → List Int → List Bool → Int → Option (Int × Int)
  | 0, _, _, _, _, _, _, _, _, _, _ => none
  | k + 1, x3, x4, x46, x47, x48, sJ, xh, IU, xk, xm => if x48 < x47 then (if 0 ≤ x48 then (if x48 < (x46.length : Int) then (if (rd x46 x48) = 0 then (iO.l0 k x3 x4 x46 x47 (wrap64 (x48 + 1)) sJ xh IU xk xm) else (if x48 = sJ then (iO.l0 k x3 x4 x46 x47 (wrap64 (x48 + 1)) sJ xh IU xk xm) else (if x48 = xh then (iO.l0 k x3 x4 x46 x47 (wrap64 (x48 + 1)) sJ xh IU xk xm) else (some (221, xm))))) else (none)) else (none)) else (if 0 ≤ sJ then (if sJ < (xk.length : Int) then (if fF false xk sJ = true then (if 0 ≤ xh then (if xh < (xk.length : Int) then (if fF false xk xh = true then (some (221, xm)) else (if sJ < (x3.length : Int) then (if (rd x3 sJ) = x4 then (some (0, x4)) else (some (221, xm))) else (none))) else (none)) else (none)) else (some (221, xm))) else (none)) else (none))
def iO.f (k : Nat) (ay : Int) (ae : List (S98)) (mJ : Int) (om : Int) (lQ : List Int) (tQ : List Bool) (a2 : Int) : Option (Int × Int) := (dM.f k ay ae).bind fun UJ => (if UJ = 0 then (if mJ ≥ 0 then (if mJ < ay then (if om ≥ 0 then (if om < ay then (if mJ = om then (some (120, a2)) else ((aY.f k ay ae lQ).bind fun AJ => (if AJ.1 = 0 then ((dO.f k ay ae tQ).bind fun IV => (if IV.1 = 0 then (iO.l0 k AJ.2 IV.2 AJ.2 (AJ.2.length : Int) 0 mJ om lQ tQ a2) else (some (IV.1, a2)))) else (some (AJ.1, a2))))) else (some (30, a2))) else (some (30, a2))) else (some (30, a2))) else (some (30, a2))) else (some (UJ, a2)))
set_option maxHeartbeats 8000000 in
set_option maxRecDepth 100000 in
theorem iO.calls (k : Nat) (ay : Int) (bX : Option Addr) (bN : Nat) (ae : List (S98)) (mJ : Int) (om : Int) (wI : Option Addr) (wJ : Nat) (lQ : List Int) (J4 : Option Addr) (IP : Nat) (tQ : List Bool) (a2 : Int) (r1 : Int) (r2 : Int) (w wc0 : World) (GA GD xn gbx : Nat) (dB : Kd.C k98 w bX ae.length ae) (dC : ae.length ≤ bN) (xc : Kd.C (Kd.int .i64) w wI lQ.length lQ) (xg : lQ.length ≤ wJ) (IQ : Kd.C Kd.bool w J4 tQ.length tQ) (IR : tQ.length ≤ IP) (hB : Below w.heap.size w wc0) (hb0_ : wc0.heap[GA]? = some (.cells #[.int .i64 ay, .slice bX ae.length bN] 24 (0, 0))) (hg0_ : w.heap.size ≤ GA) (hb1_ : wc0.heap[GD]? = some (.cells #[.int .i64 mJ, .int .i64 om, .slice wI lQ.length wJ, .slice J4 tQ.length IP] 28 (0, 0))) (hg1_ : w.heap.size ≤ GD) (hb2_ : wc0.heap[xn]? = some (.cells #[.int .i64 a2] 2 (0, 0))) (hg2_ : w.heap.size ≤ xn) (hb3_ : wc0.heap[gbx]? = some (.cells #[.int .i64 0] 30 (0, 0))) (hg3_ : w.heap.size ≤ gbx) (hn0_1_ : GA ≠ GD) (hn0_2_ : GA ≠ xn) (hn0_3_ : GA ≠ gbx) (hn1_2_ : GD ≠ xn) (hn1_3_ : GD ≠ gbx) (hn2_3_ : xn ≠ gbx) (h : iO.f k ay ae mJ om lQ tQ a2 = some (r1, r2)) :
    Calls Try.prog 49 #[.pointer (some ⟨GA, 0, none⟩), .pointer (some ⟨GD, 0, none⟩), .pointer (some ⟨xn, 0, none⟩)] wc0 fun e w' => oQ r1 (e = .returned (.tuple #[])) (e = gave r1) ∧ w'.heap[xn]? = some (.cells #[.int .i64 r2] 2 (0, 0)) ∧ w'.heap[gbx]? = some (.cells #[.int .i64 0] 30 (0, 0)) ∧ Below w.heap.size w w' := by
 have hu24 := Try.underlying24; have bU := ak dB; have eU := ak dC; clear dB dC; have EI := ak xc; have EJ := ak xg; clear xc xg; have AB := ak IQ; have Ta := ak IR; clear IQ IR; have HB := ak hB; clear hB; have iP := ak hb0_; have GW131 := ak hg0_; have GE131 := ak hg0_; have iT := ak hb1_; have GW132 := ak hg1_; have GE132 := ak hg1_; have iX := ak hb2_; have GW133 := ak hg2_; have GE133 := ak hg2_; have bC := ak hb3_; have SS := ak hg3_; have KD := ak hg3_; have nM := ak hn0_1_; have qm := ak hn0_1_.symm; have nN := ak hn0_2_; have Ny := ak hn0_2_.symm; have nO := ak hn0_3_; have abZ := ak hn0_3_.symm; have jM := ak hn1_2_; have ab0 := ak hn1_2_.symm; have jN := ak hn1_3_; have ab1 := ak hn1_3_.symm; have Nz := ak hn2_3_; have ab2 := ak hn2_3_.symm; clear hb0_ hg0_ hb1_ hg1_ hb2_ hg2_ hb3_ hg3_ hn0_1_ hn0_2_ hn0_3_ hn1_2_ hn1_3_ hn2_3_
 have H : ((dM.f k ay ae).bind fun UJ => (if UJ = 0 then (if mJ ≥ 0 then (if mJ < ay then (if om ≥ 0 then (if om < ay then (if mJ = om then (some (120, a2)) else ((aY.f k ay ae lQ).bind fun AJ => (if AJ.1 = 0 then ((dO.f k ay ae tQ).bind fun IV => (if IV.1 = 0 then (iO.l0 k AJ.2 IV.2 AJ.2 (AJ.2.length : Int) 0 mJ om lQ tQ a2) else (some (IV.1, a2)))) else (some (AJ.1, a2))))) else (some (30, a2))) else (some (30, a2))) else (some (30, a2))) else (some (30, a2))) else (some (UJ, a2)))) = some (r1, r2) := h; clear h; replace H := Option.bind_eq_some_iff.mp H; obtain ⟨UJ, A40, H⟩ := H
 by_cases c5 : UJ = 0
 rotate_left
 ·
  rw [if_neg c5] at H; have A4 := ak A40; clear A40
  simp only [Option.some.injEq, Prod.mk.injEq] at H
  obtain ⟨rfl, rfl⟩ := H; have ⟨_, _⟩ := nn nM; have ⟨_, _⟩ := nn nN; have ⟨_, _⟩ := nn nO; have ⟨_, _, _, _⟩ := cf2 iP
  go_enter Try.func49, Try.ntmps49
  go_wp2_with (first | ((with_reducible refine au (f := 50) rfl ?_); refine pl 8 Try.func50 #[.agg #[.int .i64 ay, .slice bX ae.length bN]] ?_; (with_reducible refine (dM.bad k ay _ _ ae UJ _ (Kd.cZ bU.out lb) eU.out A4.out c5).mono ?_); rintro e w153 ⟨rfl, hb⟩; refine ⟨_, rfl, ?_⟩; (repeat (first | refine fO ?_ | refine fu ?_)); exact fP rfl (⟨oQ.no c5 rfl, bI (bx iX.out) hb, bI (bx bC.out) hb, jw lb hb⟩)))

 subst c5
 replace H := ip H; have A4 := ak A40; clear A40
 by_cases c6 : mJ ≥ 0
 rotate_left
 ·
  rw [if_neg c6] at H; have c6b0 := decide_eq_false c6; clear c6
  simp only [Option.some.injEq, Prod.mk.injEq] at H
  obtain ⟨rfl, rfl⟩ := H; have ⟨_, _⟩ := nn nM; have ⟨_, _⟩ := nn nN; have ⟨_, _⟩ := nn nO; have ⟨_, _, _, _⟩ := cf2 iP
  go_enter Try.func49, Try.ntmps49
  go_wp2_with (first | ((with_reducible refine au (f := 50) rfl ?_); refine gl 8 Try.func50 #[.agg #[.int .i64 ay, .slice bX ae.length bN]] ?_; (with_reducible refine (dM.ok k ay _ _ ae  _ (Kd.cZ bU.out lb) eU.out A4.out).mono ?_); rintro e w145 ⟨rfl, hb⟩; refine ⟨_, rfl, ?_⟩; have n_ := a5 (bo iP hb) (bo iT hb) (bo iX hb) (bI (g := gbx) (o := .cells #[.int .i64 0] 30 (0, 0)) (bx bC.out) hb) (bl hb); clear iP iT iX bC HB; obtain ⟨iP, iT, iX, bC, HB⟩ := n_; clear hb; have ⟨_, _⟩ := nn jM; have ⟨_, _⟩ := nn jN; have ⟨_, _, _, _, _, _, _, _⟩ := cf4 iT) | ((with_reducible refine au (f := 51) rfl ?_); refine pl 31 Try.func51 #[.bool false, .int .i64 30] ?_; refine (aQ.bad 30 _).mono ?_; rintro e w' ⟨rfl, rfl⟩; refine ⟨_, rfl, ?_⟩; (repeat (first | refine fO ?_ | refine fu ?_)); exact fP rfl (⟨oQ.no da rfl, (bx iX.out), (bx bC.out), lb⟩)))
 rw [if_pos c6] at H; have c6b0 := decide_eq_true c6; clear c6
 by_cases c7 : mJ < ay
 rotate_left
 ·
  rw [if_neg c7] at H; have c7b0 := decide_eq_false c7; clear c7
  simp only [Option.some.injEq, Prod.mk.injEq] at H
  obtain ⟨rfl, rfl⟩ := H; have ⟨_, _⟩ := nn nM; have ⟨_, _⟩ := nn nN; have ⟨_, _⟩ := nn nO; have ⟨_, _, _, _⟩ := cf2 iP
  go_enter Try.func49, Try.ntmps49
  go_wp2_with (first | ((with_reducible refine au (f := 50) rfl ?_); refine gl 8 Try.func50 #[.agg #[.int .i64 ay, .slice bX ae.length bN]] ?_; (with_reducible refine (dM.ok k ay _ _ ae  _ (Kd.cZ bU.out lb) eU.out A4.out).mono ?_); rintro e w136 ⟨rfl, hb⟩; refine ⟨_, rfl, ?_⟩; have n_ := a5 (bo iP hb) (bo iT hb) (bo iX hb) (bI (g := gbx) (o := .cells #[.int .i64 0] 30 (0, 0)) (bx bC.out) hb) (bl hb); clear iP iT iX bC HB; obtain ⟨iP, iT, iX, bC, HB⟩ := n_; clear hb; have ⟨_, _⟩ := nn jM; have ⟨_, _⟩ := nn jN; have ⟨_, _, _, _, _, _, _, _⟩ := cf4 iT; have ⟨_, _, _, _⟩ := cf2 iP) | ((with_reducible refine au (f := 51) rfl ?_); refine pl 31 Try.func51 #[.bool false, .int .i64 30] ?_; refine (aQ.bad 30 _).mono ?_; rintro e w' ⟨rfl, rfl⟩; refine ⟨_, rfl, ?_⟩; (repeat (first | refine fO ?_ | refine fu ?_)); exact fP rfl (⟨oQ.no da rfl, (bx iX.out), (bx bC.out), lb⟩)))
 rw [if_pos c7] at H; have c7b0 := decide_eq_true c7; clear c7
 by_cases c8 : om ≥ 0
 rotate_left
 ·
  rw [if_neg c8] at H; have c8b0 := decide_eq_false c8; clear c8
  simp only [Option.some.injEq, Prod.mk.injEq] at H
  obtain ⟨rfl, rfl⟩ := H; have ⟨_, _⟩ := nn nM; have ⟨_, _⟩ := nn nN; have ⟨_, _⟩ := nn nO; have ⟨_, _, _, _⟩ := cf2 iP
  go_enter Try.func49, Try.ntmps49
  go_wp2_with (first | ((with_reducible refine au (f := 50) rfl ?_); refine gl 8 Try.func50 #[.agg #[.int .i64 ay, .slice bX ae.length bN]] ?_; (with_reducible refine (dM.ok k ay _ _ ae  _ (Kd.cZ bU.out lb) eU.out A4.out).mono ?_); rintro e w127 ⟨rfl, hb⟩; refine ⟨_, rfl, ?_⟩; have n_ := a5 (bo iP hb) (bo iT hb) (bo iX hb) (bI (g := gbx) (o := .cells #[.int .i64 0] 30 (0, 0)) (bx bC.out) hb) (bl hb); clear iP iT iX bC HB; obtain ⟨iP, iT, iX, bC, HB⟩ := n_; clear hb; have ⟨_, _⟩ := nn jM; have ⟨_, _⟩ := nn jN; have ⟨_, _, _, _, _, _, _, _⟩ := cf4 iT; have ⟨_, _, _, _⟩ := cf2 iP) | ((with_reducible refine au (f := 51) rfl ?_); refine pl 31 Try.func51 #[.bool false, .int .i64 30] ?_; refine (aQ.bad 30 _).mono ?_; rintro e w' ⟨rfl, rfl⟩; refine ⟨_, rfl, ?_⟩; (repeat (first | refine fO ?_ | refine fu ?_)); exact fP rfl (⟨oQ.no da rfl, (bx iX.out), (bx bC.out), lb⟩)))
 rw [if_pos c8] at H; have c8b0 := decide_eq_true c8; clear c8
 by_cases c9 : om < ay
 rotate_left
 ·
  rw [if_neg c9] at H; have c9b0 := decide_eq_false c9; clear c9
  simp only [Option.some.injEq, Prod.mk.injEq] at H
  obtain ⟨rfl, rfl⟩ := H; have ⟨_, _⟩ := nn nM; have ⟨_, _⟩ := nn nN; have ⟨_, _⟩ := nn nO; have ⟨_, _, _, _⟩ := cf2 iP
  go_enter Try.func49, Try.ntmps49
  go_wp2_with (first | ((with_reducible refine au (f := 50) rfl ?_); refine gl 8 Try.func50 #[.agg #[.int .i64 ay, .slice bX ae.length bN]] ?_; (with_reducible refine (dM.ok k ay _ _ ae  _ (Kd.cZ bU.out lb) eU.out A4.out).mono ?_); rintro e w118 ⟨rfl, hb⟩; refine ⟨_, rfl, ?_⟩; have n_ := a5 (bo iP hb) (bo iT hb) (bo iX hb) (bI (g := gbx) (o := .cells #[.int .i64 0] 30 (0, 0)) (bx bC.out) hb) (bl hb); clear iP iT iX bC HB; obtain ⟨iP, iT, iX, bC, HB⟩ := n_; clear hb; have ⟨_, _⟩ := nn jM; have ⟨_, _⟩ := nn jN; have ⟨_, _, _, _, _, _, _, _⟩ := cf4 iT; have ⟨_, _, _, _⟩ := cf2 iP) | ((with_reducible refine au (f := 51) rfl ?_); refine pl 31 Try.func51 #[.bool false, .int .i64 30] ?_; refine (aQ.bad 30 _).mono ?_; rintro e w' ⟨rfl, rfl⟩; refine ⟨_, rfl, ?_⟩; (repeat (first | refine fO ?_ | refine fu ?_)); exact fP rfl (⟨oQ.no da rfl, (bx iX.out), (bx bC.out), lb⟩)))
 rw [if_pos c9] at H; have c9b0 := decide_eq_true c9; clear c9; have A10 := ak (show aQ.f true 30 = some () from rfl)
 by_cases c11 : mJ = om
 ·
  rw [if_pos c11] at H; have c11b := be2 c11; clear c11
  simp only [Option.some.injEq, Prod.mk.injEq] at H
  obtain ⟨rfl, rfl⟩ := H; have ⟨_, _⟩ := nn nM; have ⟨_, _⟩ := nn nN; have ⟨_, _⟩ := nn nO; have ⟨_, _, _, _⟩ := cf2 iP
  go_enter Try.func49, Try.ntmps49
  go_wp2_with (first | ((with_reducible refine au (f := 50) rfl ?_); refine gl 8 Try.func50 #[.agg #[.int .i64 ay, .slice bX ae.length bN]] ?_; (with_reducible refine (dM.ok k ay _ _ ae  _ (Kd.cZ bU.out lb) eU.out A4.out).mono ?_); rintro e w16 ⟨rfl, hb⟩; refine ⟨_, rfl, ?_⟩; have n_ := a5 (bo iP hb) (bo iT hb) (bo iX hb) (bI (g := gbx) (o := .cells #[.int .i64 0] 30 (0, 0)) (bx bC.out) hb) (bl hb); clear iP iT iX bC HB; obtain ⟨iP, iT, iX, bC, HB⟩ := n_; clear hb; have ⟨_, _⟩ := nn jM; have ⟨_, _⟩ := nn jN; have ⟨_, _, _, _, _, _, _, _⟩ := cf4 iT; have ⟨_, _, _, _⟩ := cf2 iP) | ((with_reducible refine au (f := 51) rfl ?_); refine gl 31 Try.func51 #[.bool true, .int .i64 30] ?_; (with_reducible refine (aQ.calls true 30  _ A10.out).mono ?_); rintro e w' ⟨rfl, ⟨nd, rfl⟩⟩; refine ⟨_, rfl, ?_⟩) | ((with_reducible refine au (f := 51) rfl ?_); refine pl 37 Try.func51 #[.bool false, .int .i64 120] ?_; refine (aQ.bad 120 _).mono ?_; rintro e w' ⟨rfl, rfl⟩; refine ⟨_, rfl, ?_⟩; (repeat (first | refine fO ?_ | refine fu ?_)); exact fP rfl (⟨oQ.no da rfl, (bx iX.out), (bx bC.out), lb⟩)))
 rw [if_neg c11] at H; have c11b := bn2 c11; have A21 := ak (show aQ.f true 120 = some () from rfl); replace H := Option.bind_eq_some_iff.mp H; obtain ⟨⟨t135, AL⟩, A220, H⟩ := H; dsimp only at H
 by_cases c23 : t135 = 0
 rotate_left
 ·
  rw [if_neg c23] at H; have A22 := ak A220; clear A220
  simp only [Option.some.injEq, Prod.mk.injEq] at H
  obtain ⟨rfl, rfl⟩ := H; have ⟨_, _⟩ := nn nM; have ⟨_, _⟩ := nn nN; have ⟨_, _⟩ := nn nO; have ⟨_, _, _, _⟩ := cf2 iP
  go_enter Try.func49, Try.ntmps49
  go_wp2_with (first | ((with_reducible refine au (f := 50) rfl ?_); refine gl 8 Try.func50 #[.agg #[.int .i64 ay, .slice bX ae.length bN]] ?_; (with_reducible refine (dM.ok k ay _ _ ae  _ (Kd.cZ bU.out lb) eU.out A4.out).mono ?_); rintro e w108 ⟨rfl, hb⟩; refine ⟨_, rfl, ?_⟩; have n_ := a5 (bo iP hb) (bo iT hb) (bo iX hb) (bI (g := gbx) (o := .cells #[.int .i64 0] 30 (0, 0)) (bx bC.out) hb) (bl hb); clear iP iT iX bC HB; obtain ⟨iP, iT, iX, bC, HB⟩ := n_; clear hb; have ⟨_, _⟩ := nn jM; have ⟨_, _⟩ := nn jN; have ⟨_, _, _, _, _, _, _, _⟩ := cf4 iT; have ⟨_, _, _, _⟩ := cf2 iP) | ((with_reducible refine au (f := 51) rfl ?_); refine gl 31 Try.func51 #[.bool true, .int .i64 30] ?_; (with_reducible refine (aQ.calls true 30  _ A10.out).mono ?_); rintro e w' ⟨rfl, ⟨nd, rfl⟩⟩; refine ⟨_, rfl, ?_⟩) | ((with_reducible refine au (f := 51) rfl ?_); refine gl 37 Try.func51 #[.bool true, .int .i64 120] ?_; (with_reducible refine (aQ.calls true 120  _ A21.out).mono ?_); rintro e w' ⟨rfl, ⟨nd, rfl⟩⟩; refine ⟨_, rfl, ?_⟩) | ((with_reducible refine au (f := 52) rfl ?_); refine pl 41 Try.func52 #[.agg #[.int .i64 ay, .slice bX ae.length bN], .slice wI lQ.length wJ] ?_; (with_reducible refine (aY.bad k ay _ _ ae _ _ lQ t135 AL _ (Kd.cZ bU.out lb) eU.out (Kd.cZ EI.out lb) EJ.out A22.out c23).mono ?_); rintro e w113 ⟨rfl, hb⟩; refine ⟨_, rfl, ?_⟩; (repeat (first | refine fO ?_ | refine fu ?_)); exact fP rfl (⟨oQ.no c23 rfl, bI (bx iX.out) hb, bI (bx bC.out) hb, jw lb hb⟩)))
 subst c23
 replace H := ip H; have A22 := ak A220; clear A220; replace H := Option.bind_eq_some_iff.mp H; obtain ⟨⟨t139, Sc⟩, A240, H⟩ := H; dsimp only at H
 by_cases c25 : t139 = 0
 rotate_left
 ·
  rw [if_neg c25] at H; have A24 := ak A240; clear A240
  simp only [Option.some.injEq, Prod.mk.injEq] at H
  obtain ⟨rfl, rfl⟩ := H; have ⟨_, _⟩ := nn nM; have ⟨_, _⟩ := nn nN; have ⟨_, _⟩ := nn nO; have ⟨_, _, _, _⟩ := cf2 iP
  go_enter Try.func49, Try.ntmps49
  go_wp2_with (first | ((with_reducible refine au (f := 50) rfl ?_); refine gl 8 Try.func50 #[.agg #[.int .i64 ay, .slice bX ae.length bN]] ?_; (with_reducible refine (dM.ok k ay _ _ ae  _ (Kd.cZ bU.out lb) eU.out A4.out).mono ?_); rintro e w95 ⟨rfl, hb⟩; refine ⟨_, rfl, ?_⟩; have n_ := a5 (bo iP hb) (bo iT hb) (bo iX hb) (bI (g := gbx) (o := .cells #[.int .i64 0] 30 (0, 0)) (bx bC.out) hb) (bl hb); clear iP iT iX bC HB; obtain ⟨iP, iT, iX, bC, HB⟩ := n_; clear hb; have ⟨_, _⟩ := nn jM; have ⟨_, _⟩ := nn jN; have ⟨_, _, _, _, _, _, _, _⟩ := cf4 iT; have ⟨_, _, _, _⟩ := cf2 iP) | ((with_reducible refine au (f := 51) rfl ?_); refine gl 31 Try.func51 #[.bool true, .int .i64 30] ?_; (with_reducible refine (aQ.calls true 30  _ A10.out).mono ?_); rintro e w' ⟨rfl, ⟨nd, rfl⟩⟩; refine ⟨_, rfl, ?_⟩) | ((with_reducible refine au (f := 51) rfl ?_); refine gl 37 Try.func51 #[.bool true, .int .i64 120] ?_; (with_reducible refine (aQ.calls true 120  _ A21.out).mono ?_); rintro e w' ⟨rfl, ⟨nd, rfl⟩⟩; refine ⟨_, rfl, ?_⟩) | ((with_reducible refine au (f := 52) rfl ?_); refine gl 41 Try.func52 #[.agg #[.int .i64 ay, .slice bX ae.length bN], .slice wI lQ.length wJ] ?_; (with_reducible refine (aY.ok k ay _ _ ae _ _ lQ AL _ (Kd.cZ bU.out lb) eU.out (Kd.cZ EI.out lb) EJ.out A22.out).mono ?_); rintro e aah ⟨v137, rfl, ho0, hb⟩; refine ⟨_, rfl, ?_⟩; have n_ := a6 (Kd.bY (Kd.D8 ho0 (g := xn) (o := .cells #[.int .i64 a2] 2 (0, 0)) (bx iX.out)) (ax lb)) (bo iP hb) (bo iT hb) (bo iX hb) (bI (g := gbx) (o := .cells #[.int .i64 0] 30 (0, 0)) (bx bC.out) hb) (bl hb); clear iP iT iX bC HB; obtain ⟨IW, iP, iT, iX, bC, HB⟩ := n_; clear hb; (try clear ho0); have ⟨_, _, _, _⟩ := cf2 iP; have ⟨_, _, _, _, _, _, _, _⟩ := cf4 iT) | ((with_reducible refine au (f := 53) rfl ?_); refine pl 45 Try.func53 #[.agg #[.int .i64 ay, .slice bX ae.length bN], .slice J4 tQ.length IP] ?_; (with_reducible refine (dO.bad k ay _ _ ae _ _ tQ t139 Sc _ (Kd.cZ bU.out lb) eU.out (Kd.cZ AB.out lb) Ta.out A24.out c25).mono ?_); rintro e w103 ⟨rfl, hb⟩; refine ⟨_, rfl, ?_⟩; (repeat (first | refine fO ?_ | refine fu ?_)); exact fP rfl (⟨oQ.no c25 rfl, bI (bx iX.out) hb, bI (bx bC.out) hb, jw lb hb⟩)))
 subst c25
 replace H := ip H; have A24 := ak A240; clear A240; have H' := ak H; clear H; have ⟨_, _⟩ := nn nM; have ⟨_, _⟩ := nn nN; have ⟨_, _⟩ := nn nO; have ⟨_, _, _, _⟩ := cf2 iP
 go_enter Try.func49, Try.ntmps49
 go_wp2_with (first | ((with_reducible refine au (f := 50) rfl ?_); refine gl 8 Try.func50 #[.agg #[.int .i64 ay, .slice bX ae.length bN]] ?_; (with_reducible refine (dM.ok k ay _ _ ae  _ (Kd.cZ bU.out lb) eU.out A4.out).mono ?_); rintro e w30 ⟨rfl, hb⟩; refine ⟨_, rfl, ?_⟩; have n_ := a5 (bo iP hb) (bo iT hb) (bo iX hb) (bI (g := gbx) (o := .cells #[.int .i64 0] 30 (0, 0)) (bx bC.out) hb) (bl hb); clear iP iT iX bC HB; obtain ⟨iP, iT, iX, bC, HB⟩ := n_; clear hb; have ⟨_, _⟩ := nn jM; have ⟨_, _⟩ := nn jN; have ⟨_, _, _, _, _, _, _, _⟩ := cf4 iT; have ⟨_, _, _, _⟩ := cf2 iP) | ((with_reducible refine au (f := 51) rfl ?_); refine gl 31 Try.func51 #[.bool true, .int .i64 30] ?_; (with_reducible refine (aQ.calls true 30  _ A10.out).mono ?_); rintro e w' ⟨rfl, ⟨nd, rfl⟩⟩; refine ⟨_, rfl, ?_⟩) | ((with_reducible refine au (f := 51) rfl ?_); refine gl 37 Try.func51 #[.bool true, .int .i64 120] ?_; (with_reducible refine (aQ.calls true 120  _ A21.out).mono ?_); rintro e w' ⟨rfl, ⟨nd, rfl⟩⟩; refine ⟨_, rfl, ?_⟩) | ((with_reducible refine au (f := 52) rfl ?_); refine gl 41 Try.func52 #[.agg #[.int .i64 ay, .slice bX ae.length bN], .slice wI lQ.length wJ] ?_; (with_reducible refine (aY.ok k ay _ _ ae _ _ lQ AL _ (Kd.cZ bU.out lb) eU.out (Kd.cZ EI.out lb) EJ.out A22.out).mono ?_); rintro e w35 ⟨v137, rfl, ho0, hb⟩; refine ⟨_, rfl, ?_⟩; have n_ := a6 (Kd.bY (Kd.D8 ho0 (g := xn) (o := .cells #[.int .i64 a2] 2 (0, 0)) (bx iX.out)) (ax lb)) (bo iP hb) (bo iT hb) (bo iX hb) (bI (g := gbx) (o := .cells #[.int .i64 0] 30 (0, 0)) (bx bC.out) hb) (bl hb); clear iP iT iX bC HB; obtain ⟨IW, iP, iT, iX, bC, HB⟩ := n_; clear hb; (try clear ho0); have ⟨_, _, _, _⟩ := cf2 iP; have ⟨_, _, _, _, _, _, _, _⟩ := cf4 iT) | ((with_reducible refine au (f := 53) rfl ?_); refine gl 45 Try.func53 #[.agg #[.int .i64 ay, .slice bX ae.length bN], .slice J4 tQ.length IP] ?_; (with_reducible refine (dO.ok k ay _ _ ae _ _ tQ Sc _ (Kd.cZ bU.out lb) eU.out (Kd.cZ AB.out lb) Ta.out A24.out).mono ?_); rintro e w38 ⟨rfl, hb⟩; refine ⟨_, rfl, ?_⟩; have n_ := a6 (ro IW hb) (bo iP hb) (bo iT hb) (bo iX hb) (bI (g := gbx) (o := .cells #[.int .i64 0] 30 (0, 0)) (bx bC.out) hb) (bl hb); clear IW iP iT iX bC HB; obtain ⟨IW, iP, iT, iX, bC, HB⟩ := n_; clear hb; obtain ⟨Ao39, co39, eo39⟩ := Kd.bT IW.out; subst eo39))
 go_loopg [48] k (fun kq v48 w' => ∃ (yh : Int), v48 = .int .i64 yh ∧ ag (iO.l0 kq AL Sc AL (AL.length : Int) yh mJ om lQ tQ a2 = some (r1, r2)) ∧ ag (kq ≤ k) ∧ ag (Kd.R (Kd.int .i64) 2 w' w.heap.size (fun k_ => k_ ≠ xn) (.slice Ao39 AL.length co39) AL) ∧ ag (Kd.R (Kd.int .i64) 2 w' w.heap.size (fun k_ => k_ ≠ xn) (.slice Ao39 AL.length co39) AL) ∧ ag (w'.heap[GA]? = some (.cells #[.int .i64 ay, (.slice bX ae.length bN)] 24 (0, 0))) ∧ ag (w'.heap[GD]? = some (.cells #[.int .i64 mJ, .int .i64 om, (.slice wI lQ.length wJ), (.slice J4 tQ.length IP)] 28 (0, 0))) ∧ ag (w'.heap[xn]? = some (.cells #[.int .i64 a2] 2 (0, 0))) ∧ ag (w'.heap[gbx]? = some (.cells #[.int .i64 0] 30 (0, 0))) ∧ ag (Below w.heap.size w w'))
 case atStart => exact ⟨(0), sr, H', ⟨Nat.le_refl _⟩, ⟨by exact rx (Kd.cO IW.out (fun _ hk => hk.2))⟩, ⟨by exact rx (Kd.cO IW.out (fun _ hk => hk.2))⟩, xb iP, xb iT, xb iX, xb bC, ⟨lb⟩⟩
 clear H'; obtain ⟨yh, rfl, HA, HK1, gz, DL, iP, iT, iX, bC, HB⟩ := hrel
 cases gk with
 | zero => exact absurd HA.out (by simp [iO.l0])
 | succ k1 => ?_
 have H := HA.out; clear HA
 simp only [iO.l0] at H
 by_cases c40 : yh < (AL.length : Int)
 ·
  rw [if_pos c40] at H; have c40b0 := decide_eq_true c40; clear c40; replace H := if2 H; obtain ⟨c41b0, c42b0, H⟩ := H
  by_cases c43 : (rd AL yh) = 0
  ·
   rw [if_pos c43] at H; have c43b := be2 c43; clear c43; have A44 := ak (show aQ.f true 221 = some () from rfl); have H' := ak H; clear H; obtain ⟨p141, q141, Ww, Wx, IX⟩ := wq (Kd.bB (Kd.aA DL.out).2.2 yh); cases Wx
   go_wp2_with (first | ((with_reducible refine au (f := 51) rfl ?_); refine gl 67 Try.func51 #[.bool true, .int .i64 221] ?_; (with_reducible refine (aQ.calls true 221  _ A44.out).mono ?_); rintro e w' ⟨rfl, ⟨nd, rfl⟩⟩; refine ⟨_, rfl, ?_⟩))
   go_roundg k1
   case measure => have := HK1.out; omega
   case rel => exact ⟨(wrap64 (yh + 1)), sr, H', ⟨by have := HK1.out; omega⟩, ⟨rx gz.out⟩, ⟨rx DL.out⟩, xb iP, xb iT, xb iX, xb bC, ⟨lb⟩⟩
  rw [if_neg c43] at H; have c43b := bn2 c43
  by_cases c45 : yh = mJ
  ·
   rw [if_pos c45] at H; have c45b := be2 c45; clear c45; have A46 := ak (show aQ.f true 221 = some () from rfl); have H' := ak H; clear H; obtain ⟨p141, q141, Ww, Wx, IX⟩ := wq (Kd.bB (Kd.aA DL.out).2.2 yh); cases Wx; have ⟨_, _⟩ := nn qm; have ⟨_, _⟩ := nn jM; have ⟨_, _⟩ := nn jN; have ⟨_, _, _, _, _, _, _, _⟩ := cf4 iT
   go_wp2_with (first | ((with_reducible refine au (f := 51) rfl ?_); refine gl 67 Try.func51 #[.bool true, .int .i64 221] ?_; (with_reducible refine (aQ.calls true 221  _ A46.out).mono ?_); rintro e w' ⟨rfl, ⟨nd, rfl⟩⟩; refine ⟨_, rfl, ?_⟩))
   go_roundg k1
   case measure => have := HK1.out; omega
   case rel => exact ⟨(wrap64 (yh + 1)), sr, H', ⟨by have := HK1.out; omega⟩, ⟨rx gz.out⟩, ⟨rx DL.out⟩, xb iP, xb iT, xb iX, xb bC, ⟨lb⟩⟩
  rw [if_neg c45] at H; have c45b := bn2 c45
  by_cases c51 : yh = om
  rotate_left
  ·
   rw [if_neg c51] at H; have c51b := bn2 c51
   simp only [Option.some.injEq, Prod.mk.injEq] at H
   obtain ⟨rfl, rfl⟩ := H; obtain ⟨p141, q141, Ww, Wx, IX⟩ := wq (Kd.bB (Kd.aA DL.out).2.2 yh); cases Wx; have ⟨_, _⟩ := nn qm; have ⟨_, _⟩ := nn jM; have ⟨_, _⟩ := nn jN; have ⟨_, _, _, _, _, _, _, _⟩ := cf4 iT
   go_wp2_with (first | ((with_reducible refine au (f := 51) rfl ?_); refine pl 67 Try.func51 #[.bool false, .int .i64 221] ?_; refine (aQ.bad 221 _).mono ?_; rintro e w' ⟨rfl, rfl⟩; refine ⟨_, rfl, ?_⟩; (repeat (first | refine fO ?_ | refine fu ?_)); exact fP rfl (⟨oQ.no da rfl, (bx iX.out), (bx bC.out), lb⟩)))
  rw [if_pos c51] at H; have c51b := be2 c51; clear c51; have A52 := ak (show aQ.f true 221 = some () from rfl); have H' := ak H; clear H; obtain ⟨p141, q141, Ww, Wx, IX⟩ := wq (Kd.bB (Kd.aA DL.out).2.2 yh); cases Wx; have ⟨_, _⟩ := nn qm; have ⟨_, _⟩ := nn jM; have ⟨_, _⟩ := nn jN; have ⟨_, _, _, _, _, _, _, _⟩ := cf4 iT
  go_wp2_with (first | ((with_reducible refine au (f := 51) rfl ?_); refine gl 67 Try.func51 #[.bool true, .int .i64 221] ?_; (with_reducible refine (aQ.calls true 221  _ A52.out).mono ?_); rintro e w' ⟨rfl, ⟨nd, rfl⟩⟩; refine ⟨_, rfl, ?_⟩))
  go_roundg k1
  case measure => have := HK1.out; omega
  case rel => exact ⟨(wrap64 (yh + 1)), sr, H', ⟨by have := HK1.out; omega⟩, ⟨rx gz.out⟩, ⟨rx DL.out⟩, xb iP, xb iT, xb iX, xb bC, ⟨lb⟩⟩
 rw [if_neg c40] at H; have c40b0 := decide_eq_false c40; clear c40; replace H := if2 H; obtain ⟨c61b0, c62b0, H⟩ := H; obtain ⟨bq63, hbq63⟩ : ∃ b_ : Bool, b_ = (fF false tQ mJ) := ⟨_, rfl⟩; replace H : (if bq63 = true then (if 0 ≤ om then (if om < (tQ.length : Int) then (if fF false tQ om = true then (some (221, a2)) else (if mJ < (AL.length : Int) then (if (rd AL mJ) = Sc then (some (0, Sc)) else (some (221, a2))) else (none))) else (none)) else (none)) else (some (221, a2))) = some (r1, r2) := by rw [← hbq63] at H; exact H
 have Nbq63 := ak hbq63; clear hbq63
 by_cases c64 : bq63 = true
 rotate_left
 ·
  replace c64 := Bool.eq_false_iff.mpr c64; subst c64
  have H1 : (some (221, a2)) = some (r1, r2) := by rw [if_neg (show ¬ (false = true) by decide)] at H; exact H
  clear H; have H := H1; clear H1
  simp only [Option.some.injEq, Prod.mk.injEq] at H
  obtain ⟨rfl, rfl⟩ := H; have ⟨_, _⟩ := nn qm; have ⟨_, _⟩ := nn jM; have ⟨_, _⟩ := nn jN; have ⟨_, _, _, _, _, _, _, _⟩ := cf4 iT; obtain ⟨p142, q142, IY, Wy, lD⟩ := wq (Kd.gu AB.out mJ)
  (try rw [← Nbq63.out] at lD)
  cases Wy
  (try replace lD := hbc HB lD)
  go_wp2_with (first | ((with_reducible refine au (f := 51) rfl ?_); refine pl 93 Try.func51 #[.bool false, .int .i64 221] ?_; refine (aQ.bad 221 _).mono ?_; rintro e w' ⟨rfl, rfl⟩; refine ⟨_, rfl, ?_⟩; (repeat (first | refine fO ?_ | refine fu ?_)); exact fP rfl (⟨oQ.no da rfl, (bx iX.out), (bx bC.out), lb⟩)))
 subst c64
 replace H := ip H; replace H := if2 H; obtain ⟨c65b0, c66b0, H⟩ := H; obtain ⟨bq67, hbq67⟩ : ∃ b_ : Bool, b_ = (fF false tQ om) := ⟨_, rfl⟩; replace H : (if bq67 = true then (some (221, a2)) else (if mJ < (AL.length : Int) then (if (rd AL mJ) = Sc then (some (0, Sc)) else (some (221, a2))) else (none))) = some (r1, r2) := by rw [← hbq67] at H; exact H
 have Nbq67 := ak hbq67; clear hbq67
 by_cases c68 : bq67 = true
 ·
  subst c68
  replace H := ip H
  simp only [Option.some.injEq, Prod.mk.injEq] at H
  obtain ⟨rfl, rfl⟩ := H; have ⟨_, _⟩ := nn qm; have ⟨_, _⟩ := nn jM; have ⟨_, _⟩ := nn jN; have ⟨_, _, _, _, _, _, _, _⟩ := cf4 iT; obtain ⟨p142, q142, IY, Wy, lD⟩ := wq (Kd.gu AB.out mJ)
  (try rw [← Nbq63.out] at lD)
  (try rw [← Nbq67.out] at lD)
  cases Wy
  (try replace lD := hbc HB lD); obtain ⟨p143, q143, NA, e143, nP⟩ := wq (Kd.gu AB.out om)
  (try rw [← Nbq63.out] at nP)
  (try rw [← Nbq67.out] at nP)
  obtain rfl : IY = NA := (by injection e143)
  (try replace nP := hbc HB nP)
  go_wp2_with (first | ((with_reducible refine au (f := 51) rfl ?_); refine pl 93 Try.func51 #[.bool false, .int .i64 221] ?_; refine (aQ.bad 221 _).mono ?_; rintro e w' ⟨rfl, rfl⟩; refine ⟨_, rfl, ?_⟩; (repeat (first | refine fO ?_ | refine fu ?_)); exact fP rfl (⟨oQ.no da rfl, (bx iX.out), (bx bC.out), lb⟩)))
 replace c68 := Bool.eq_false_iff.mpr c68; subst c68
 have H1 : (if mJ < (AL.length : Int) then (if (rd AL mJ) = Sc then (some (0, Sc)) else (some (221, a2))) else (none)) = some (r1, r2) := by rw [if_neg (show ¬ (false = true) by decide)] at H; exact H
 clear H; have H := H1; clear H1; replace H := ifd H; obtain ⟨c73b0, H⟩ := H
 by_cases c74 : (rd AL mJ) = Sc
 rotate_left
 ·
  rw [if_neg c74] at H; have c74b := bn2 c74
  simp only [Option.some.injEq, Prod.mk.injEq] at H
  obtain ⟨rfl, rfl⟩ := H; have ⟨_, _⟩ := nn qm; have ⟨_, _⟩ := nn jM; have ⟨_, _⟩ := nn jN; have ⟨_, _, _, _, _, _, _, _⟩ := cf4 iT; obtain ⟨p142, q142, IY, Wy, lD⟩ := wq (Kd.gu AB.out mJ)
  (try rw [← Nbq63.out] at lD)
  (try rw [← Nbq67.out] at lD)
  cases Wy
  (try replace lD := hbc HB lD); obtain ⟨p143, q143, NA, e143, nP⟩ := wq (Kd.gu AB.out om)
  (try rw [← Nbq63.out] at nP)
  (try rw [← Nbq67.out] at nP)
  obtain rfl : IY = NA := (by injection e143)
  (try replace nP := hbc HB nP); obtain ⟨p144, q144, Wz, e144, WA⟩ := wq (Kd.bB (Kd.aA gz.out).2.2 mJ); cases e144
  go_wp2_with (first | ((with_reducible refine au (f := 51) rfl ?_); refine pl 93 Try.func51 #[.bool false, .int .i64 221] ?_; refine (aQ.bad 221 _).mono ?_; rintro e w' ⟨rfl, rfl⟩; refine ⟨_, rfl, ?_⟩; (repeat (first | refine fO ?_ | refine fu ?_)); exact fP rfl (⟨oQ.no da rfl, (bx iX.out), (bx bC.out), lb⟩)))
 rw [if_pos c74] at H; have c74b := be2 c74; clear c74; have A75 := ak (show aQ.f true 221 = some () from rfl)
 simp only [Option.some.injEq, Prod.mk.injEq] at H
 obtain ⟨rfl, rfl⟩ := H; have ⟨_, _⟩ := nn qm; have ⟨_, _⟩ := nn jM; have ⟨_, _⟩ := nn jN; have ⟨_, _, _, _, _, _, _, _⟩ := cf4 iT; obtain ⟨p142, q142, IY, Wy, lD⟩ := wq (Kd.gu AB.out mJ)
 (try rw [← Nbq63.out] at lD)
 (try rw [← Nbq67.out] at lD)
 cases Wy
 (try replace lD := hbc HB lD); obtain ⟨p143, q143, NA, e143, nP⟩ := wq (Kd.gu AB.out om)
 (try rw [← Nbq63.out] at nP)
 (try rw [← Nbq67.out] at nP)
 obtain rfl : IY = NA := (by injection e143)
 (try replace nP := hbc HB nP); obtain ⟨p144, q144, Wz, e144, WA⟩ := wq (Kd.bB (Kd.aA gz.out).2.2 mJ); cases e144
 go_wp2_with (first | ((with_reducible refine au (f := 51) rfl ?_); refine gl 93 Try.func51 #[.bool true, .int .i64 221] ?_; (with_reducible refine (aQ.calls true 221  _ A75.out).mono ?_); rintro e w' ⟨rfl, ⟨nd, rfl⟩⟩; refine ⟨_, rfl, ?_⟩; (try (rw [nu wr]; generalize hq_ : World.drewN wr _ = wr; have n0_ : ag (Kd.R (Kd.int .i64) 2 wr w.heap.size (fun k_ => k_ ≠ xn) (.slice (some Wz) AL.length co39) AL) := ⟨by rw [← hq_]; exact (rx gz.out)⟩; have n1_ : ag (Kd.R (Kd.int .i64) 2 wr w.heap.size (fun k_ => k_ ≠ xn) (.slice (some Wz) AL.length co39) AL) := ⟨by rw [← hq_]; exact (rx DL.out)⟩; have n2_ : ag (wr.heap[GA]? = some (.cells #[.int .i64 ay, .slice bX ae.length bN] 24 (0, 0))) := ⟨by rw [← hq_]; exact (bx iP.out)⟩; have n3_ : ag (wr.heap[GD]? = some (.cells #[.int .i64 mJ, .int .i64 om, .slice wI lQ.length wJ, .slice (some IY) tQ.length IP] 28 (0, 0))) := ⟨by rw [← hq_]; exact (bx iT.out)⟩; have n4_ : ag (wr.heap[xn]? = some (.cells #[.int .i64 a2] 2 (0, 0))) := ⟨by rw [← hq_]; exact (bx iX.out)⟩; have n5_ : ag (wr.heap[gbx]? = some (.cells #[.int .i64 0] 30 (0, 0))) := ⟨by rw [← hq_]; exact (bx bC.out)⟩; have n6_ : ag (Below w.heap.size w wr) := ⟨by rw [← hq_]; exact lb⟩; clear gz DL iP iT iX bC HB hq_; have gz := n0_; have DL := n1_; have iP := n2_; have iT := n3_; have iX := n4_; have bC := n5_; have HB := n6_; clear n0_ n1_ n2_ n3_ n4_ n5_ n6_)); have ⟨_, _⟩ := nn Ny; have ⟨_, _⟩ := nn Nz; have ⟨_, _⟩ := cf1 iX))
 first | go_end0 | ((try simp only [Exit.inBlock, Exit.then]); refine bodyPost_ret (results_none rfl _ _ _) rfl ?_)
 exact ⟨oQ.ok (by first | rfl | (simp <;> rfl)), bz, bz, lb⟩
end Go.Proofs.Ytkdoihcjhccliaa.Q
