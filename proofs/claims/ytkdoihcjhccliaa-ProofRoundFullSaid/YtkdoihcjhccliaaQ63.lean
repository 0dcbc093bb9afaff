import Derived.Test.YtkdoihcjhccliaaV
import Derived.Test.YtkdoihcjhccliaaQ0
import Derived.Test.YtkdoihcjhccliaaQ3
namespace Go.Proofs.Ytkdoihcjhccliaa.Q
open Go.RowKit Go.Proofs.YtkdoihcjhccliaaW.PrintWords Go.Proofs.YtkdoihcjhccliaaW.PrintLast Go.Proofs.YtkdoihcjhccliaaW.PrintMore
attribute [local go_sem] dF dG eG eH cz cB dH dI   -- for this text's walks alone
set_option linter.unusedVariables false
set_option linter.unusedSimpArgs false

/-! ### bS: function 59 -/
def bS.l0 : Nat → List Int → Int → Int → Int → List (S98) → Option (Int)
  | 0, _, _, _, _, _ => none
  | k + 1, x1, x5, x6, P7, Cy => if x6 < (x1.length : Int) then (if 0 ≤ x6 then (if 0 ≤ (rd x1 x6) then (if (rd x1 x6) < (Cy.length : Int) then (if ((aa Cy (rd x1 x6)).f2) < x5 then (bS.l0 k x1 ((aa Cy (rd x1 x6)).f2) (wrap64 (x6 + 1)) P7 Cy) else (bS.l0 k x1 x5 (wrap64 (x6 + 1)) P7 Cy)) else (none)) else (none)) else (none)) else (some x5)
def bS.f (k : Nat) (ay : Int) (ae : List (S98)) (l1 : List Int) : Option (Int) := if 0 < (l1.length : Int) then (if 0 ≤ (rd l1 0) then (if (rd l1 0) < (ae.length : Int) then (bS.l0 k l1 ((aa ae (rd l1 0)).f2) 1 ay ae) else (none)) else (none)) else (none)
set_option maxHeartbeats 8000000 in
set_option maxRecDepth 100000 in
theorem bS.calls (k : Nat) (ay : Int) (bX : Option Addr) (bN : Nat) (ae : List (S98)) (A1 : Option Addr) (c1 : Nat) (l1 : List Int) (r : Int) (w : World) (dB : Kd.C k98 w bX ae.length ae) (dC : ae.length ≤ bN) (hr1 : Kd.C (Kd.int .i64) w A1 l1.length l1) (hc1 : l1.length ≤ c1) (h : bS.f k ay ae l1 = some r) :
    Calls Try.prog 59 #[.agg #[.int .i64 ay, .slice bX ae.length bN], .slice A1 l1.length c1] w fun e w' => e = .returned (.int .i64 r) ∧ Below w.heap.size w w' := by
 have hu24 := Try.underlying24; have bU := ak dB; have eU := ak dC; clear dB dC; have HR1 := ak hr1; have HC1 := ak hc1; clear hr1 hc1; have HB := ak (Below.refl w.heap.size w); have H : (if 0 < (l1.length : Int) then (if 0 ≤ (rd l1 0) then (if (rd l1 0) < (ae.length : Int) then (bS.l0 k l1 ((aa ae (rd l1 0)).f2) 1 ay ae) else (none)) else (none)) else (none)) = some r := h; clear h; replace H := ifn H; obtain ⟨c3, H⟩ := H; have c3b0 := decide_eq_true c3
 have c3b1 : decide (0 < l1.length) = true := decide_eq_true (by omega)
 clear c3; replace H := if2 H; obtain ⟨c4b0, c5b0, H⟩ := H; have H' := ak H; clear H
 go_enter Try.func59, Try.ntmps59
 go_wp2_with (first | ((with_reducible refine aC (N := 2) rfl ?_); refine bxe 2 #[.int .i64 ay, .slice bX ae.length bN] 24 ?_; intro Yo hg w6 hbox hb; have n_ := a4 (bl hb) hbox (gw w hg) (gw w hg); clear HB; obtain ⟨HB, Cz, adl, adm⟩ := n_; clear hb hbox hg; have ⟨_, _, _, _⟩ := cf2 Cz; have P8 : 0 ≤ (0 : Int) := (by omega); have P9 : 0 < (l1.length : Int) := oda; obtain ⟨Qa, adn, nW⟩ := Kd.bB HR1.out 0 P8 P9; cases adn; have ado : (0 < l1.length) = True := eq_true (by omega); (try rw [show ((0 : Int)).toNat = 0 from rfl] at nW); (try rw [Addr.add_zero'] at nW); replace nW := hbc HB nW; replace P8 := eq_true P8; replace P9 := eq_true P9; obtain ⟨p367, q367, KW, adp, vE, vF, vG, vH⟩ := wq (dU bU.out (rd l1 0)); cases adp; replace vE := hbc HB vE; replace vF := hbc HB vF; replace vG := hbc HB vG; replace vH := hbc HB vH))
 repeat (go_quiet (first | ((with_reducible refine aC (N := 2) rfl ?_); refine bxe 2 #[.int .i64 ay, .slice bX ae.length bN] 24 ?_; intro Yo hg w6 hbox hb; have n_ := a4 (bl hb) hbox (gw w hg) (gw w hg); clear HB; obtain ⟨HB, Cz, adl, adm⟩ := n_; clear hb hbox hg; have ⟨_, _, _, _⟩ := cf2 Cz; have P8 : 0 ≤ (0 : Int) := (by omega); have P9 : 0 < (l1.length : Int) := oda; obtain ⟨Qa, adn, nW⟩ := Kd.bB HR1.out 0 P8 P9; cases adn; have ado : (0 < l1.length) = True := eq_true (by omega); (try rw [show ((0 : Int)).toNat = 0 from rfl] at nW); (try rw [Addr.add_zero'] at nW); replace nW := hbc HB nW; replace P8 := eq_true P8; replace P9 := eq_true P9; obtain ⟨p367, q367, KW, adp, vE, vF, vG, vH⟩ := wq (dU bU.out (rd l1 0)); cases adp; replace vE := hbc HB vE; replace vF := hbc HB vF; replace vG := hbc HB vG; replace vH := hbc HB vH)); try go_wp2_with (first | ((with_reducible refine aC (N := 2) rfl ?_); refine bxe 2 #[.int .i64 ay, .slice bX ae.length bN] 24 ?_; intro Yo hg w6 hbox hb; have n_ := a4 (bl hb) hbox (gw w hg) (gw w hg); clear HB; obtain ⟨HB, Cz, adl, adm⟩ := n_; clear hb hbox hg; have ⟨_, _, _, _⟩ := cf2 Cz; have P8 : 0 ≤ (0 : Int) := (by omega); have P9 : 0 < (l1.length : Int) := oda; obtain ⟨Qa, adn, nW⟩ := Kd.bB HR1.out 0 P8 P9; cases adn; have ado : (0 < l1.length) = True := eq_true (by omega); (try rw [show ((0 : Int)).toNat = 0 from rfl] at nW); (try rw [Addr.add_zero'] at nW); replace nW := hbc HB nW; replace P8 := eq_true P8; replace P9 := eq_true P9; obtain ⟨p367, q367, KW, adp, vE, vF, vG, vH⟩ := wq (dU bU.out (rd l1 0)); cases adp; replace vE := hbc HB vE; replace vF := hbc HB vF; replace vG := hbc HB vG; replace vH := hbc HB vH)))
 go_loopg [5, 6] k (fun kq v5 v6 w' => ∃ (bV : Int) (eD : Int), v5 = .int .i64 bV ∧ v6 = .int .i64 eD ∧ ag (bS.l0 kq l1 bV eD ay ae = some r) ∧ ag (kq ≤ k) ∧ ag (w'.heap[Yo]? = some (.cells #[.int .i64 ay, (.slice (some KW) ae.length bN)] 24 (0, 0))) ∧ ag (Below w.heap.size w w'))
 case atStart => exact ⟨((aa ae (rd l1 0)).f2), (1), sr, sr, H', ⟨Nat.le_refl _⟩, xb Cz, ⟨lb⟩⟩
 clear H'; obtain ⟨bV, eD, rfl, rfl, HA, HK1, Cz, HB⟩ := hrel
 cases gk with
 | zero => exact absurd HA.out (by simp [bS.l0])
 | succ k1 => ?_
 have H := HA.out; clear HA
 simp only [bS.l0] at H
 by_cases c8 : eD < (l1.length : Int)
 rotate_left
 ·
  rw [if_neg c8] at H; have c8b0 := decide_eq_false c8; clear c8; obtain rfl := Option.some.inj H
  go_wp2
  repeat (go_quiet (fail); try go_wp2)
  go_ret
  exact ⟨er, lb⟩
 rw [if_pos c8] at H; have c8b0 := decide_eq_true c8; clear c8; replace H := if3 H; obtain ⟨c9b0, c10b0, c11b0, H⟩ := H
 by_cases c12 : ((aa ae (rd l1 eD)).f2) < bV
 rotate_left
 ·
  rw [if_neg c12] at H; have c12b0 := decide_eq_false c12; clear c12; have H' := ak H; clear H; have ⟨_, _, _, _⟩ := cf2 Cz; obtain ⟨p368, q368, Yp, e368, CB⟩ := wq (Kd.bB HR1.out eD)
  obtain rfl : Qa = Yp := (by injection e368)
  (try replace CB := hbc HB CB); obtain ⟨p369, q369, Yq, e369, CE, CF, CG, CJ⟩ := wq (dU bU.out (rd l1 eD))
  obtain rfl : KW = Yq := (by injection e369)
  (try replace CE := hbc HB CE)
  (try replace CF := hbc HB CF)
  (try replace CG := hbc HB CG)
  (try replace CJ := hbc HB CJ)
  go_wp2
  repeat (go_quiet (fail); try go_wp2)
  go_roundg k1
  case measure => have := HK1.out; omega
  case rel => exact ⟨(bV), (wrap64 (eD + 1)), sr, sr, H', ⟨by have := HK1.out; omega⟩, xb Cz, ⟨lb⟩⟩
 rw [if_pos c12] at H; have c12b0 := decide_eq_true c12; clear c12; have H' := ak H; clear H; have ⟨_, _, _, _⟩ := cf2 Cz; obtain ⟨p368, q368, Yp, e368, CB⟩ := wq (Kd.bB HR1.out eD)
 obtain rfl : Qa = Yp := (by injection e368)
 (try replace CB := hbc HB CB); obtain ⟨p369, q369, Yq, e369, CE, CF, CG, CJ⟩ := wq (dU bU.out (rd l1 eD))
 obtain rfl : KW = Yq := (by injection e369)
 (try replace CE := hbc HB CE)
 (try replace CF := hbc HB CF)
 (try replace CG := hbc HB CG)
 (try replace CJ := hbc HB CJ); obtain ⟨p370, q370, ad370, e370, Qb⟩ := wq (Kd.bB HR1.out eD)
 obtain rfl : Qa = ad370 := (by injection e370)
 (try replace Qb := hbc HB Qb); obtain ⟨p371, q371, ad371, e371, Qc, Qd, Qe, Qf⟩ := wq (dU bU.out (rd l1 eD))
 obtain rfl : KW = ad371 := (by injection e371)
 (try replace Qc := hbc HB Qc)
 (try replace Qd := hbc HB Qd)
 (try replace Qe := hbc HB Qe)
 (try replace Qf := hbc HB Qf)
 go_wp2
 repeat (go_quiet (fail); try go_wp2)
 go_roundg k1
 case measure => have := HK1.out; omega
 case rel => exact ⟨((aa ae (rd l1 eD)).f2), (wrap64 (eD + 1)), sr, sr, H', ⟨by have := HK1.out; omega⟩, xb Cz, ⟨lb⟩⟩
end Go.Proofs.Ytkdoihcjhccliaa.Q
