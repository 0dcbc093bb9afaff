import Derived.Test.YtkdoihcjhccliaaV
import Derived.Test.YtkdoihcjhccliaaQ0
import Derived.Test.YtkdoihcjhccliaaQ3
import Derived.Test.YtkdoihcjhccliaaQ79
namespace Go.Proofs.Ytkdoihcjhccliaa.Q
open Go.RowKit Go.Proofs.YtkdoihcjhccliaaW.PrintWords Go.Proofs.YtkdoihcjhccliaaW.PrintLast Go.Proofs.YtkdoihcjhccliaaW.PrintMore
attribute [local go_sem] dF dG eG eH cz cB dH dI   -- for this text's walks alone
set_option linter.unusedVariables false
set_option linter.unusedSimpArgs false

/-! ### fT: function 75 -/
def fT.f (k : Nat) (ay : Int) (ae : List (S98)) (a1 : Int) (a2 : Int) : Option (Bool) := (aN.f k ay ae a1).bind fun HV => (if 0 ≤ a2 then (if a2 < (HV.1.length : Int) then (some (decide ((rd HV.1 a2) ≥ 0))) else (none)) else (none))
set_option maxHeartbeats 8000000 in
set_option maxRecDepth 100000 in
theorem fT.calls (k : Nat) (ay : Int) (bX : Option Addr) (bN : Nat) (ae : List (S98)) (a1 : Int) (a2 : Int) (r : Bool) (w : World) (dB : Kd.C k98 w bX ae.length ae) (dC : ae.length ≤ bN) (h : fT.f k ay ae a1 a2 = some r) :
    Calls Try.prog 75 #[.agg #[.int .i64 ay, .slice bX ae.length bN], .int .i64 a1, .int .i64 a2] w fun e w' => e = .returned (.bool r) ∧ Below w.heap.size w w' := by
 have hu24 := Try.underlying24; have bU := ak dB; have eU := ak dC; clear dB dC; have HB := ak (Below.refl w.heap.size w); have H : ((aN.f k ay ae a1).bind fun HV => (if 0 ≤ a2 then (if a2 < (HV.1.length : Int) then (some (decide ((rd HV.1 a2) ≥ 0))) else (none)) else (none))) = some r := h; clear h; replace H := Option.bind_eq_some_iff.mp H; obtain ⟨⟨t735, t738⟩, A40, H⟩ := H; dsimp only at H; have A4 := ak A40; clear A40; replace H := if2 H; obtain ⟨c5b0, c6b0, H⟩ := H; obtain rfl := Option.some.inj H
 go_enter Try.func75, Try.ntmps75
 go_wp2_with (first | ((with_reducible refine aC (N := 3) rfl ?_); refine bxe 3 #[.int .i64 ay, .slice bX ae.length bN] 24 ?_; intro gb734 hg w7 hbox hb; have n_ := a4 (bl hb) hbox (gw w hg) (gw w hg); clear HB; obtain ⟨HB, TH, GW734, GE734⟩ := n_; clear hb hbox hg; have ⟨_, _, _, _⟩ := cf2 TH) | ((with_reducible refine au (f := 91) rfl ?_); refine gl 12 Try.func91 #[.agg #[.int .i64 ay, .slice bX ae.length bN], .int .i64 a1] ?_; (with_reducible refine (aN.calls k ay _ _ ae a1 t735 t738 _ (Kd.cZ bU.out lb) eU.out A4.out).mono ?_); rintro e w9 ⟨v736, rfl, ho0, hb⟩; refine ⟨_, rfl, ?_⟩; have n_ := a3 (Kd.bY ho0 (ax lb)) (bo TH hb) (bl hb); clear TH HB; obtain ⟨aeo, TH, HB⟩ := n_; clear hb; (try clear ho0); obtain ⟨Ao10, co10, eo10⟩ := Kd.bT aeo.out; subst eo10; obtain ⟨p739, q739, ad739, e739, hx739_0⟩ := wq (Kd.bB (Kd.aA aeo.out).2.2 a2); cases e739))
 go_ret
 exact ⟨er, lb⟩
end Go.Proofs.Ytkdoihcjhccliaa.Q
