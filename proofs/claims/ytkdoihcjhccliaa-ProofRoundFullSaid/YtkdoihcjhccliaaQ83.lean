import Derived.Test.YtkdoihcjhccliaaV
import Derived.Test.YtkdoihcjhccliaaK
import Derived.Test.YtkdoihcjhccliaaQ0
import Derived.Test.YtkdoihcjhccliaaQ3
import Derived.Test.YtkdoihcjhccliaaQ16
import Derived.Test.YtkdoihcjhccliaaQ19
import Derived.Test.YtkdoihcjhccliaaQ45
import Derived.Test.YtkdoihcjhccliaaQ47
import Derived.Test.YtkdoihcjhccliaaQ82
namespace Go.Proofs.Ytkdoihcjhccliaa.Q
open Go.RowKit Go.Proofs.YtkdoihcjhccliaaW.PrintWords Go.Proofs.YtkdoihcjhccliaaW.PrintLast Go.Proofs.YtkdoihcjhccliaaW.PrintMore
attribute [local go_sem] dF dG eG eH cz cB dH dI   -- for this text's walks alone
set_option linter.unusedVariables false
set_option linter.unusedSimpArgs false

/-! ### aX: function 11 -/
def aX.j0 : Nat → Bool → Int → List (S98) → Option (Bool)
  | 0, _, _, _ => none
  | k + 1, x24, El, Em => if x24 = true then (some true) else ((af.f k El Em).bind fun nC => (if nC.2.2.2 = true then ((dA.f k El Em nC.1 nC.2.1).bind fun uk => (if uk.2 = 0 then ((cK.f k El Em nC.1).bind fun Io => (some (uk.1 == Io))) else (some false))) else ((jy.f k El Em nC.2.2.1).bind fun Ip => (some (Ip == 0)))))
def aX.f (k : Nat) (ay : Int) (ae : List (S98)) : Option (Bool) := (iM.f k).bind fun Vh => (if Vh = true then (if ay > 64 then (aX.j0 k true ay ae) else (if (ae.length : Int) > 256 then (aX.j0 k true ay ae) else ((aT.f k ay ae).bind fun Ij => (aX.j0 k (Ij != 0) ay ae)))) else (some false))
set_option maxHeartbeats 8000000 in
set_option maxRecDepth 100000 in
theorem aX.calls (k : Nat) (ay : Int) (bX : Option Addr) (bN : Nat) (ae : List (S98)) (r : Bool) (w : World) (dB : Kd.C k98 w bX ae.length ae) (dC : ae.length ≤ bN) (hr_ : r = true) (h : aX.f k ay ae = some r) :
    Calls Try.prog 11 #[.agg #[.int .i64 ay, .slice bX ae.length bN]] w fun e w' => e = .returned (.bool r) ∧ Below w.heap.size w w' := by
 have hu24 := Try.underlying24; have hu51 := Try.underlying51; have bU := ak dB; have eU := ak dC; clear dB dC; have HB := ak (Below.refl w.heap.size w); have HR_ := ak hr_; clear hr_; have H : ((iM.f k).bind fun Vh => (if Vh = true then (if ay > 64 then (aX.j0 k true ay ae) else (if (ae.length : Int) > 256 then (aX.j0 k true ay ae) else ((aT.f k ay ae).bind fun Ij => (aX.j0 k (Ij != 0) ay ae)))) else (some false))) = some r := h; clear h; replace H := Option.bind_eq_some_iff.mp H; obtain ⟨Vh, A20, H⟩ := H; have A2 := ak A20; clear A20
 by_cases c3 : Vh = true
 rotate_left
 ·
  replace c3 := Bool.eq_false_iff.mpr c3; subst c3
  have H1 : (some false) = some r := by rw [if_neg (show ¬ (false = true) by decide)] at H; exact H
  clear H; have H := H1; clear H1
  exact absurd ((Option.some.inj H).trans HR_.out) (by decide)
 subst c3
 replace H := ip H; have HC4 := ak H; clear H
 go_enter Try.func11, Try.ntmps11
 go_upto_region 3 with (first | ((with_reducible refine aC (N := 1) rfl ?_); (try (refine oC (by rfl) ?_; dsimp only)); refine bxe 1 #[.int .i64 ay, .slice bX ae.length bN] 24 ?_; intro Lv hg w5 hbox hb; have n_ := a4 (bl hb) hbox (gw w hg) (gw w hg); clear HB; obtain ⟨HB, lH, GW791, GE791⟩ := n_; clear hb hbox hg) | ((with_reducible refine au (f := 15) rfl ?_); refine gl 9 Try.func15 #[] ?_; (with_reducible refine (iM.calls k true _ rfl A2.out).mono ?_); rintro e w6 ⟨rfl, hb⟩; refine ⟨_, rfl, ?_⟩; have n_ := a2 (bo lH hb) (bl hb); clear lH HB; obtain ⟨lH, HB⟩ := n_; clear hb))
 (try simp only [Act.put, sA, sZ, sS])
 go_cut [24] (fun v24 wc => ∃ (kq : Nat) (Sr : Bool), v24 = .bool Sr ∧ ag (aX.j0 kq Sr ay ae = some r) ∧ ag (kq ≤ k) ∧ ag (wc.heap[Lv]? = some (.cells #[.int .i64 ay, (.slice bX ae.length bN)] 24 (0, 0))) ∧ ag (Below w.heap.size w wc))
 case first =>
  have H := HC4.out; clear HC4
  by_cases c7 : ay > 64
  ·
   rw [if_pos c7] at H; have c7b0 := decide_eq_true c7; clear c7
   (first | rw [c7b0] | (simp only [jA, jG]; rw [c7b0]) | skip)
   have H' := ak H; clear H; have ⟨_, _, _, _⟩ := cf2 lH
   go_wp2
   go_meet
   case rel => exact ⟨_, (true), sr, H', ⟨by first | omega | exact Nat.le_refl _⟩, xb lH, ⟨lb⟩⟩
  rw [if_neg c7] at H; have c7b0 := decide_eq_false c7; clear c7
  (first | rw [c7b0] | (simp only [jA, jG]; rw [c7b0]) | skip)
  by_cases c9 : (ae.length : Int) > 256
  rotate_left
  ·
   rw [if_neg c9] at H; have c9b0 := decide_eq_false c9
   have c9b1 : decide (256 < ae.length) = false := decide_eq_false (by omega)
   clear c9; replace H := Option.bind_eq_some_iff.mp H; obtain ⟨Ij, aaq, H⟩ := H; have A11 := ak aaq; clear aaq; have H' := ak H; clear H; have ⟨_, _, _, _⟩ := cf2 lH
   go_wp2_with (first | (go_at_call 35; (with_reducible refine (aT.calls k ay _ _ ae Ij _ (Kd.cZ bU.out lb) eU.out A11.out).mono ?_); rintro e w13 ⟨rfl, hb⟩; have n_ := a2 (bo lH hb) (bl hb); clear lH HB; obtain ⟨lH, HB⟩ := n_; clear hb))
   go_meet
   case rel => exact ⟨_, ((Ij != 0)), sr, H', ⟨by first | omega | exact Nat.le_refl _⟩, xb lH, ⟨lb⟩⟩
  rw [if_pos c9] at H; have c9b0 := decide_eq_true c9
  have c9b1 : decide (256 < ae.length) = true := decide_eq_true (by omega)
  clear c9; have H' := ak H; clear H; have ⟨_, _, _, _⟩ := cf2 lH
  go_wp2
  go_meet
  case rel => exact ⟨_, (true), sr, H', ⟨by first | omega | exact Nat.le_refl _⟩, xb lH, ⟨lb⟩⟩
 case rest =>
  clear HC4; obtain ⟨kq, Sr, rfl, HA, HJ3, lH, HB⟩ := hcut
  cases kq with
  | zero => exact absurd HA.out (by simp [aX.j0])
  | succ kj3 =>
   have H := HA.out; clear HA
   simp only [aX.j0] at H
   by_cases c14 : Sr = true
   ·
    subst c14
    replace H := ip H; obtain rfl := Option.some.inj H
    go_wp2
    go_ret
    exact ⟨er, lb⟩
   replace c14 := Bool.eq_false_iff.mpr c14; subst c14
   have H1 : ((af.f kj3 ay ae).bind fun nC => (if nC.2.2.2 = true then ((dA.f kj3 ay ae nC.1 nC.2.1).bind fun uk => (if uk.2 = 0 then ((cK.f kj3 ay ae nC.1).bind fun Io => (some (uk.1 == Io))) else (some false))) else ((jy.f kj3 ay ae nC.2.2.1).bind fun Ip => (some (Ip == 0))))) = some r := by rw [if_neg (show ¬ (false = true) by decide)] at H; exact H
   clear H; have H := H1; clear H1; replace H := Option.bind_eq_some_iff.mp H; obtain ⟨⟨aar, t797, aas, t803⟩, A150, H⟩ := H; dsimp only at H; have A15 := ak A150; clear A150
   by_cases c16 : t803 = true
   rotate_left
   ·
    replace c16 := Bool.eq_false_iff.mpr c16; subst c16
    have H1 : ((jy.f kj3 ay ae aas).bind fun Ip => (some (Ip == 0))) = some r := by rw [if_neg (show ¬ (false = true) by decide)] at H; exact H
    clear H; have H := H1; clear H1; replace H := Option.bind_eq_some_iff.mp H; obtain ⟨Ip, A280, H⟩ := H; have A28 := ak A280; clear A280; obtain rfl := Option.some.inj H; have zI : Ip = 0 := by simpa using HR_.out
    have ⟨_, _, _, _⟩ := cf2 lH
    go_wp2_with (first | ((with_reducible refine au (f := 36) rfl ?_); refine gl 27 Try.func36 #[.agg #[.int .i64 ay, .slice bX ae.length bN]] ?_; (with_reducible refine (af.calls kj3 ay _ _ ae aar t797 aas false _ (Kd.cZ bU.out lb) eU.out A15.out).mono ?_); rintro e w30 ⟨v795, v798, v801, rfl, ho0, ho1, ho2, hb⟩; refine ⟨_, rfl, ?_⟩; have n_ := a5 (Kd.bY (Kd.cO (ok' := fun k_ => True) ho0 (fun _ hk_ => trivial)) (ax lb)) (Kd.yI (Kd.kU (ok' := fun k_ => some k_ ≠ (v795 : Value).ownBlock ∧ some k_ ≠ (v801 : Value).ownBlock ∧ k_ ≠ Lv) ho1 (fun k_ hk_ => ⟨hk_.2.1, hk_.2.2, (Kd.ul (g := Lv) (o := .cells #[.int .i64 ay, .slice bX ae.length bN] 24 (0, 0)) (bx lH.out) k_ hk_.1)⟩)) (ax lb)) (Kd.bY (Kd.cO (ok' := fun k_ => True) ho2 (fun _ hk_ => trivial)) (ax lb)) (bo lH hb) (bl hb); clear lH HB; obtain ⟨wS, yJ, yK, lH, HB⟩ := n_; clear hb; (try clear ho0); (try clear ho1); (try clear ho2); have ⟨_, _, _, _⟩ := cf2 lH; obtain ⟨Ao32, co32, eo32⟩ := Kd.bT yK.out; subst eo32) | ((with_reducible refine au (f := 28) rfl ?_); refine gl 36 Try.func28 #[.agg #[.int .i64 ay, .slice bX ae.length bN], .slice Ao32 aas.length co32] ?_; (with_reducible refine (jy.calls kj3 ay _ _ ae _ _ aas Ip _ ?side1 ?side2 ?side3 ?side4 A28.out).mono ?_); (case side1 => exact Kd.cZ bU.out lb); (case side2 => exact eU.out); (case side3 => exact cR yK); (case side4 => exact (Kd.aA yK.out).2.1); rintro e w33 ⟨rfl, hb⟩; refine ⟨_, rfl, ?_⟩; have n_ := a5 (ro wS hb) (Kd.rA (vx yJ.out) hb) (ro yK hb) (bo lH hb) (bl hb); clear wS yJ yK lH HB; obtain ⟨wS, yJ, yK, lH, HB⟩ := n_; clear hb))
    go_ret
    exact ⟨er, lb⟩
   subst c16
   replace H := ip H; replace H := Option.bind_eq_some_iff.mp H; obtain ⟨⟨t804, t805⟩, A170, H⟩ := H; dsimp only at H; have A17 := ak A170; clear A170
   by_cases c18 : t805 = 0
   rotate_left
   ·
    rw [if_neg c18] at H; have c18b := bn2 c18
    exact absurd ((Option.some.inj H).trans HR_.out) (by decide)
   rw [if_pos c18] at H; have c18b := be2 c18; replace H := Option.bind_eq_some_iff.mp H; obtain ⟨Io, A190, H⟩ := H; have A19 := ak A190; clear A190; obtain rfl := Option.some.inj H; have ⟨_, _, _, _⟩ := cf2 lH
   go_wp2_with (first | ((with_reducible refine au (f := 36) rfl ?_); refine gl 27 Try.func36 #[.agg #[.int .i64 ay, .slice bX ae.length bN]] ?_; (with_reducible refine (af.calls kj3 ay _ _ ae aar t797 aas true _ (Kd.cZ bU.out lb) eU.out A15.out).mono ?_); rintro e w21 ⟨v795, v798, v801, rfl, ho0, ho1, ho2, hb⟩; refine ⟨_, rfl, ?_⟩; have n_ := a5 (Kd.bY (Kd.cO (ok' := fun k_ => True) ho0 (fun _ hk_ => trivial)) (ax lb)) (Kd.yI (Kd.kU (ok' := fun k_ => some k_ ≠ (v795 : Value).ownBlock ∧ some k_ ≠ (v801 : Value).ownBlock ∧ k_ ≠ Lv) ho1 (fun k_ hk_ => ⟨hk_.2.1, hk_.2.2, (Kd.ul (g := Lv) (o := .cells #[.int .i64 ay, .slice bX ae.length bN] 24 (0, 0)) (bx lH.out) k_ hk_.1)⟩)) (ax lb)) (Kd.bY (Kd.cO (ok' := fun k_ => True) ho2 (fun _ hk_ => trivial)) (ax lb)) (bo lH hb) (bl hb); clear lH HB; obtain ⟨wS, yJ, yK, lH, HB⟩ := n_; clear hb; (try clear ho0); (try clear ho1); (try clear ho2); have ⟨_, _, _, _⟩ := cf2 lH; obtain ⟨Ao23, co23, eo23⟩ := Kd.En yJ.out; subst eo23; obtain ⟨Ao24, co24, eo24⟩ := Kd.bT wS.out; subst eo24) | ((with_reducible refine au (f := 26) rfl ?_); refine gl 43 Try.func26 #[.agg #[.int .i64 ay, .slice bX ae.length bN], .agg #[.slice Ao24 aar.length co24, .slice Ao23 t797.length co23]] ?_; (with_reducible refine (dA.calls kj3 ay _ _ ae _ _ aar _ _ t797 t804 t805 _ ?side1 ?side2 ?side3 ?side4 ?side5 ?side6 A17.out).mono ?_); (case side1 => exact Kd.cZ bU.out lb); (case side2 => exact eU.out); (case side3 => exact cR wS); (case side4 => exact (Kd.aA wS.out).2.1); (case side5 => repeat (first | exact (Kd.l6 yJ.out).2.2 | (with_reducible refine Kd.nD ?_ _) | (with_reducible refine Kd.nE ?_ _) | (with_reducible refine Kd.rq ?_))); (case side6 => exact (Kd.l6 yJ.out).2.1); rintro e w25 ⟨rfl, hb⟩; refine ⟨_, rfl, ?_⟩; have n_ := a5 (ro wS hb) (Kd.rA (vx yJ.out) hb) (ro yK hb) (bo lH hb) (bl hb); clear wS yJ yK lH HB; obtain ⟨wS, yJ, yK, lH, HB⟩ := n_; clear hb; have ⟨_, _, _, _⟩ := cf2 lH) | (go_at_call 31; (with_reducible refine (cK.calls kj3 ay _ _ ae _ _ aar Io _ ?side1 ?side2 ?side3 ?side4 A19.out).mono ?_); (case side1 => exact Kd.cZ bU.out lb); (case side2 => exact eU.out); (case side3 => exact cR wS); (case side4 => exact (Kd.aA wS.out).2.1); rintro e w27 ⟨rfl, hb⟩; have n_ := a5 (ro wS hb) (Kd.rA (vx yJ.out) hb) (ro yK hb) (bo lH hb) (bl hb); clear wS yJ yK lH HB; obtain ⟨wS, yJ, yK, lH, HB⟩ := n_; clear hb))
   go_ret
   exact ⟨er, lb⟩
end Go.Proofs.Ytkdoihcjhccliaa.Q
