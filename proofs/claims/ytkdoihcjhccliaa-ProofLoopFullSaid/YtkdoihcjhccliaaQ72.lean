import Derived.Test.YtkdoihcjhccliaaV4
import Derived.Test.YtkdoihcjhccliaaQ0
import Derived.Test.YtkdoihcjhccliaaQ3
import Derived.Test.YtkdoihcjhccliaaQ19
import Derived.Test.YtkdoihcjhccliaaQ37
import Derived.Test.YtkdoihcjhccliaaQ69
import Derived.Test.YtkdoihcjhccliaaQ71
namespace Go.Proofs.Ytkdoihcjhccliaa.Q
open Go.RowKit Go.Proofs.YtkdoihcjhccliaaW.PrintWords Go.Proofs.YtkdoihcjhccliaaW.PrintLast Go.Proofs.YtkdoihcjhccliaaW.PrintMore
attribute [local go_sem] max2_int min2_int max_two min_two max_three min_three max_four min_four   -- for this text's walks alone
set_option linter.unusedVariables false
set_option linter.unusedSimpArgs false

/-! ### compasslaw11_ProofLoopFull: function 13 -/
def compasslaw11_ProofLoopFull.j0 : Nat → List Int → Int → Bool → Int → List (S98) → Option (Bool)
  | 0, _, _, _, _, _ => none
  | k + 1, x3, x4, x32, x520000, x520001 => if x32 = true then (some true) else (if x4 = 0 then ((proof_Acyclic.f k x520000 x520001 x3).bind fun t525 => (some (t525 == 0))) else ((compassref11_LeastMean.f k x520000 x520001).bind fun bt526 => ((proof_Mean.f k x520000 x520001 bt526.1 bt526.2).bind fun bt532 => (some (bt532.2.2 == 0)))))
def compasslaw11_ProofLoopFull.f (k : Nat) (a0_0 : Int) (l0_1 : List (S98)) : Option (Bool) := (compasslaw11_awake.f k).bind fun t520 => (if t520 = true then ((compassref04_Order.f k a0_0 l0_1).bind fun bt521 => (if a0_0 > 64 then (compasslaw11_ProofLoopFull.j0 k bt521.1 bt521.2 true a0_0 l0_1) else (if (l0_1.length : Int) > 256 then (compasslaw11_ProofLoopFull.j0 k bt521.1 bt521.2 true a0_0 l0_1) else (if bt521.2 = 0 then (compasslaw11_ProofLoopFull.j0 k bt521.1 bt521.2 false a0_0 l0_1) else (compasslaw11_ProofLoopFull.j0 k bt521.1 bt521.2 (bt521.2 != 71) a0_0 l0_1))))) else (some false))
set_option maxHeartbeats 8000000 in
set_option maxRecDepth 100000 in
theorem compasslaw11_ProofLoopFull.calls (k : Nat) (a0_0 : Int) (A0_1 : Option Addr) (c0_1 : Nat) (l0_1 : List (S98)) (r : Bool) (w : World) (hr0_1 : Kd.C k98 w A0_1 l0_1.length l0_1) (hc0_1 : l0_1.length ≤ c0_1) (hr_ : r = true) (h : compasslaw11_ProofLoopFull.f k a0_0 l0_1 = some r) :
    Calls Try.prog 13 #[.agg #[.int .i64 a0_0, .slice A0_1 l0_1.length c0_1]] w fun e w' => e = .returned (.bool r) ∧ Below w.heap.size w w' := by
 have hu24 := Try.underlying24; have hu72 := Try.underlying72; have hu74 := Try.underlying74; have HR0_1 := ak hr0_1; have HC0_1 := ak hc0_1; clear hr0_1 hc0_1; have HB := ak (Below.refl w.heap.size w); have HR_ := ak hr_; clear hr_; have H : ((compasslaw11_awake.f k).bind fun t520 => (if t520 = true then ((compassref04_Order.f k a0_0 l0_1).bind fun bt521 => (if a0_0 > 64 then (compasslaw11_ProofLoopFull.j0 k bt521.1 bt521.2 true a0_0 l0_1) else (if (l0_1.length : Int) > 256 then (compasslaw11_ProofLoopFull.j0 k bt521.1 bt521.2 true a0_0 l0_1) else (if bt521.2 = 0 then (compasslaw11_ProofLoopFull.j0 k bt521.1 bt521.2 false a0_0 l0_1) else (compasslaw11_ProofLoopFull.j0 k bt521.1 bt521.2 (bt521.2 != 71) a0_0 l0_1))))) else (some false))) = some r := h; clear h; replace H := Option.bind_eq_some_iff.mp H; obtain ⟨t520, A20, H⟩ := H; have A2 := ak A20; clear A20
 by_cases c3 : t520 = true
 rotate_left
 ·
  replace c3 := Bool.eq_false_iff.mpr c3; subst c3
  have H1 : (some false) = some r := by rw [if_neg (show ¬ (false = true) by decide)] at H; exact H
  clear H; have H := H1; clear H1
  exact absurd ((Option.some.inj H).trans HR_.out) (by decide)
 subst c3
 replace H := ip H; replace H := Option.bind_eq_some_iff.mp H; obtain ⟨⟨t521, t524⟩, A40, H⟩ := H; dsimp only at H; have A4 := ak A40; clear A40; have HC5 := ak H; clear H
 go_enter Try.func13, Try.ntmps13
 go_upto_region 4 with (first | ((with_reducible refine gate_dst (N := 1) rfl ?_); (try (refine gate_guard (by rfl) ?_; dsimp only)); refine bxe 1 #[.int .i64 a0_0, .slice A0_1 l0_1.length c0_1] 24 ?_; intro gb519 hg w6 hbox hb; have n_ := a4 (bl hb) hbox (gw w hg) (gw w hg); clear HB; obtain ⟨HB, BK519, GW519, GE519⟩ := n_; clear hb hbox hg) | ((with_reducible refine gate_callee (f := 15) rfl ?_); refine gl 9 Try.func15 #[] ?_; (with_reducible refine (compasslaw11_awake.calls k true _ rfl A2.out).mono ?_); rintro e w7 ⟨rfl, hb⟩; refine ⟨_, rfl, ?_⟩; have n_ := a2 (bo BK519 hb) (bl hb); clear BK519 HB; obtain ⟨BK519, HB⟩ := n_; clear hb; have ⟨_, _, _, _⟩ := cf2 BK519) | ((with_reducible refine gate_callee (f := 42) rfl ?_); refine gl 13 Try.func42 #[.agg #[.int .i64 a0_0, .slice A0_1 l0_1.length c0_1]] ?_; (with_reducible refine (compassref04_Order.calls k a0_0 _ _ l0_1 t521 t524 _ (Kd.C_below HR0_1.out lb) HC0_1.out A4.out).mono ?_); rintro e w9 ⟨v522, rfl, ho0, hb⟩; refine ⟨_, rfl, ?_⟩; have n_ := a3 (Kd.R_lower ho0 (below_size lb)) (bo BK519 hb) (bl hb); clear BK519 HB; obtain ⟨HO523, BK519, HB⟩ := n_; clear hb; (try clear ho0)))
 (try simp only [Act.put, sA, sZ, sS])
 go_cut [32] (fun v32 wc => ∃ (kq : Nat) (x32_4 : Bool), v32 = .bool x32_4 ∧ Aside0 (compasslaw11_ProofLoopFull.j0 kq t521 t524 x32_4 a0_0 l0_1 = some r) ∧ Aside0 (kq ≤ k) ∧ Aside0 (Kd.R (Kd.int .i64) 3 wc w.heap.size (fun _ => True) v522 t521) ∧ Aside0 (wc.heap[gb519]? = some (.cells #[.int .i64 a0_0, (.slice A0_1 l0_1.length c0_1)] 24 (0, 0))) ∧ Aside0 (Below w.heap.size w wc))
 case first =>
  have H := HC5.out; clear HC5
  by_cases c10 : a0_0 > 64
  ·
   rw [if_pos c10] at H; have c10b0 := decide_eq_true c10; clear c10
   (first | rw [c10b0] | (simp only [i64_w, i32_w]; rw [c10b0]) | skip)
   have H' := ak H; clear H; have ⟨_, _, _, _⟩ := cf2 BK519
   go_wp2
   go_meet
   case rel => exact ⟨_, (true), sr, H', ⟨by first | omega | exact Nat.le_refl _⟩, ⟨rx HO523.out⟩, xb BK519, ⟨lb⟩⟩
  rw [if_neg c10] at H; have c10b0 := decide_eq_false c10; clear c10
  (first | rw [c10b0] | (simp only [i64_w, i32_w]; rw [c10b0]) | skip)
  by_cases c12 : (l0_1.length : Int) > 256
  ·
   rw [if_pos c12] at H; have c12b0 := decide_eq_true c12
   have c12b1 : decide (256 < l0_1.length) = true := decide_eq_true (by omega)
   clear c12; have H' := ak H; clear H; have ⟨_, _, _, _⟩ := cf2 BK519
   go_wp2
   go_meet
   case rel => exact ⟨_, (true), sr, H', ⟨by first | omega | exact Nat.le_refl _⟩, ⟨rx HO523.out⟩, xb BK519, ⟨lb⟩⟩
  rw [if_neg c12] at H; have c12b0 := decide_eq_false c12
  have c12b1 : decide (256 < l0_1.length) = false := decide_eq_false (by omega)
  clear c12
  by_cases c14 : t524 = 0
  rotate_left
  ·
   rw [if_neg c14] at H; have c14b := bn2 c14; have H' := ak H; clear H; have ⟨_, _, _, _⟩ := cf2 BK519
   go_wp2
   go_meet
   case rel => exact ⟨_, ((t524 != 71)), sr, H', ⟨by first | omega | exact Nat.le_refl _⟩, ⟨rx HO523.out⟩, xb BK519, ⟨lb⟩⟩
  rw [if_pos c14] at H; have c14b := be2 c14; clear c14; have H' := ak H; clear H; have ⟨_, _, _, _⟩ := cf2 BK519
  go_wp2
  go_meet
  case rel => exact ⟨_, (false), sr, H', ⟨by first | omega | exact Nat.le_refl _⟩, ⟨rx HO523.out⟩, xb BK519, ⟨lb⟩⟩
 case rest =>
  clear HC5; obtain ⟨kq, x32_4, rfl, HA, HJ4, HO_3, BK519, HB⟩ := hcut
  cases kq with
  | zero => exact absurd HA.out (by simp [compasslaw11_ProofLoopFull.j0])
  | succ kj4 =>
   have H := HA.out; clear HA
   simp only [compasslaw11_ProofLoopFull.j0] at H
   by_cases c17 : x32_4 = true
   ·
    subst c17
    replace H := ip H; obtain rfl := Option.some.inj H
    go_wp2
    go_ret
    exact ⟨er, lb⟩
   replace c17 := Bool.eq_false_iff.mpr c17; subst c17
   have H1 : (if t524 = 0 then ((proof_Acyclic.f kj4 a0_0 l0_1 t521).bind fun t525 => (some (t525 == 0))) else ((compassref11_LeastMean.f kj4 a0_0 l0_1).bind fun bt526 => ((proof_Mean.f kj4 a0_0 l0_1 bt526.1 bt526.2).bind fun bt532 => (some (bt532.2.2 == 0))))) = some r := by rw [if_neg (show ¬ (false = true) by decide)] at H; exact H
   clear H; have H := H1; clear H1
   by_cases c18 : t524 = 0
   rotate_left
   ·
    rw [if_neg c18] at H; have c18b := bn2 c18; replace H := Option.bind_eq_some_iff.mp H; obtain ⟨⟨t526, t529⟩, A230, H⟩ := H; dsimp only at H; have A23 := ak A230; clear A230; replace H := Option.bind_eq_some_iff.mp H; obtain ⟨⟨t532, t533, t534⟩, A240, H⟩ := H; dsimp only at H; have A24 := ak A240; clear A240; obtain rfl := Option.some.inj H; have ⟨_, _, _, _⟩ := cf2 BK519
    go_wp2_with (first | ((with_reducible refine gate_callee (f := 43) rfl ?_); refine gl 41 Try.func43 #[.agg #[.int .i64 a0_0, .slice A0_1 l0_1.length c0_1]] ?_; (with_reducible refine (compassref11_LeastMean.calls kj4 a0_0 _ _ l0_1 t526 t529 _ (Kd.C_below HR0_1.out lb) HC0_1.out A23.out).mono ?_); rintro e w26 ⟨v527, v530, rfl, ho0, ho1, hb⟩; refine ⟨_, rfl, ?_⟩; have n_ := a5 (Kd.R_elder' (rx HO_3.out) (Kd.R_base ho0) hb) (Kd.R_lower (Kd.R_new' ho0 (Kd.R_lt (rx HO_3.out))) (below_size lb)) (Kd.R_lower ho1 (below_size lb)) (bo BK519 hb) (bl hb); clear HO_3 BK519 HB; obtain ⟨HO_3, HO528, HO531, BK519, HB⟩ := n_; clear hb; (try clear ho0); (try clear ho1); have ⟨_, _, _, _⟩ := cf2 BK519; obtain ⟨Ao28, co28, eo28⟩ := Kd.R_slice HO531.out; subst eo28; obtain ⟨Ao29, co29, eo29⟩ := Kd.R_slice HO528.out; subst eo29) | ((with_reducible refine gate_callee (f := 37) rfl ?_); refine gl 49 Try.func37 #[.agg #[.int .i64 a0_0, .slice A0_1 l0_1.length c0_1], .agg #[.slice Ao29 t526.length co29, .slice Ao28 t529.length co28]] ?_; (with_reducible refine (proof_Mean.calls kj4 a0_0 _ _ l0_1 _ _ t526 _ _ t529 t532 t533 t534 _ ?side1 ?side2 ?side3 ?side4 ?side5 ?side6 A24.out).mono ?_); (case side1 => exact Kd.C_below HR0_1.out lb); (case side2 => exact HC0_1.out); (case side3 => repeat (first | exact (Kd.R_reads' HO528.out).2.2 | (with_reducible refine Kd.C_alloc ?_ _) | (with_reducible refine Kd.C_drewN ?_ _) | (with_reducible refine Kd.C_drew ?_))); (case side4 => exact (Kd.R_reads' HO528.out).2.1); (case side5 => repeat (first | exact (Kd.R_reads' HO531.out).2.2 | (with_reducible refine Kd.C_alloc ?_ _) | (with_reducible refine Kd.C_drewN ?_ _) | (with_reducible refine Kd.C_drew ?_))); (case side6 => exact (Kd.R_reads' HO531.out).2.1); rintro e w30 ⟨rfl, hb⟩; refine ⟨_, rfl, ?_⟩; have n_ := a5 (ro HO_3 hb) (ro HO528 hb) (ro HO531 hb) (bo BK519 hb) (bl hb); clear HO_3 HO528 HO531 BK519 HB; obtain ⟨HO_3, HO528, HO531, BK519, HB⟩ := n_; clear hb) | ((with_reducible refine gate_dst (N := 7) rfl ?_); (try (refine gate_guard (by rfl) ?_; dsimp only)); refine bxe 7 #[.int .i64 0, .int .i64 0] 74 ?_; intro gb535 hg w31 hbox hb; have n_ := a10 (ro HO_3 hb) (ro HO528 hb) (ro HO531 hb) (bo BK519 hb) (bl hb) hbox (gw w hg) (gw w hg) (nl hg BK519) (nr hg BK519); clear HO_3 HO528 HO531 BK519 HB; obtain ⟨HO_3, HO528, HO531, BK519, HB, BK535, GW535, GE535, NB519_535, NB535_519⟩ := n_; clear hb hbox hg; have ⟨_, _⟩ := nn NB535_519; have ⟨_, _, _, _⟩ := cf2 BK535))
    go_ret
    exact ⟨er, lb⟩
   rw [if_pos c18] at H; have c18b := be2 c18; clear c18; replace H := Option.bind_eq_some_iff.mp H; obtain ⟨t525, A190, H⟩ := H; have A19 := ak A190; clear A190; obtain rfl := Option.some.inj H; have ⟨_, _, _, _⟩ := cf2 BK519; obtain ⟨Ao21, co21, eo21⟩ := Kd.R_slice HO_3.out; subst eo21
   go_wp2_with (first | ((with_reducible refine gate_callee (f := 39) rfl ?_); refine gl 37 Try.func39 #[.agg #[.int .i64 a0_0, .slice A0_1 l0_1.length c0_1], .slice Ao21 t521.length co21] ?_; (with_reducible refine (proof_Acyclic.calls kj4 a0_0 _ _ l0_1 _ _ t521 t525 _ ?side1 ?side2 ?side3 ?side4 A19.out).mono ?_); (case side1 => exact Kd.C_below HR0_1.out lb); (case side2 => exact HC0_1.out); (case side3 => repeat (first | exact (Kd.R_reads' HO_3.out).2.2 | (with_reducible refine Kd.C_alloc ?_ _) | (with_reducible refine Kd.C_drewN ?_ _) | (with_reducible refine Kd.C_drew ?_))); (case side4 => exact (Kd.R_reads' HO_3.out).2.1); rintro e w22 ⟨rfl, hb⟩; refine ⟨_, rfl, ?_⟩; have n_ := a3 (ro HO_3 hb) (bo BK519 hb) (bl hb); clear HO_3 BK519 HB; obtain ⟨HO_3, BK519, HB⟩ := n_; clear hb))
   go_ret
   exact ⟨er, lb⟩
end Go.Proofs.Ytkdoihcjhccliaa.Q
