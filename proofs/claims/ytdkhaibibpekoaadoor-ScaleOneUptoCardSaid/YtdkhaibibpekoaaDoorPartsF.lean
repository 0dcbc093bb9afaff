/- Labels taken apart: the program's way and the document's. -/
import Derived.Test.YtdkhaibibpekoaaDoorQ1
import Derived.Test.YtdkhaibibpekoaaDoorQ2
import Derived.Test.YtdkhaibibpekoaaDoorQ6
import Derived.Test.YtdkhaibibpekoaaDoorQ7
import Derived.Test.YtdkhaibibpekoaaDoorPartsP
namespace Go.Flt
set_option linter.unusedVariables false
theorem norm_any (m : Nat) (h0 : 0 < m) (h1 : m < 9007199254740992) : ∃ j M : Nat, M = m * 2 ^ j ∧ 4503599627370496 ≤ M ∧ M < 9007199254740992 ∧ j ≤ 52 := by
  obtain ⟨L, a, b, c, -⟩ := whole_wd m h0 h1
  exact ⟨52 - L, _, rfl, b, c, by omega⟩
end Go.Flt
namespace Go.Proofs.YtdkhaibibpekoaaDoor.Pure
open Go.RowKit Go.Flt Go.Proofs.YtdkhaibibpekoaaDoor.Q Go.Proofs.YtdkhaibibpekoaaDoorW.PrintWords Go.Proofs.YtdkhaibibpekoaaDoorW.PrintLast Go.Proofs.YtdkhaibibpekoaaDoorW.PrintMore
set_option linter.unusedVariables false
section
variable {b : Nat} (hb : b < 18446744073709551616) (hf : rg b < 9218868437227405312)
include hb hf
theorem zero_any : (FloatKind.f64.format.order b 0 == some .eq) = decide (rg b = 0) := by
  have e := word_of b hb
  have z : (0 : Nat) = Ieee.double.word false 0 := rfl
  have o := order_word (ng b) false (rg b) 0 (by omega) (by decide)
  rw [e, ← z] at o
  rw [o]
  unfold co sv
  by_cases c : rg b = 0
  · rw [c, decide_eq_true rfl]; cases ng b <;> rfl
  · rw [decide_eq_false c]
    cases ng b
    · rw [if_neg (by simp), if_neg (by simp; omega)]; rfl
    · rw [if_pos (by simp; omega)]; rfl
theorem inf_any : math_IsInf.f b 0 = some false := by
  unfold math_IsInf.f math_Abs.f
  rw [if_pos rfl, abs_any b hb, Option.bind_some, order_pos (rg b) _ hf (by decide)]
  by_cases c : rg b < 9218868437227405311
  · rw [if_pos c]; rfl
  · rw [if_neg c, if_pos (by omega)]; rfl
theorem nan_any : math_IsNaN.f b = some false := by
  unfold math_IsNaN.f
  have o := order_word (ng b) (ng b) (rg b) (rg b) (by omega) (by omega)
  rw [word_of b hb] at o
  rw [o]
  unfold co
  rw [if_neg (by omega), if_pos rfl]; rfl
theorem norm_big (h : 4503599627370496 ≤ rg b) : math_normalize.f b = some (b, 0) := by
  have o : (FloatKind.f64.format.order (rg b) 4503599627370496 == some .lt) = false := by
    rw [order_pos _ _ hf (by decide), if_neg (by omega)]
    by_cases c : rg b = 4503599627370496
    · rw [if_pos c]; rfl
    · rw [if_neg c]; rfl
  unfold math_normalize.f math_Abs.f
  rw [abs_any b hb, Option.bind_some, o, if_neg (by decide)]
theorem norm_small (h0 : 0 < rg b) (h : rg b < 4503599627370496) : math_normalize.f b = some (Ieee.double.nearest (ng b) (rg b) (-1022), -52) := by
  have o : (FloatKind.f64.format.order (rg b) 4503599627370496 == some .lt) = true := by
    rw [order_pos _ _ hf (by decide), if_pos h]; rfl
  have rd : Ieee.double.read b = .number (ng b) (rg b) (-1074) := by
    rw [read_num b hf]
    have e1 : mm (rg b) = rg b := by unfold mm; rw [if_pos h]
    have e2 : mp (rg b) = 0 := by unfold mp; omega
    rw [e1, e2]; rfl
  have mu := mul_any (ng b) (rg b) _ (-1074) 0 read_2_52 b rd
  unfold math_normalize.f math_Abs.f
  rw [abs_any b hb, Option.bind_some, o, if_pos rfl, mu, if_pos Option.isSome_some, Option.getD_some]
  rfl
end
theorem and2047 (s : Bool) (E F : Nat) (h1 : E ≤ 2047) (h2 : F < 4503599627370496) : Go.bits .and .u64 (((Ieee.double.word s (E * 4503599627370496 + F) : Nat) : Int) / 4503599627370496) 2047 = (E : Int) := by
  have e : ((Ieee.double.word s (E * 4503599627370496 + F) : Nat) : Int) / 4503599627370496 = ((Ieee.double.word s (E * 4503599627370496 + F) / 4503599627370496 : Nat) : Int) := rfl
  have wl := word_lt2 s (E * 4503599627370496 + F) (by omega)
  have v : Ieee.double.word s (E * 4503599627370496 + F) / 4503599627370496 % 2048 = E := by
    unfold Ieee.Format.word
    rw [sw]
    split <;> omega
  rw [e, show (2047 : Int) = ((2047 : Nat) : Int) by rfl, bits_and_u64_nat _ _ (by omega) (by decide)]
  have := Nat.and_two_pow_sub_one_eq_mod (Ieee.double.word s (E * 4503599627370496 + F) / 4503599627370496) 11
  rw [show (2047 : Nat) = 2 ^ 11 - 1 by rfl, this]
  show ((_ % 2048 : Nat) : Int) = _
  rw [v]
/-- Frexp behind normalize. -/
theorem frexp_end (b : Nat) (s : Bool) (E F : Nat) (x : Int) (hb : b < 18446744073709551616) (hf : rg b < 9218868437227405312) (hz : 0 < rg b) (h1 : E ≤ 2047) (h2 : F < 4503599627370496) (x0 : -100 ≤ x) (x1 : x ≤ 0)
    (hn : math_normalize.f b = some (Ieee.double.word s (E * 4503599627370496 + F), x)) (k : Nat) : math_Frexp.f (k + 1) b = some (Ieee.double.word s (4602678819172646912 + F), x + E - 1022) := by
  unfold math_Frexp.f math_frexp.f
  rw [zero_any hb hf, decide_eq_false (by omega), if_neg (by decide), inf_any hb hf, Option.bind_some, if_neg (by decide), nan_any hb hf, Option.bind_some, math_frexp.j0, if_neg (by decide), hn, Option.bind_some]
  simp only
  rw [frac_any s E F h1 h2, and2047 s E F h1 h2, Int.toNat_natCast, w64 (a := (E : Int)) (by omega) (by omega), w64 (a := (E : Int) - 1023) (by omega) (by omega), w64 (a := (E : Int) - 1023 + 1) (by omega) (by omega), w64 (by omega) (by omega), Option.bind_some]
  congr 2
  omega
/-- The document's loop. -/
theorem refparts_loop (a0 : Int) (o : Nat) (ho : o % 2 = 1) : ∀ (t : Nat) (e : Int), o * 2 ^ t < 18446744073709551616 → -3000 ≤ e → e + t ≤ 3000 → Evl (fun k => compassref02_Parts.l0 k a0 ((o * 2 ^ t : Nat) : Int) e) ((o : Int), e + t, ((a0 / 9223372036854775808) == 1)) := by
  intro t
  induction t with
  | zero =>
    intro e h e0 e1
    refine Evl.here fun k => ?_
    rw [Nat.pow_zero, Nat.mul_one, compassref02_Parts.l0, show ((o : Int).tmod 2) = ((o % 2 : Nat) : Int) from rfl, if_neg (by omega)]
    congr 2
    congr 1
    omega
  | succ t ih =>
    intro e h e0 e1
    have q : o * 2 ^ (t + 1) = o * 2 ^ t * 2 := by rw [Nat.pow_succ, Nat.mul_assoc]
    rw [q] at h
    have nx := ih (e + 1) (by omega) (by omega) (by omega)
    rw [show e + 1 + (t : Int) = e + ((t + 1 : Nat) : Int) by omega] at nx
    refine nx.step fun k => ?_
    rw [q, compassref02_Parts.l0, show (((o * 2 ^ t * 2 : Nat) : Int).tmod 2) = ((o * 2 ^ t * 2 % 2 : Nat) : Int) from rfl, if_pos (by omega), show (((o * 2 ^ t * 2 : Nat) : Int).tdiv 2) = ((o * 2 ^ t * 2 / 2 : Nat) : Int) from rfl, Nat.mul_div_cancel _ (by decide), un _ (by omega), w64 (by omega) (by omega)]
/-- A label's parts: both ways. -/
structure Lab (b : Nat) (m : Nat) (e : Int) (s : Bool) : Prop where
  par : Evl (fun k => scale_parts.f k b) (sv s m, e)
  ref : Evl (fun k => compassref02_Parts.f k (b : Int)) ((m : Int), e, s)
  zero : (FloatKind.f64.format.order b 0 == some .eq) = decide (m = 0)
  nan : math_IsNaN.f b = some false
  inf : math_IsInf.f b 0 = some false
  m1 : m < 9007199254740992
  e0 : -1100 ≤ e
  e1 : e ≤ 1100
  z : m = 0 → e = 0
  odd : m ≠ 0 → m % 2 = 1
  val : b = Ieee.double.nearest s m e
  rd : m ≠ 0 → ∃ j : Nat, Ieee.double.read b = .number s (m * 2 ^ j) (e - j)
theorem sign_eq (b : Nat) (hb : b < 18446744073709551616) : (((b : Int) / 9223372036854775808) == 1) = ng b := by
  unfold ng
  rw [show ((b : Int) / 9223372036854775808) = ((b / 9223372036854775808 : Nat) : Int) from rfl]
  have : b / 9223372036854775808 = 0 ∨ b / 9223372036854775808 = 1 := by omega
  rcases this with h | h <;> rw [h] <;> rfl
theorem lab (b : Nat) (hb : b < 18446744073709551616) (hf : rg b < 9218868437227405312) : ∃ m e, Lab b m e (ng b) := by
  have wo := word_of b hb
  have sg := sign_eq b hb
  have za := zero_any hb hf
  have na := nan_any hb hf
  have ia := inf_any hb hf
  have fld : wrap64 (Int.tmod ((b : Int) / 4503599627370496) 2048) = ((rg b / 4503599627370496 : Nat) : Int) := by
    rw [show Int.tmod ((b : Int) / 4503599627370496) 2048 = ((b / 4503599627370496 % 2048 : Nat) : Int) from rfl, w64 (by omega) (by omega)]
    refine congrArg Int.ofNat ?_
    unfold rg
    omega
  have frc : Int.tmod (b : Int) 4503599627370496 = ((rg b % 4503599627370496 : Nat) : Int) := by
    rw [show Int.tmod (b : Int) 4503599627370496 = ((b % 4503599627370496 : Nat) : Int) from rfl]
    congr 1
    unfold rg
    omega
  by_cases z : rg b = 0
  · rw [z] at za fld frc
    have zb : (FloatKind.f64.format.order b 0 == some .eq) = true := by rw [za]; rfl
    refine ⟨0, 0, ⟨Evl.pure.congr fun k => ?_, ?_, by rw [zb]; rfl, na, ia, by decide, by decide, by decide, fun _ => rfl, fun h => absurd rfl h, ?_, fun h => absurd rfl h⟩⟩
    · unfold scale_parts.f
      rw [zb, if_pos rfl]
      cases ng b <;> rfl
    · refine (Evl.here (g := fun k => compassref02_Parts.j0 k (b : Int) 0 1) fun k => ?_).congr fun k => ?_
      · rw [compassref02_Parts.j0, if_pos rfl, sg]; rfl
      · unfold compassref02_Parts.f
        rw [fld, if_pos (by rfl), frc]; rfl
    · rw [nearest_zero]; rw [z] at wo; exact wo.symm
  · have zn : (FloatKind.f64.format.order b 0 == some .eq) = false := by rw [za, decide_eq_false z]
    by_cases c : rg b < 4503599627370496
    · obtain ⟨o, t, eo, ho⟩ := odd_part (rg b) (by omega)
      obtain ⟨j, M, eM, M0, M1, j1⟩ := norm_any (rg b) (by omega) (by omega)
      have t1 : t < 52 := by
        by_cases q : t < 52
        · exact q
        · have h1 : 2 ^ 52 ≤ 2 ^ t := Nat.pow_le_pow_right (by decide) (by omega)
          have h2 : 2 ^ t ≤ o * 2 ^ t := Nat.le_mul_of_pos_left _ (by omega)
          omega
      have o1 : o ≤ rg b := by rw [eo]; exact Nat.le_mul_of_pos_right _ (Nat.two_pow_pos t)
      obtain ⟨F, hF⟩ : ∃ F, M = 4503599627370496 + F := ⟨M - 4503599627370496, by omega⟩
      have hM : 4503599627370496 + F = o * 2 ^ (t + j) := by rw [← hF, eM, eo, Nat.mul_assoc, ← Nat.pow_add]
      have nw : Ieee.double.nearest (ng b) (rg b) (-1022) = Ieee.double.word (ng b) ((53 - j) * 4503599627370496 + F) := by
        rw [← nearest_shift _ _ j, ← eM, nearest_wd0 _ _ _ M1 (by omega) (Or.inr M0)]
        unfold wd
        have e : (-1022 - (j : Int) + 1074).toNat = 52 - j := by omega
        rw [e, Nat.min_eq_left (by omega), show (52 - j) * 4503599627370496 + M = (53 - j) * 4503599627370496 + F by omega]
      have nm := norm_small hb hf (by omega) c
      rw [nw] at nm
      have fx := fun k => frexp_end b (ng b) (53 - j) F (-52) hb hf (by omega) (by omega) (by omega) (by decide) (by decide) nm k
      have pe := parts_end (ng b) o (t + j) F (-52 + ((53 - j : Nat) : Int) - 1022) (by omega) ho hM (by omega) (by omega)
      rw [show (-52 + ((53 - j : Nat) : Int) - 1022 - 53 + ((t + j : Nat) : Int)) = -1074 + (t : Int) by omega] at pe
      refine ⟨o, -1074 + (t : Int), ⟨⟨1, fun k hk => ?_⟩, ?_, by rw [zn, decide_eq_false (by omega)], na, ia, by omega, by omega, by omega, fun h => by omega, fun _ => ho, ?_, fun _ => ⟨t, by rw [← eo, read_num b hf, show mm (rg b) = rg b by unfold mm; rw [if_pos c], show mp (rg b) = 0 by unfold mp; omega]; congr 1; omega⟩⟩⟩
      · obtain ⟨m, rfl⟩ : ∃ m, k = m + 1 := ⟨k - 1, by omega⟩
        show scale_parts.f (m + 1) b = _
        unfold scale_parts.f
        rw [zn, if_neg (by decide), fx m, Option.bind_some]
        dsimp only
        exact pe
      · have lp := refparts_loop (b : Int) o ho t (-1074) (by rw [← eo]; omega) (by decide) (by omega)
        rw [← eo, sg] at lp
        refine Evl.congr (h := fun k => compassref02_Parts.j0 k (b : Int) ((rg b : Nat) : Int) 1) (lp.step fun k => ?_) fun k => ?_
        · rw [compassref02_Parts.j0, if_neg (by omega), show wrap64 (1 - 1075) = -1074 from w64 (by decide) (by decide)]
        · unfold compassref02_Parts.f
          rw [fld, Nat.div_eq_of_lt c, if_pos (by rfl), frc, Nat.mod_eq_of_lt c]
      · have := nearest_shift (ng b) o t (-1074 + (t : Int))
        rw [← eo, show -1074 + (t : Int) - (t : Int) = -1074 by omega] at this
        rw [← this, nearest_wd0 _ _ _ (by omega) (by decide) (Or.inl rfl)]
        unfold wd
        rw [show ((-1074 : Int) + 1074).toNat = 0 by rfl, Nat.zero_mul, Nat.zero_add, Nat.min_eq_left (by omega)]
        exact wo.symm
    · obtain ⟨E, hE⟩ : ∃ E, E = rg b / 4503599627370496 := ⟨_, rfl⟩
      obtain ⟨F, hF⟩ : ∃ F, F = rg b % 4503599627370496 := ⟨_, rfl⟩
      have r : rg b = E * 4503599627370496 + F := by omega
      have F1 : F < 4503599627370496 := by omega
      have E0 : 1 ≤ E := by omega
      have E1 : E ≤ 2046 := by omega
      obtain ⟨o, t, eo, ho⟩ := odd_part (4503599627370496 + F) (by omega)
      have t1 : t < 53 := by
        by_cases q : t < 53
        · exact q
        · have h1 : 2 ^ 53 ≤ 2 ^ t := Nat.pow_le_pow_right (by decide) (by omega)
          have h2 : 2 ^ t ≤ o * 2 ^ t := Nat.le_mul_of_pos_left _ (by omega)
          omega
      have o1 : o ≤ 4503599627370496 + F := by rw [eo]; exact Nat.le_mul_of_pos_right _ (Nat.two_pow_pos t)
      have nm := norm_big hb hf (by omega)
      have wb : b = Ieee.double.word (ng b) (E * 4503599627370496 + F) := by rw [← r]; exact wo.symm
      have nm2 : math_normalize.f b = some (Ieee.double.word (ng b) (E * 4503599627370496 + F), 0) := by rw [← wb]; exact nm
      have fx := fun k => frexp_end b (ng b) E F 0 hb hf (by omega) (by omega) F1 (by decide) (by decide) nm2 k
      have pe := parts_end (ng b) o t F (0 + (E : Int) - 1022) F1 ho eo (by omega) (by omega)
      rw [show (0 + (E : Int) - 1022 - 53 + (t : Int)) = (E : Int) - 1075 + t by omega] at pe
      refine ⟨o, (E : Int) - 1075 + t, ⟨⟨1, fun k hk => ?_⟩, ?_, by rw [zn, decide_eq_false (by omega)], na, ia, by omega, by omega, by omega, fun h => by omega, fun _ => ho, ?_, fun _ => ⟨t, by rw [← eo, read_num b hf, show mm (rg b) = 4503599627370496 + F by unfold mm; rw [if_neg c, hF], show mp (rg b) = E - 1 by unfold mp; rw [hE]]; congr 1; omega⟩⟩⟩
      · obtain ⟨m, rfl⟩ : ∃ m, k = m + 1 := ⟨k - 1, by omega⟩
        show scale_parts.f (m + 1) b = _
        unfold scale_parts.f
        rw [zn, if_neg (by decide), fx m, Option.bind_some]
        dsimp only
        exact pe
      · have lp := refparts_loop (b : Int) o ho t ((E : Int) - 1075) (by rw [← eo]; omega) (by omega) (by omega)
        rw [← eo, sg] at lp
        refine Evl.congr (h := fun k => compassref02_Parts.j0 k (b : Int) ((4503599627370496 + F : Nat) : Int) (E : Int)) (lp.step fun k => ?_) fun k => ?_
        · rw [compassref02_Parts.j0, if_neg (by omega), w64 (by omega) (by omega)]
        · unfold compassref02_Parts.f
          rw [fld, ← hE, if_neg (by omega), frc, ← hF, show ((F : Int) + 4503599627370496) = ((4503599627370496 + F : Nat) : Int) by omega, un _ (by omega)]
      · have := nearest_shift (ng b) o t ((E : Int) - 1075 + t)
        rw [← eo, show (E : Int) - 1075 + t - t = (E : Int) - 1075 by omega] at this
        rw [← this, nearest_wd0 _ _ _ (by omega) (by omega) (Or.inr (by omega))]
        unfold wd
        have e : ((E : Int) - 1075 + 1074).toNat = E - 1 := by omega
        rw [e, Nat.min_eq_left (by omega), show (E - 1) * 4503599627370496 + (4503599627370496 + F) = E * 4503599627370496 + F by omega]
        exact wb
end Go.Proofs.YtdkhaibibpekoaaDoor.Pure
