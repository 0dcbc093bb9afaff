/- What Ldexp answers at whole numbers of 53 bits: the number times the power of two, as the nearest float64. -/
import Derived.Test.YtdkhaibibpekoaaDoorQ1
import Derived.Test.YtdkhaibibpekoaaDoorQ4
import Derived.Test.YtdkhaibibpekoaaDoorFltM
namespace Go.Proofs.YtdkhaibibpekoaaDoor.Pure
open Go.RowKit Go.Flt Go.Proofs.YtdkhaibibpekoaaDoor.Q Go.Proofs.YtdkhaibibpekoaaDoorW.PrintWords Go.Proofs.YtdkhaibibpekoaaDoorW.PrintLast Go.Proofs.YtdkhaibibpekoaaDoorW.PrintMore
set_option linter.unusedVariables false
set_option linter.unusedSimpArgs false
section
variable {x : Nat} (hx : x < 9218868437227405312) (hx0 : 4503599627370496 ≤ x)
include hx
theorem abs_f : math_Abs.f x = some x := by
  unfold math_Abs.f
  rw [abs_pos x (by omega)]
theorem isInf_f : math_IsInf.f x 0 = some false := by
  unfold math_IsInf.f
  rw [if_pos rfl, abs_f hx, Option.bind_some, order_pos x _ hx (by decide)]
  by_cases c : x < 9218868437227405311
  · rw [if_pos c]; rfl
  · rw [if_neg c, if_pos (by omega)]; rfl
theorem isNaN_f : math_IsNaN.f x = some false := by
  unfold math_IsNaN.f
  rw [order_pos x x hx hx, if_neg (by omega), if_pos rfl]; rfl
include hx0
theorem normalize_f : math_normalize.f x = some (x, 0) := by
  have o : (FloatKind.f64.format.order x 4503599627370496 == some .lt) = false := by
    rw [order_pos x _ hx (by decide), if_neg (by omega)]
    by_cases c : x = 4503599627370496
    · rw [if_pos c]; rfl
    · rw [if_neg c]; rfl
  unfold math_normalize.f
  rw [abs_f hx, Option.bind_some, o, if_neg (by decide)]
theorem notZero_f : (FloatKind.f64.format.order x 0 == some .eq) = false := by
  rw [order_pos x 0 hx (by decide), if_neg (by omega), if_neg (by omega)]; rfl
theorem notNeg_f : (FloatKind.f64.format.order x 0 == some .lt) = false := by
  rw [order_pos x 0 hx (by decide), if_neg (by omega), if_neg (by omega)]; rfl
end
theorem w64 {a : Int} (h0 : -9223372036854775808 ≤ a) (h1 : a < 9223372036854775808) : wrap64 a = a := by unfold wrap64; omega
theorem wu64 {a : Int} (h0 : 0 ≤ a) (h1 : a < 18446744073709551616) : IntKind.u64.wrap a = a := by rw [IntKind.wrap_u64]; omega
theorem ldexp_f (x L F : Nat) (e : Int) (hxe : x = (L + 1023) * 4503599627370496 + F) (hL : L ≤ 53) (hF : F < 4503599627370496) (h0 : -1074 ≤ e) (h1 : e ≤ 4000) : math_ldexp.f x e = some (Ieee.double.nearest false (4503599627370496 + F) (e + L - 52)) := by
  have hx : x < 9218868437227405312 := by omega
  have hx0 : 4503599627370496 ≤ x := by omega
  have fr : Go.bits .andNot .u64 (x : Int) 9218868437227405312 = (F : Int) := by rw [hxe]; exact frac_of (L + 1023) F (by omega) hF
  have nz := notZero_f hx hx0
  have nn := notNeg_f hx hx0
  have ni := isInf_f hx
  have na := isNaN_f hx
  have no := normalize_f hx hx0
  have ex : (wrap64 ((wrap64 (e + 0)) + (wrap64 ((Go.bits .and .i64 (wrap64 ((x : Int) / 4503599627370496)) 2047) - 1023)))) = e + L := by
    have a : (x : Int) / 4503599627370496 = (L : Int) + 1023 := by omega
    rw [a, w64 (a := (L : Int) + 1023) (by omega) (by omega), mask11 _ (by omega) (by omega), w64 (a := ((L : Int) + 1023) % 2048 - 1023) (by omega) (by omega), w64 (a := e + 0) (by omega) (by omega), w64 (by omega) (by omega)]
    omega
  unfold math_ldexp.f
  rw [nz, if_neg (by decide), ni, Option.bind_some, if_neg (by decide), na, Option.bind_some, if_neg (by decide), no, Option.bind_some]
  dsimp only
  rw [ex, if_neg (by omega)]
  by_cases c1 : e + L > 1023
  · rw [if_pos c1, nn, if_neg (by decide)]
    unfold math_Inf.f
    rw [if_pos (by decide), Option.bind_some, nearest_wd0 _ _ _ (by omega) (by omega) (Or.inr (by omega))]
    unfold wd
    rw [Nat.min_eq_right (by omega)]
    rfl
  · rw [if_neg c1]
    by_cases c2 : e + L < -1022
    · rw [if_pos c2]
      have ew : IntKind.u64.wrap ((IntKind.u64.wrap (wrap64 ((wrap64 ((e + L) + 53)) + 1023))) * 4503599627370496) = (((e + L + 1076).toNat : Nat) : Int) * 4503599627370496 := by
        rw [w64 (a := (e + L) + 53) (by omega) (by omega), w64 (by omega) (by omega), wu64 (a := (e + L) + 53 + 1023) (by omega) (by omega), wu64 (by omega) (by omega)]
        omega
      rw [ew, fr, or_parts _ F (by omega) hF, mul_parts _ _ F _ read_small (by omega) (by omega) hF]
      rw [if_pos Option.isSome_some, Option.getD_some]
      congr 2
      omega
    · rw [if_neg c2]
      have ew : IntKind.u64.wrap ((IntKind.u64.wrap (wrap64 ((e + L) + 1023))) * 4503599627370496) = (((e + L + 1023).toNat : Nat) : Int) * 4503599627370496 := by
        rw [w64 (by omega) (by omega), wu64 (a := (e + L) + 1023) (by omega) (by omega), wu64 (by omega) (by omega)]
        omega
      rw [ew, fr, or_parts _ F (by omega) hF, mul_parts _ _ F _ read_one (by omega) (by omega) hF]
      rw [if_pos Option.isSome_some, Option.getD_some]
      congr 2
      omega
theorem Ldexp_f (m : Nat) (e : Int) (h0 : 0 < m) (h1 : m ≤ 9007199254740992) (h2 : -1074 ≤ e) (h3 : e ≤ 4000) : math_Ldexp.f (floatOfInt .f64 (m : Int)) e = some (Ieee.double.nearest false m e) := by
  obtain ⟨L, F, hL, hF, hw, hn⟩ := whole_parts m h0 h1
  unfold math_Ldexp.f
  rw [ldexp_f _ L F e hw hL hF h2 h3, Option.bind_some, hn]
theorem Ldexp_zero (e : Int) : math_Ldexp.f (floatOfInt .f64 0) e = some 0 := by
  have z : floatOfInt .f64 0 = 0 := by decide
  unfold math_Ldexp.f math_ldexp.f
  rw [z, if_pos (by decide), Option.bind_some]
end Go.Proofs.YtdkhaibibpekoaaDoor.Pure
