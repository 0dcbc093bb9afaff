/- What Quotient answers. -/
import Derived.Test.YtdkhaibibpekoaaDoorQ12
import Derived.Test.YtdkhaibibpekoaaDoorQ13
import Derived.Test.YtdkhaibibpekoaaDoorQ14
import Derived.Test.YtdkhaibibpekoaaDoorQ6
import Derived.Test.YtdkhaibibpekoaaDoorDivP
namespace Go.Proofs.YtdkhaibibpekoaaDoor.Pure
open Go.RowKit Go.Flt Go.Proofs.YtdkhaibibpekoaaDoor.Q Go.Proofs.YtdkhaibibpekoaaDoorW.PrintWords Go.Proofs.YtdkhaibibpekoaaDoorW.PrintLast Go.Proofs.YtdkhaibibpekoaaDoorW.PrintMore
set_option linter.unusedVariables false
theorem and32 (n : Nat) (h : n < 18446744073709551616) : Go.bits .and .u64 (n : Int) 4294967295 = ((n % 4294967296 : Nat) : Int) := by
  rw [show (4294967295 : Int) = ((4294967295 : Nat) : Int) by rfl, bits_and_u64_nat _ _ h (by decide)]
  have := Nat.and_two_pow_sub_one_eq_mod n 32
  rw [show (4294967295 : Nat) = 2 ^ 32 - 1 by rfl, this]
theorem wrap3 {R v q y : Nat} (h : q * y ≤ R * 4294967296 + v) (h2 : R * 4294967296 + v - q * y < 18446744073709551616) :
    IntKind.u64.wrap ((IntKind.u64.wrap ((IntKind.u64.wrap ((R : Int) * 4294967296)) + (v : Int))) - (IntKind.u64.wrap ((q : Int) * (y : Int)))) = ((R * 4294967296 + v - q * y : Nat) : Int) := by
  rw [← Int.natCast_mul]
  generalize q * y = Z at *
  simp only [IntKind.wrap_u64]
  omega
theorem aux_tot {A B U V R X : Nat} (e : A + R * 4294967296 = (U * 4294967296 + V / 4294967296) * 4294967296) (d : B + X = R * 4294967296 + V % 4294967296) : U * 18446744073709551616 + V = A + B + X := by omega
theorem sub_mul_div {U y q : Nat} (hq : q = U / y) : U - q * y = U % y := by
  subst hq
  have := Nat.div_add_mod U y
  rw [Nat.mul_comm] at this
  omega
theorem Div64_f (hi lo y : Nat) (h : hi < y) (hy : y < 18446744073709551616) (hlo : lo < 18446744073709551616) : Evl (fun k => bits_Div64.f k (hi : Int) (lo : Int) (y : Int)) ((((hi * 18446744073709551616 + lo) / y : Nat) : Int), (((hi * 18446744073709551616 + lo) % y : Nat) : Int)) := by
  obtain ⟨b0, b1, b2, b3⟩ := bitLen_bounds y (by omega) hy
  by_cases z : hi = 0
  · subst z
    refine Evl.pure.congr fun k => ?_
    unfold bits_Div64.f
    rw [if_neg (by omega), if_neg (by omega), if_pos (by rfl), Nat.zero_mul, Nat.zero_add]
    rw [show ((lo : Int).tdiv (y : Int)) = ((lo / y : Nat) : Int) from rfl, show ((lo : Int).tmod (y : Int)) = ((lo % y : Nat) : Int) from rfl, un _ (Nat.lt_of_le_of_lt (Nat.div_le_self _ _) hlo)]
  · obtain ⟨s, hs⟩ : ∃ s, s = 64 - Lib.bitLen y := ⟨_, rfl⟩
    have sp := Nat.two_pow_pos s
    have p64 : 2 ^ s * 2 ^ (64 - s) = 18446744073709551616 := by rw [← Nat.pow_add, show s + (64 - s) = 64 by omega]
    have y0 : 9223372036854775808 ≤ y * 2 ^ s := by
      have := Nat.mul_le_mul_right (2 ^ s) b2
      rw [← Nat.pow_add, show Lib.bitLen y - 1 + s = 63 by omega] at this
      exact this
    have y1 : y * 2 ^ s < 18446744073709551616 := by
      have := Nat.mul_lt_mul_of_pos_right b3 sp
      rw [← Nat.pow_add, show Lib.bitLen y + s = 64 by omega] at this
      exact this
    have lq : lo / 2 ^ (64 - s) < 2 ^ s := by
      rw [Nat.div_lt_iff_lt_mul (Nat.two_pow_pos _), p64]; exact hlo
    have U1 : hi * 2 ^ s + lo / 2 ^ (64 - s) < y * 2 ^ s := by
      have := Nat.mul_le_mul_right (2 ^ s) (show hi + 1 ≤ y by omega)
      rw [Nat.add_mul, Nat.one_mul] at this
      omega
    have lm : lo * 2 ^ s = lo / 2 ^ (64 - s) * 18446744073709551616 + lo * 2 ^ s % 18446744073709551616 := by
      have e : lo * 2 ^ s / 18446744073709551616 = lo / 2 ^ (64 - s) := by
        rw [← p64, Nat.mul_comm lo, Nat.mul_div_mul_left _ _ sp]
      have := Nat.div_add_mod (lo * 2 ^ s) 18446744073709551616
      rw [e] at this
      omega
    have all : (hi * 2 ^ s + lo / 2 ^ (64 - s)) * 18446744073709551616 + lo * 2 ^ s % 18446744073709551616 = (hi * 18446744073709551616 + lo) * 2 ^ s := by
      rw [Nat.add_mul (hi * 18446744073709551616), lm, Nat.add_mul (hi * 2 ^ s), Nat.mul_right_comm hi]
      omega
    have or_eq : Go.bits .or .u64 ((hi * 2 ^ s : Nat) : Int) ((lo / 2 ^ (64 - s) : Nat) : Int) = ((hi * 2 ^ s + lo / 2 ^ (64 - s) : Nat) : Int) := by
      rw [bits_or_u64_nat _ _ (by omega) (by omega), Nat.mul_comm hi, Nat.two_pow_add_eq_or_of_lt lq]
    have hi1 : hi * 2 ^ s % 18446744073709551616 = hi * 2 ^ s := Nat.mod_eq_of_lt (by omega)
    have v1 : lo * 2 ^ s % 18446744073709551616 < 18446744073709551616 := Nat.mod_lt _ (by decide)
    have lz : bits_LeadingZeros64.f (y : Int) = some (s : Int) := by
      unfold bits_LeadingZeros64.f
      rw [len_f y hy, Option.bind_some, w64 (by omega) (by omega), hs]
      congr 1
      omega
    obtain ⟨Y, eY⟩ : ∃ Y, Y = y * 2 ^ s := ⟨_, rfl⟩
    obtain ⟨U, eU⟩ : ∃ U, U = hi * 2 ^ s + lo / 2 ^ (64 - s) := ⟨_, rfl⟩
    obtain ⟨V, eV⟩ : ∃ V, V = lo * 2 ^ s % 18446744073709551616 := ⟨_, rfl⟩
    rw [← eY] at y0 y1 U1
    rw [← eU, ← eV] at all
    rw [← eU] at or_eq U1
    rw [← eV] at v1
    have H : Half Y (Y / 4294967296) (Y % 4294967296) U (V / 4294967296) := ⟨by omega, by omega, by omega, by omega, U1, by omega⟩
    have QB := H.q_lt
    obtain ⟨Q, eQ⟩ : ∃ Q, Q = (U * 4294967296 + V / 4294967296) / Y := ⟨_, rfl⟩
    obtain ⟨R, eR⟩ : ∃ R, R = (U * 4294967296 + V / 4294967296) % Y := ⟨_, rfl⟩
    have R1 : R < Y := by rw [eR]; exact Nat.mod_lt _ (by omega)
    have dm := Nat.div_add_mod (U * 4294967296 + V / 4294967296) Y
    rw [← eQ, ← eR] at dm
    have H2 : Half Y (Y / 4294967296) (Y % 4294967296) R (V % 4294967296) := ⟨by omega, by omega, by omega, by omega, R1, by omega⟩
    have q2 := H2.q_lt
    have fin := (l1_f (s := s) (Q := Q) H2 4294967296 _ _ (H2.start (by omega)) (by omega))
    have beg := l0_f (v := V % 4294967296) (s := s) H (divEnd Y s (V % 4294967296) Q R ((R * 4294967296 + V % 4294967296) / Y)) (fin.step fun k => by
      rw [bits_Div64.j2, if_neg (by omega), ← eQ]
      have e1 : IntKind.u64.wrap ((IntKind.u64.wrap ((IntKind.u64.wrap ((U : Int) * 4294967296)) + ((V / 4294967296 : Nat) : Int))) - (IntKind.u64.wrap ((Q : Int) * (Y : Int)))) = (R : Int) := by
        have lt : Q * Y ≤ U * 4294967296 + V / 4294967296 := by rw [eQ]; exact Nat.div_mul_le_self _ _
        have ee : U * 4294967296 + V / 4294967296 - Q * Y = R := by rw [eR]; exact sub_mul_div eQ
        rw [wrap3 lt (by omega), ee]
      rw [e1, show ((R : Int).tdiv ((Y / 4294967296 : Nat) : Int)) = ((R / (Y / 4294967296) : Nat) : Int) from rfl, un _ (Nat.lt_of_le_of_lt (Nat.div_le_self _ _) (by omega)), ← Int.natCast_mul]
      have lt2 := Nat.div_mul_le_self R (Y / 4294967296)
      have ee2 := sub_mul_div (U := R) (y := Y / 4294967296) rfl
      rw [un _ (by omega), show ((R : Int) - ((R / (Y / 4294967296) * (Y / 4294967296) : Nat) : Int)) = ((R % (Y / 4294967296) : Nat) : Int) by omega, un _ (Nat.lt_of_le_of_lt (Nat.mod_le _ _) (by omega))]) 4294967296 _ _ (H.start (by omega)) (by omega)
    have res : divEnd Y s (V % 4294967296) Q R ((R * 4294967296 + V % 4294967296) / Y) = ((((hi * 18446744073709551616 + lo) / y : Nat) : Int), (((hi * 18446744073709551616 + lo) % y : Nat) : Int)) := by
      obtain ⟨q, eq⟩ : ∃ q, q = (R * 4294967296 + V % 4294967296) / Y := ⟨_, rfl⟩
      rw [← eq] at q2 ⊢
      have dm2 := Nat.div_add_mod (R * 4294967296 + V % 4294967296) Y
      have lt : q * Y ≤ R * 4294967296 + V % 4294967296 := by rw [eq]; exact Nat.div_mul_le_self _ _
      have ee := sub_mul_div eq
      have r2 : (R * 4294967296 + V % 4294967296) % Y < Y := Nat.mod_lt _ (by omega)
      unfold divEnd
      rw [wrap3 lt (by omega), ee, shr_u64 _ s (by omega), show ((Q : Int) * 4294967296) = ((Q * 4294967296 : Nat) : Int) by omega, un _ (by omega), ← Int.natCast_add, un _ (by omega)]
      have tot : (hi * 18446744073709551616 + lo) * 2 ^ s = Y * (Q * 4294967296 + q) + (R * 4294967296 + V % 4294967296) % Y := by
        rw [← all, Nat.mul_add, ← Nat.mul_assoc]
        rw [← eq] at dm2
        have e3 : Y * Q * 4294967296 + R * 4294967296 = (U * 4294967296 + V / 4294967296) * 4294967296 := by rw [← dm, Nat.add_mul]
        exact aux_tot e3 dm2
      have dq : (hi * 18446744073709551616 + lo) / y = Q * 4294967296 + q := by
        rw [← Nat.mul_div_mul_right _ _ sp, tot, ← eY, Nat.mul_add_div (by omega), Nat.div_eq_of_lt r2, Nat.add_zero]
      have dr : (hi * 18446744073709551616 + lo) % y * 2 ^ s = (R * 4294967296 + V % 4294967296) % Y := by
        rw [← Nat.mul_mod_mul_right, tot, ← eY, Nat.mul_add_mod, Nat.mod_eq_of_lt r2]
      rw [dq, ← dr, Nat.mul_div_cancel _ sp]
    rw [res] at beg
    refine beg.congr fun k => ?_
    unfold bits_Div64.f
    rw [if_neg (by omega), if_neg (by omega), if_neg (by omega), lz, Option.bind_some, un s (by omega), show (64 - (s : Int)) = ((64 - s : Nat) : Int) by omega, un _ (by omega), if_pos (by omega), if_pos (by omega), shl_u64 y s (by omega), Nat.mod_eq_of_lt (show y * 2 ^ s < 18446744073709551616 by omega), ← eY, shl_u64 hi s (by omega), hi1, shl_u64 lo s (by omega), ← eV, shr_u64 lo _ (by omega), or_eq]
    rw [show ((Y : Int) / 4294967296) = ((Y / 4294967296 : Nat) : Int) from rfl, if_neg (by omega), and32 Y y1, and32 V v1, show ((V : Int) / 4294967296) = ((V / 4294967296 : Nat) : Int) from rfl]
    rw [show ((U : Int).tdiv ((Y / 4294967296 : Nat) : Int)) = ((U / (Y / 4294967296) : Nat) : Int) from rfl, un _ (Nat.lt_of_le_of_lt (Nat.div_le_self _ _) (by omega)), ← Int.natCast_mul]
    have lt2 := Nat.div_mul_le_self U (Y / 4294967296)
    have ee2 := sub_mul_div (U := U) (y := Y / 4294967296) rfl
    rw [un _ (show U / (Y / 4294967296) * (Y / 4294967296) < 18446744073709551616 by omega), show ((U : Int) - ((U / (Y / 4294967296) * (Y / 4294967296) : Nat) : Int)) = ((U % (Y / 4294967296) : Nat) : Int) by omega, un _ (Nat.lt_of_le_of_lt (Nat.mod_le _ _) (by omega))]
end Go.Proofs.YtdkhaibibpekoaaDoor.Pure
