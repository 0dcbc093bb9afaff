/- The greatest common divisor that the program tells divides both numbers, and every other common divisor divides it; at all 64 bit numbers. -/
import Derived.Test.YtofcjoccnbegdaaPSafeGcdsx1
import Derived.IntWalk
namespace Go.Proofs.Ytofcjoccnbegdaa.Pure
open Go.RowKit Go.Proofs.Ytofcjoccnbegdaa.PSafeGcds Go.Proofs.YtofcjoccnbegdaaW.PrintWords Go.Proofs.YtofcjoccnbegdaaW.PrintLast

theorem wf_bounds {a : Int} (h : (Lit.int .i64 a).wf = true) : -9223372036854775808 ≤ a ∧ a ≤ 9223372036854775807 := by
  simpa [Lit.wf, IntKind.min, IntKind.max, IntKind.signed, IntKind.bits] using h
theorem wu64 (n : Int) : IntKind.u64.wrap n = n % 18446744073709551616 := by simp [IntKind.wrap, IntKind.bits, IntKind.signed]
theorem size_nat {a : Int} (h : (Lit.int .i64 a).wf = true) : safeint_size.f a = some ((a.natAbs : Nat) : Int) := by
  have := wf_bounds h
  unfold safeint_size.f
  by_cases c : a < 0
  · rw [if_pos c]; simp only [wu64]; congr 1; omega
  · rw [if_neg c]; simp only [wu64]; congr 1; omega
theorem magnitude_nat {a : Int} (h : (Lit.int .i64 a).wf = true) : compasslaw01_magnitude.f a = some ((a.natAbs : Nat) : Int) := by
  have := wf_bounds h
  unfold compasslaw01_magnitude.f
  by_cases c : a < 0
  · rw [if_pos c]; simp only [wu64, wrap64]; congr 1; omega
  · rw [if_neg c]; simp only [wu64]; congr 1; omega
theorem gcd_l0 : ∀ (y x k : Nat), y < k → safeint_Gcd.l0 k (x : Int) (y : Int) = some ((Nat.gcd x y : Nat) : Int) := by
  intro y
  induction y using Nat.strongRecOn with
  | ind y ih =>
    intro x k hk
    obtain ⟨k, rfl⟩ : ∃ m, k = m + 1 := ⟨k - 1, by omega⟩
    simp only [safeint_Gcd.l0]
    by_cases h0 : y = 0
    · subst h0; simp
    · rw [if_neg (by omega)]
      have hlt : x % y < y := Nat.mod_lt _ (by omega)
      rw [show Int.tmod (x : Int) (y : Int) = ((x % y : Nat) : Int) from (Int.ofNat_tmod x y).symm, ih (x % y) hlt y k (by omega)]
      congr 2
      rw [Nat.gcd_comm y, ← Nat.gcd_rec, Nat.gcd_comm]
theorem gcd_f {a b : Int} (ha : (Lit.int .i64 a).wf = true) (hb : (Lit.int .i64 b).wf = true) (k : Nat) (hk : b.natAbs < k) :
    safeint_Gcd.f k a b = some ((Nat.gcd a.natAbs b.natAbs : Nat) : Int) := by
  unfold safeint_Gcd.f
  rw [size_nat ha, size_nat hb]
  simp only [Option.bind_some]
  exact gcd_l0 _ _ _ hk
theorem tmod_dvd {g x : Nat} (h : g ∣ x) : Int.tmod (x : Int) (g : Int) = 0 := by
  rw [show Int.tmod (x : Int) (g : Int) = ((x % g : Nat) : Int) from (Int.ofNat_tmod x g).symm, Nat.mod_eq_zero_of_dvd h]; rfl
theorem dvd_tmod {g x : Nat} (h : Int.tmod (x : Int) (g : Int) = 0) : g ∣ x := by
  rw [show Int.tmod (x : Int) (g : Int) = ((x % g : Nat) : Int) from (Int.ofNat_tmod x g).symm] at h
  exact Nat.dvd_of_mod_eq_zero (by omega)

theorem SafeGcds : compasslaw01_SafeGcds.Pure := by
  intro a b c wa wb wc
  refine ⟨b.natAbs + 40, ?_⟩
  unfold compasslaw01_SafeGcds.f
  rw [gcd_f (a := 12) (b := 18) (by decide) (by decide) _ (by simp)]
  simp only [Option.bind_some]
  rw [if_pos (by decide)]
  rw [gcd_f (a := 0) (b := 0) (by decide) (by decide) _ (by simp)]
  simp only [Option.bind_some]
  rw [show (((Nat.gcd (Int.natAbs 0) (Int.natAbs 0) : Nat) : Int) != 0) = false from by decide]
  rw [show b.natAbs + 40 = (b.natAbs + 39) + 1 from rfl]
  simp only [compasslaw01_SafeGcds.j0]
  rw [if_neg (by decide), gcd_f wa wb _ (by omega)]
  simp only [Option.bind_some]
  have hx : Nat.gcd a.natAbs b.natAbs ∣ a.natAbs := Nat.gcd_dvd_left _ _
  have hy : Nat.gcd a.natAbs b.natAbs ∣ b.natAbs := Nat.gcd_dvd_right _ _
  have tail : (a = 0 → b ≠ 0) → compasslaw01_SafeGcds.j1 (b.natAbs + 39) a b c ((Nat.gcd a.natAbs b.natAbs : Nat) : Int) false = some true := by
    intro hn
    have hg : Nat.gcd a.natAbs b.natAbs ≠ 0 := by
      intro h
      have h1 := Nat.eq_zero_of_gcd_eq_zero_left h
      have h2 := Nat.eq_zero_of_gcd_eq_zero_right h
      exact hn (by omega) (by omega)
    rw [show b.natAbs + 39 = (b.natAbs + 38) + 1 from rfl]
    simp only [compasslaw01_SafeGcds.j1]
    rw [if_neg (by decide), if_neg (by omega), magnitude_nat wa, magnitude_nat wb, magnitude_nat wc]
    simp only [Option.bind_some]
    rw [if_pos (tmod_dvd hx), if_pos (tmod_dvd hy)]
    split
    · rfl
    · split
      · split
        · rename_i h1 h2
          rw [tmod_dvd (Nat.dvd_gcd (dvd_tmod h1) (dvd_tmod h2))]; rfl
        · rfl
      · rfl
  by_cases ha : a = 0
  · rw [if_pos ha]
    by_cases hb : b = 0
    · subst ha; subst hb
      rw [show ((0 : Int) == 0) = true from rfl]
      rw [show (Int.natAbs 0) + 39 = 38 + 1 from rfl]
      simp only [compasslaw01_SafeGcds.j1]
      rfl
    · rw [show (b == 0) = false from beq_eq_false_iff_ne.mpr hb]
      exact tail fun _ => hb
  · rw [if_neg ha]
    exact tail fun h => absurd h ha

end Go.Proofs.Ytofcjoccnbegdaa.Pure
