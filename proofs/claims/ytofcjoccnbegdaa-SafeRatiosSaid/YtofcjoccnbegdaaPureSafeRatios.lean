/- A fraction is laid down in lowest terms, or refused just where it does not fit: at all pairs of 64 bit numbers. -/
import Derived.Test.YtofcjoccnbegdaaQ11
import Derived.Test.YtofcjoccnbegdaaQ12
import Derived.Test.YtofcjoccnbegdaaQ3
import Derived.Test.YtofcjoccnbegdaaNum
namespace Go.Proofs.Ytofcjoccnbegdaa.Pure
open Go.RowKit Go.Proofs.Ytofcjoccnbegdaa.Q Go.Proofs.Ytofcjoccnbegdaa.Q.Big Go.Proofs.Ytofcjoccnbegdaa.Num Go.Proofs.YtofcjoccnbegdaaW.PrintWords Go.Proofs.YtofcjoccnbegdaaW.PrintLast
set_option linter.unusedVariables false

theorem and1 (n : Int) : Go.bits .and .i64 n 1 = n % 2 := by
  have h1 : (BitVec.ofInt 64 1).toNat = 2 ^ 1 - 1 := by decide
  have key : (BitVec.ofInt 64 n &&& BitVec.ofInt 64 1).toNat = (n % ((2 ^ 64 : Nat) : Int)).toNat % 2 ^ 1 := by
    rw [BitVec.toNat_and, BitVec.toNat_ofInt, h1, Nat.and_two_pow_sub_one_eq_mod]
  show IntKind.i64.wrap ((BitVec.ofInt 64 n &&& BitVec.ofInt 64 1).toNat : Nat) = n % 2
  rw [key, IntKind.wrap_i64]
  omega
theorem rsize_nat {a : Int} (h : I64 a) : safeint_size.f a = some ((a.natAbs : Nat) : Int) := by
  unfold I64 at h
  unfold safeint_size.f
  by_cases c : a < 0
  · rw [if_pos c]; simp only [wu64]; congr 1; omega
  · rw [if_neg c]; simp only [wu64]; congr 1; omega
theorem rgcd_l0 : ∀ (y x k : Nat), y < k → safeint_Gcd.l0 k (x : Int) (y : Int) = some ((Nat.gcd x y : Nat) : Int) := by
  intro y
  induction y using Nat.strongRecOn with
  | ind y ih =>
    intro x k hk
    obtain ⟨k, rfl⟩ : ∃ m, k = m + 1 := ⟨k - 1, by omega⟩
    simp only [safeint_Gcd.l0]
    by_cases h0 : y = 0
    · subst h0; simp
    · rw [if_neg (by omega)]
      have hlt : x % y < y := Nat.mod_lt _ (by omega)
      rw [show Int.tmod (x : Int) (y : Int) = ((x % y : Nat) : Int) from (Int.ofNat_tmod x y).symm, ih (x % y) hlt y k (by omega)]
      congr 2
      rw [Nat.gcd_comm y, ← Nat.gcd_rec, Nat.gcd_comm]
theorem rgcd_f {a b : Int} (ha : I64 a) (hb : I64 b) (k : Nat) (hk : b.natAbs < k) :
    safeint_Gcd.f k a b = some ((Nat.gcd a.natAbs b.natAbs : Nat) : Int) := by
  unfold safeint_Gcd.f
  rw [rsize_nat ha, Option.bind_some, rsize_nat hb, Option.bind_some]
  exact rgcd_l0 _ _ _ hk

/-- What the program lays down for n/d. -/
def lowest (u v : Nat) (minus : Bool) : Int × Int × Int :=
  if 9223372036854775807 < v ∨ (9223372036854775807 < u ∧ minus = false) then (0, 0, 10) else (if minus then -(u : Int) else u, v, 0)
theorem j0_low (u v : Nat) (minus : Bool) (k : Nat) (hu : u ≤ 9223372036854775808) (hv : v ≤ 9223372036854775808) : safeint_NewRatio.j0 (k + 2) u v minus = some (lowest u v minus) := by
  have e1 : minus = true → u ≤ 9223372036854775808 → wrap64 (IntKind.u64.wrap (-(u : Int))) = -(u : Int) := fun _ h => by rw [wu64]; unfold wrap64; omega
  have e2 : u ≤ 9223372036854775807 → wrap64 (u : Int) = u := fun h => by unfold wrap64; omega
  have e3 : v ≤ 9223372036854775807 → wrap64 (v : Int) = v := fun h => by unfold wrap64; omega
  unfold lowest
  rw [safeint_NewRatio.j0]
  by_cases c1 : (v : Int) > 9223372036854775807
  · rw [if_pos c1, if_pos (Or.inl (by omega)), safeint_NewRatio.j1, if_pos rfl]
  · rw [if_neg c1]
    by_cases c2 : (u : Int) > 9223372036854775807
    · rw [if_pos c2]
      cases minus with
      | true =>
        have hue : u = 9223372036854775808 := by omega
        rw [if_pos rfl, if_pos rfl, safeint_NewRatio.j1, if_neg (by rw [hue]; decide), if_pos rfl, e1 rfl hu, e3 (by omega), if_neg (by simp; omega)]
      | false => rw [if_neg (by decide), safeint_NewRatio.j1, if_pos (by decide), if_pos (Or.inr ⟨by omega, rfl⟩)]
    · rw [if_neg c2, safeint_NewRatio.j1, if_neg (by decide), if_neg (show ¬ (9223372036854775807 < v ∨ 9223372036854775807 < u ∧ minus = false) from by omega)]
      cases minus with
      | true => rw [if_pos rfl, if_pos rfl, e1 rfl hu, e3 (by omega)]
      | false => rw [if_neg (by decide), if_neg (by decide), e2 (by omega), e3 (by omega)]
/-- The sign of n/d. -/
def minusOf (n d : Int) : Bool := if ((decide (n < 0)) != (decide (d < 0))) = true then (n != 0) else false
theorem natAbs_le {n : Int} (h : I64 n) : n.natAbs ≤ 9223372036854775808 := by unfold I64 at h; omega
theorem ratio_f {n d : Int} (hn : I64 n) (hd : I64 d) (h0 : d ≠ 0) (k : Nat) (hk : d.natAbs + 3 < k) :
    safeint_NewRatio.f k n d = some (lowest (n.natAbs / Nat.gcd n.natAbs d.natAbs) (d.natAbs / Nat.gcd n.natAbs d.natAbs) (minusOf n d)) := by
  have hg : Nat.gcd n.natAbs d.natAbs ≠ 0 := fun h => by have := Nat.eq_zero_of_gcd_eq_zero_right h; omega
  have q : ∀ x : Nat, x ≤ 9223372036854775808 → x / Nat.gcd n.natAbs d.natAbs ≤ 9223372036854775808 := fun x hx => Nat.le_trans (Nat.div_le_self _ _) hx
  have w : ∀ x : Nat, x ≤ 9223372036854775808 → IntKind.u64.wrap (Int.tdiv (x : Int) ((Nat.gcd n.natAbs d.natAbs : Nat) : Int)) = ((x / Nat.gcd n.natAbs d.natAbs : Nat) : Int) := fun x hx => by
    rw [show Int.tdiv (x : Int) ((Nat.gcd n.natAbs d.natAbs : Nat) : Int) = ((x / Nat.gcd n.natAbs d.natAbs : Nat) : Int) from (Int.ofNat_tdiv ..).symm, wu64]
    have := q x hx
    generalize x / Nat.gcd n.natAbs d.natAbs = y at *
    exact Int.emod_eq_of_lt (by omega) (by omega)
  unfold safeint_NewRatio.f minusOf
  rw [if_neg h0, rgcd_f hn hd k (by omega), Option.bind_some, rsize_nat hn, Option.bind_some, if_neg (by omega), rsize_nat hd, Option.bind_some, w _ (natAbs_le hn), w _ (natAbs_le hd)]
  obtain ⟨k, rfl⟩ : ∃ m, k = m + 2 := ⟨k - 2, by omega⟩
  split
  · exact j0_low _ _ _ k (q _ (natAbs_le hn)) (q _ (natAbs_le hd))
  · exact j0_low _ _ _ k (q _ (natAbs_le hn)) (q _ (natAbs_le hd))

theorem odd_of {a b : Nat} (h : Nat.gcd a b = 1) (hb : b = 9223372036854775808) : a % 2 = 1 := by
  rcases Nat.mod_two_eq_zero_or_one a with h0 | h1
  · exfalso
    have h2 : 2 ∣ Nat.gcd a b := Nat.dvd_gcd (Nat.dvd_of_mod_eq_zero h0) (by rw [hb]; decide)
    rw [h] at h2
    exact absurd h2 (by decide)
  · exact h1
theorem big_part {a g : Nat} (ha : a ≤ 9223372036854775808) (h : 9223372036854775807 < a / g) : g = 1 ∧ a = 9223372036854775808 := by
  rcases Nat.lt_or_ge g 2 with h2 | h2
  · rcases Nat.lt_or_ge g 1 with h1 | h1
    · obtain rfl : g = 0 := by omega
      simp at h
    · obtain rfl : g = 1 := by omega
      rw [Nat.div_one] at h
      exact ⟨rfl, by omega⟩
  · have : a / g ≤ a / 2 := Nat.div_le_div_left h2 (by decide)
    omega
theorem cross1 (g u v s t : Int) : (s * t * u) * (t * (g * v)) = (t * t) * ((s * (g * u)) * v) := by grind
theorem sign_abs (n : Int) : ∃ s : Int, (s = 1 ∨ s = -1) ∧ n = s * (n.natAbs : Int) ∧ (n < 0 → s = -1) ∧ (0 ≤ n → s = 1) := by
  by_cases h : n < 0
  · exact ⟨-1, .inr rfl, by omega, fun _ => rfl, fun h' => absurd h (by omega)⟩
  · exact ⟨1, .inl rfl, by omega, fun h' => absurd h' h, fun _ => rfl⟩
theorem cross {n d : Int} (h0 : d ≠ 0) :
    (if minusOf n d = true then -((n.natAbs / Nat.gcd n.natAbs d.natAbs : Nat) : Int) else ((n.natAbs / Nat.gcd n.natAbs d.natAbs : Nat) : Int)) * d = n * ((d.natAbs / Nat.gcd n.natAbs d.natAbs : Nat) : Int) := by
  obtain ⟨s, hs, en, sn, sp⟩ := sign_abs n
  obtain ⟨t, ht, ed, tn, tp⟩ := sign_abs d
  have eu : (n.natAbs : Int) = ((Nat.gcd n.natAbs d.natAbs : Nat) : Int) * ((n.natAbs / Nat.gcd n.natAbs d.natAbs : Nat) : Int) := by
    rw [← Int.natCast_mul, Nat.mul_div_cancel' (Nat.gcd_dvd_left _ _)]
  have ev : (d.natAbs : Int) = ((Nat.gcd n.natAbs d.natAbs : Nat) : Int) * ((d.natAbs / Nat.gcd n.natAbs d.natAbs : Nat) : Int) := by
    rw [← Int.natCast_mul, Nat.mul_div_cancel' (Nat.gcd_dvd_right _ _)]
  have em : (if minusOf n d = true then -((n.natAbs / Nat.gcd n.natAbs d.natAbs : Nat) : Int) else ((n.natAbs / Nat.gcd n.natAbs d.natAbs : Nat) : Int)) = s * t * ((n.natAbs / Nat.gcd n.natAbs d.natAbs : Nat) : Int) := by
    by_cases z : n = 0
    · have : ((n.natAbs / Nat.gcd n.natAbs d.natAbs : Nat) : Int) = 0 := by rw [z]; simp
      rw [this]; simp
    · unfold minusOf
      by_cases c1 : n < 0
      · by_cases c2 : d < 0
        · rw [sn c1, tn c2, decide_eq_true c1, decide_eq_true c2]; simp
        · rw [sn c1, tp (by omega), decide_eq_true c1, decide_eq_false c2]; simp [z]
      · by_cases c2 : d < 0
        · rw [sp (by omega), tn c2, decide_eq_false c1, decide_eq_true c2]; simp [z]
        · rw [sp (by omega), tp (by omega), decide_eq_false c1, decide_eq_false c2]; simp
  rw [em]
  generalize hu : ((n.natAbs / Nat.gcd n.natAbs d.natAbs : Nat) : Int) = u at *
  generalize hv : ((d.natAbs / Nat.gcd n.natAbs d.natAbs : Nat) : Int) = v at *
  generalize hg : ((Nat.gcd n.natAbs d.natAbs : Nat) : Int) = g at *
  have htt : t * t = 1 := by rcases ht with rfl | rfl <;> rfl
  calc s * t * u * d = s * t * u * (t * (g * v)) := by rw [← ev, ← ed]
    _ = (t * t) * ((s * (g * u)) * v) := cross1 g u v s t
    _ = n * v := by rw [htt, Int.one_mul, ← eu, ← en]

theorem j0_true {n d : Int} (hn : I64 n) (hd : I64 d) (k : Nat) (hk : d.natAbs + 100 < k) (hk2 : n.natAbs + d.natAbs + 100 < k) : compasslaw01_SafeRatios.j0 (k + 1) n d false = some true := by
  rw [compasslaw01_SafeRatios.j0, if_neg (by decide)]
  by_cases h0 : d = 0
  · subst h0
    unfold safeint_NewRatio.f
    rw [if_pos rfl, Option.bind_some, if_pos rfl, if_pos rfl]; rfl
  · rw [ratio_f hn hd h0 k (by omega), Option.bind_some, if_neg h0]
    have hg0 : 0 < Nat.gcd n.natAbs d.natAbs := Nat.gcd_pos_of_pos_right _ (by omega)
    have cop : Nat.gcd (n.natAbs / Nat.gcd n.natAbs d.natAbs) (d.natAbs / Nat.gcd n.natAbs d.natAbs) = 1 := Nat.gcd_div_gcd_div_gcd_of_pos_right (by omega)
    have hcross := cross (n := n) h0
    have hv0 : 0 < d.natAbs / Nat.gcd n.natAbs d.natAbs := Nat.div_pos (Nat.le_of_dvd (by omega) (Nat.gcd_dvd_right _ _)) hg0
    have hvk : d.natAbs / Nat.gcd n.natAbs d.natAbs ≤ d.natAbs := Nat.div_le_self _ _
    have huk : n.natAbs / Nat.gcd n.natAbs d.natAbs ≤ n.natAbs := Nat.div_le_self _ _
    by_cases big : 9223372036854775807 < d.natAbs / Nat.gcd n.natAbs d.natAbs ∨ (9223372036854775807 < n.natAbs / Nat.gcd n.natAbs d.natAbs ∧ minusOf n d = false)
    · have e : lowest (n.natAbs / Nat.gcd n.natAbs d.natAbs) (d.natAbs / Nat.gcd n.natAbs d.natAbs) (minusOf n d) = (0, 0, 10) := by unfold lowest; rw [if_pos big]
      rw [e, if_pos rfl, if_pos (by decide), and1, and1]
      rcases big with b | ⟨b, m⟩
      · have ⟨g1, dm⟩ := big_part (natAbs_le hd) b
        have od := odd_of g1 dm
        have dmin : d = -9223372036854775808 := by unfold I64 at hd; omega
        rw [if_neg (by omega), if_pos dmin]
      · have ⟨g1, nm⟩ := big_part (natAbs_le hn) b
        have od := odd_of (by rw [Nat.gcd_comm]; exact g1) nm
        have nmin : n = -9223372036854775808 := by unfold I64 at hn; omega
        have dneg : d < 0 := by
          by_cases c : d < 0
          · exact c
          · exfalso
            unfold minusOf at m
            rw [decide_eq_true (show n < 0 by omega), decide_eq_false c, if_pos (by decide)] at m
            rw [nmin] at m
            exact absurd m (by decide)
        rw [if_pos (by omega), if_pos nmin, if_pos dneg]
        congr 1
        simp only [bne_iff_ne, ne_eq]
        omega
    · have hu64 : n.natAbs / Nat.gcd n.natAbs d.natAbs ≤ 9223372036854775808 := Nat.le_trans huk (natAbs_le hn)
      generalize n.natAbs / Nat.gcd n.natAbs d.natAbs = u at *
      generalize d.natAbs / Nat.gcd n.natAbs d.natAbs = V at *
      have e : lowest (u) (V) (minusOf n d) = ((if minusOf n d = true then -((u : Nat) : Int) else ((u : Nat) : Int)), ((V : Nat) : Int), 0) := by unfold lowest; rw [if_neg big]
      have iu : I64 (if minusOf n d = true then -((u : Nat) : Int) else ((u : Nat) : Int)) := by
        unfold I64
        split
        · omega
        · rename_i c
          have hm : minusOf n d = false := by simpa using c
          have hnot : ¬ 9223372036854775807 < u := fun h => big (.inr ⟨h, hm⟩)
          omega
      have iv : I64 ((V : Nat) : Int) := by
        have hnot : ¬ 9223372036854775807 < V := fun h => big (.inl h)
        unfold I64; omega
      have au : (if minusOf n d = true then -((u : Nat) : Int) else ((u : Nat) : Int)).natAbs = u := by split <;> omega
      rw [e]
      generalize hU : (if minusOf n d = true then -((u : Nat) : Int) else ((u : Nat) : Int)) = U at *
      have hp : (dig (n * (V : Int)).natAbs).length ≤ 16 := Nat.le_trans (len8 (by have := mul_natAbs_lt hn iv; omega)) (by decide)
      rw [if_neg (by show ¬ ((0 : Int) = 10); decide), of64 iu k (by omega), Option.bind_some, of64 hd k (by omega), Option.bind_some, times64 iu hd k (by omega), Option.bind_some, of64 hn k (by omega), Option.bind_some,
        of64 iv k (by omega), Option.bind_some, times64 hn iv k (by omega), Option.bind_some, if_pos rfl, if_pos (by show (V : Int) > 0; omega), rgcd_f iu iv k (by simp; omega), Option.bind_some, au, Int.natAbs_natCast, cop, if_pos (by rfl),
        hcross, compare16 hp hp k (by omega), Option.bind_some]
      unfold sgn
      simp

theorem SafeRatios : compasslaw01_SafeRatios.Pure := by
  intro n d wn wd
  refine ⟨(n.natAbs + d.natAbs + 100) + 100 + 1, ?_⟩
  generalize hk : (n.natAbs + d.natAbs + 100) + 100 = k
  unfold compasslaw01_SafeRatios.f
  rw [ratio_f (n := 6) (d := -4) (by unfold I64; decide) (by unfold I64; decide) (by decide) (k + 1) (by simp; omega), Option.bind_some,
    show lowest ((6 : Int).natAbs / Nat.gcd (6 : Int).natAbs (-4 : Int).natAbs) ((-4 : Int).natAbs / Nat.gcd (6 : Int).natAbs (-4 : Int).natAbs) (minusOf 6 (-4)) = (-3, 2, 0) from by decide,
    if_neg (by decide), if_pos rfl, rgcd_f (a := 12) (b := 18) (by unfold I64; decide) (by unfold I64; decide) (k + 1) (by simp; omega), Option.bind_some,
    show (((Nat.gcd (12 : Int).natAbs (18 : Int).natAbs : Nat) : Int) != 6) = false from by decide]
  exact j0_true (wf_I64 wn) (wf_I64 wd) k (by omega) (by omega)
end Go.Proofs.Ytofcjoccnbegdaa.Pure
