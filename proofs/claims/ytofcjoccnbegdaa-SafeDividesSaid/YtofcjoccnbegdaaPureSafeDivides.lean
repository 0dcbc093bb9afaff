/- A quotient is rounded down, and with what is left gives the number again; refused at 0 and at the one pair whose quotient does not fit: at all 64 bit numbers. -/
import Derived.Test.YtofcjoccnbegdaaQ10
import Derived.Test.YtofcjoccnbegdaaBig
namespace Go.Proofs.Ytofcjoccnbegdaa.Pure
open Go.RowKit Go.Proofs.Ytofcjoccnbegdaa.Q Go.Proofs.Ytofcjoccnbegdaa.Q.Big Go.Proofs.YtofcjoccnbegdaaW.PrintWords Go.Proofs.YtofcjoccnbegdaaW.PrintLast

set_option linter.unusedVariables false
theorem wf_bounds {a : Int} (h : (Lit.int .i64 a).wf = true) : -9223372036854775808 ≤ a ∧ a ≤ 9223372036854775807 := by
  simpa [Lit.wf, IntKind.min, IntKind.max, IntKind.signed, IntKind.bits] using h
theorem B4 : B 4 = 18446744073709551616 := by decide
theorem B8 : B 8 = 340282366920938463463374607431768211456 := by decide
theorem len4 {z : Int} (h : z.natAbs < 18446744073709551616) : (dig z.natAbs).length ≤ 4 := dig_len_le _ _ (by rw [B4]; omega)
theorem len8 {z : Int} (h : z.natAbs < 340282366920938463463374607431768211456) : (dig z.natAbs).length ≤ 8 := dig_len_le _ _ (by rw [B8]; omega)
def I64 (a : Int) : Prop := -9223372036854775808 ≤ a ∧ a ≤ 9223372036854775807
theorem I64.len {a : Int} (h : I64 a) : (dig a.natAbs).length ≤ 4 := len4 (by unfold I64 at h; omega)
theorem mul_natAbs_lt {a b : Int} (ha : I64 a) (hb : I64 b) : (a * b).natAbs ≤ 85070591730234615865843651857942052864 := by
  rw [Int.natAbs_mul]
  have h1 : a.natAbs ≤ 9223372036854775808 := by unfold I64 at ha; omega
  have h2 : b.natAbs ≤ 9223372036854775808 := by unfold I64 at hb; omega
  exact Nat.mul_le_mul h1 h2
theorem of64 {z : Int} (h : I64 z) (k : Nat) (hk : 60 ≤ k) : compassref01_Of.f k z = some (big z) := of_f z h.1 h.2 k (by omega)
theorem times64 {x y : Int} (hx : I64 x) (hy : I64 y) (k : Nat) (hk : 60 ≤ k) : compassref01_Times.f k (big x).1 (big x).2 (big y).1 (big y).2 = some (big (x * y)) := by
  have h1 := hx.len
  have h2 := hy.len
  refine times_f x y k (by omega) (by omega) ?_
  have : (dig x.natAbs).length * ((dig y.natAbs).length + 4) ≤ 4 * 8 := Nat.mul_le_mul h1 (by omega)
  omega
theorem plus8 {x y : Int} (hx : (dig x.natAbs).length ≤ 8) (hy : (dig y.natAbs).length ≤ 8) (k : Nat) (hk : 60 ≤ k) : compassref01_Plus.f k (big x).1 (big x).2 (big y).1 (big y).2 = some (big (x + y)) :=
  plus_f x y k (by omega) (by omega) (by omega)
theorem compare16 {x y : Int} (hx : (dig x.natAbs).length ≤ 16) (hy : (dig y.natAbs).length ≤ 16) (k : Nat) (hk : 60 ≤ k) : compassref01_Compare.f k (big x).1 (big x).2 (big y).1 (big y).2 = some (sgn x y) :=
  compare_f x y k (by omega) (by omega) (by omega) (by omega)

theorem div_zero (a : Int) (k : Nat) : safeint_Div.f k a 0 = some (0, 0, 11) := by unfold safeint_Div.f; rfl
theorem div_wrap (k : Nat) (hk : 0 < k) : safeint_Div.f k (-9223372036854775808) (-1) = some (0, 0, 10) := by
  obtain ⟨k, rfl⟩ : ∃ m, k = m + 1 := ⟨k - 1, by omega⟩
  rfl
theorem tdiv_bound (a b : Int) (hb : b ≠ 0) : (a.tdiv b).natAbs ≤ a.natAbs ∧ (2 ≤ b.natAbs → (a.tdiv b).natAbs ≤ a.natAbs / 2) := by
  rw [Int.natAbs_tdiv]
  exact ⟨Nat.div_le_self _ _, fun h => Nat.div_le_div_left h (by omega)⟩
theorem tmod_facts (a b : Int) (hb : b ≠ 0) : b * a.tdiv b + a.tmod b = a ∧ (a.tmod b).natAbs < b.natAbs ∧ (0 ≤ a → 0 ≤ a.tmod b) ∧ (a ≤ 0 → a.tmod b ≤ 0) ∧ (b.natAbs = 1 → a.tmod b = 0) := by
  have h1 : (a.tmod b).natAbs < b.natAbs := by
    rw [Int.natAbs_tmod]; exact Nat.mod_lt _ (by omega)
  refine ⟨Int.mul_tdiv_add_tmod a b, h1, fun h => Int.tmod_nonneg b h, fun h => ?_, fun h => by omega⟩
  have := Int.tmod_nonneg b (show 0 ≤ -a by omega)
  rw [Int.neg_tmod] at this
  omega
theorem div_else (a b : Int) (ha : I64 a) (hb : I64 b) (h0 : b ≠ 0) (h1 : ¬ (a = -9223372036854775808 ∧ b = -1)) (k : Nat) (hk : 0 < k) :
    ∃ q r, safeint_Div.f k a b = some (q, r, 0) ∧ q * b + r = a ∧ (0 < b → 0 ≤ r ∧ r < b) ∧ (b < 0 → r ≤ 0 ∧ b < r) ∧ I64 q ∧ I64 r := by
  obtain ⟨k, rfl⟩ : ∃ m, k = m + 1 := ⟨k - 1, by omega⟩
  have hj : safeint_Div.f (k + 1) a b = safeint_Div.j0 (k + 1) a b false := by
    unfold safeint_Div.f
    rw [if_neg h0]
    by_cases h : a = -9223372036854775808
    · rw [if_pos h, beq_eq_false_iff_ne.mpr (fun h2 => h1 ⟨h, h2⟩)]
    · rw [if_neg h]
  rw [hj]
  simp only [safeint_Div.j0]
  rw [if_neg (by simp), if_neg h0]
  obtain ⟨e, hm, hp, hn, h11⟩ := tmod_facts a b h0
  obtain ⟨b1, b2⟩ := tdiv_bound a b h0
  unfold I64 at *
  have hq : wrap64 (a.tdiv b) = a.tdiv b ∨ False := by
    left
    refine wr64 (by omega) ?_
    rcases Int.lt_or_le 9223372036854775807 (a.tdiv b) with h | h
    · exfalso
      have e1 : a.natAbs = 9223372036854775808 := by omega
      have e2 : b.natAbs = 1 := by
        rcases Nat.lt_or_ge 1 b.natAbs with h2 | h2
        · have := b2 h2; omega
        · omega
      have hz := h11 e2
      rcases (show b = 1 ∨ b = -1 by omega) with rfl | rfl
      · omega
      · exact h1 ⟨by omega, rfl⟩
    · exact h
  have hq := hq.resolve_right id
  by_cases hr : a.tmod b = 0
  · rw [if_pos hr, hq]
    refine ⟨_, _, rfl, by rw [Int.mul_comm]; omega, fun h => by omega, fun h => by omega, ?_, by omega⟩
    have := wr64 (n := a.tdiv b) 
    constructor
    · omega
    · unfold wrap64 at hq; omega
  · rw [if_neg hr]
    have h2 : 2 ≤ b.natAbs := by
      rcases Nat.lt_or_ge 1 b.natAbs with h2 | h2
      · exact h2
      · exact absurd (h11 (by omega)) hr
    have b3 := b2 h2
    split
    · rename_i hs
      have hs' : ¬ (a.tmod b < 0 ↔ b < 0) := by simpa [bne_iff_ne] using hs
      rw [hq, wr64 (n := a.tdiv b - 1) (by omega) (by omega), wr64 (n := a.tmod b + b) (by omega) (by omega)]
      refine ⟨_, _, rfl, ?_, fun h => by omega, fun h => by omega, by omega, by omega⟩
      rw [Int.sub_mul, Int.one_mul, Int.mul_comm]; omega
    · rename_i hs
      have hs' : (a.tmod b < 0 ↔ b < 0) := by simpa using hs
      rw [hq]
      refine ⟨_, _, rfl, by rw [Int.mul_comm]; omega, fun h => by omega, fun h => by omega, by omega, by omega⟩

theorem SafeDivides : compasslaw01_SafeDivides.Pure := by
  intro a b wa wb
  have ha : I64 a := wf_bounds wa
  have hb : I64 b := wf_bounds wb
  refine ⟨202, ?_⟩
  unfold compasslaw01_SafeDivides.f
  have h72 : safeint_Div.f 202 (-7) 2 = some (-4, 1, 0) := by decide +kernel
  rw [h72]
  simp only [Option.bind_some, if_true]
  simp only [compasslaw01_SafeDivides.j0]
  rw [if_neg (by decide)]
  by_cases h0 : b = 0
  · subst h0
    rw [div_zero]
    simp
  by_cases h1 : a = -9223372036854775808 ∧ b = -1
  · obtain ⟨rfl, rfl⟩ := h1
    rw [div_wrap _ (by omega)]
    simp only [Option.bind_some]
    simp [compasslaw01_SafeDivides.j1]
  · obtain ⟨q, r, hd, he, hp, hn, hq, hr⟩ := div_else a b ha hb h0 h1 201 (by decide)
    rw [hd]
    simp only [Option.bind_some]
    rw [if_neg h0]
    have l1 := ha.len
    have l2 := hr.len
    have hqb := mul_natAbs_lt hq hb
    have l3 : (dig (q * b).natAbs).length ≤ 8 := len8 (Nat.lt_of_le_of_lt hqb (by decide))
    clear hqb
    have tail : compasslaw01_SafeDivides.j1 201 a b q r 0 false = some true := by
      simp only [compasslaw01_SafeDivides.j1]
      rw [if_neg (by decide), of64 hq 200 (by decide), Option.bind_some, of64 hb 200 (by decide), Option.bind_some, times64 hq hb 200 (by decide), Option.bind_some, of64 hr 200 (by decide), Option.bind_some,
        plus8 l3 (Nat.le_trans l2 (by decide)) 200 (by decide), Option.bind_some, he, if_pos trivial, of64 ha 200 (by decide), Option.bind_some,
        compare16 (Nat.le_trans l1 (by decide)) (Nat.le_trans l1 (by decide)) 200 (by decide), Option.bind_some]
      rw [if_pos (by simp [sgn])]
      by_cases hpos : 0 < b
      · obtain ⟨p1, p2⟩ := hp hpos
        rw [if_pos hpos, if_pos p1, if_pos p2]
      · obtain ⟨p1, p2⟩ := hn (by omega)
        rw [if_neg hpos, if_pos (by omega), if_pos p1, decide_eq_true (by omega : r > b)]
    by_cases hm : a = -9223372036854775808
    · rw [if_pos hm, beq_eq_false_iff_ne.mpr (fun h2 => h1 ⟨hm, h2⟩)]; exact tail
    · rw [if_neg hm]; exact tail
end Go.Proofs.Ytofcjoccnbegdaa.Pure
