/- Weights at the nodes: over all nodes what goes out, weighted, is what lies on the edges, weighted by the ends; no flow is greater than a cut. -/
import Derived.Test.YtkdoihcjhccliaaNet
namespace Go.Proofs.Ytkdoihcjhccliaa.G
open Go.RowKit Go.Proofs.Ytkdoihcjhccliaa.Q Go.Proofs.YtkdoihcjhccliaaW.PrintWords Go.Proofs.YtkdoihcjhccliaaW.PrintLast
set_option linter.unusedVariables false

/-- Over the first nodes what goes out, weighted. -/
def wsum (p : Int → Int) (E : List S98) (A : List Int) (i : Nat) : Nat → Int
  | 0 => 0
  | v + 1 => wsum p E A i v + p v * net E A v i
/-- Over the first edges what lies on them, weighted by both ends. -/
def esum (p : Int → Int) (E : List S98) (A : List Int) : Nat → Int
  | 0 => 0
  | i + 1 => esum p E A i + (p (rd_T98 E i).f0 * rd A i - p (rd_T98 E i).f1 * rd A i)

theorem wsum_zero (p : Int → Int) (E : List S98) (A : List Int) (v : Nat) : wsum p E A 0 v = 0 := by
  induction v with
  | zero => rfl
  | succ v ih => simp only [wsum, net, ih, Int.mul_zero]; rfl
theorem wsum_step (p : Int → Int) (E : List S98) (A : List Int) (i : Nat) (f0 : 0 ≤ (rd_T98 E i).f0) (t0 : 0 ≤ (rd_T98 E i).f1) (v : Nat) : wsum p E A (i + 1) v = wsum p E A i v + (if (rd_T98 E i).f0 < v then p (rd_T98 E i).f0 * rd A i else 0) - (if (rd_T98 E i).f1 < v then p (rd_T98 E i).f1 * rd A i else 0) := by
  induction v with
  | zero => simp only [wsum]; rw [if_neg (by omega), if_neg (by omega)]; omega
  | succ v ih =>
    simp only [wsum, net, ih, Int.mul_sub, Int.mul_add]
    push_cast
    have a : p v * (if (rd_T98 E i).f0 = v then rd A i else 0) = if (rd_T98 E i).f0 = v then p (rd_T98 E i).f0 * rd A i else 0 := by
      split
      · rename_i h; rw [h]
      · exact Int.mul_zero _
    have b : p v * (if (rd_T98 E i).f1 = v then rd A i else 0) = if (rd_T98 E i).f1 = v then p (rd_T98 E i).f1 * rd A i else 0 := by
      split
      · rename_i h; rw [h]
      · exact Int.mul_zero _
    rw [a, b]
    generalize p (rd_T98 E i).f0 * rd A i = x
    generalize p (rd_T98 E i).f1 * rd A i = y
    generalize (rd_T98 E i).f0 = c at *
    generalize (rd_T98 E i).f1 = d at *
    generalize p v * net E A v i = z
    generalize wsum p E A i v = u
    clear a b ih
    (repeat' split) <;> omega
theorem wsum_esum {n : Int} {E : List S98} (R : Right n E) (p : Int → Int) (A : List Int) : ∀ i : Nat, i ≤ E.length → wsum p E A i n.toNat = esum p E A i := by
  have n0 := R.n0
  intro i
  induction i with
  | zero => intro _; exact wsum_zero p E A _
  | succ i ih =>
    intro hi
    have e := R.e i (by omega) (by omega)
    have a1 := e.a1
    have b1 := e.b1
    rw [wsum_step p E A i e.a0 e.b0, ih (by omega), if_pos (by omega), if_pos (by omega), esum]; omega

/-- The side's weights. -/
def ind (B : List Bool) (v : Int) : Int := if rdOf false B v = true then 1 else 0
theorem esum_cut {n : Int} {E : List S98} (R : Right n E) (B : List Bool) {A : List Int} (h : Amts E A) : ∀ i : Nat, i ≤ E.length → esum (ind B) E A i ≤ cut E B i := by
  intro i
  induction i with
  | zero => intro _; exact Int.le_refl _
  | succ i ih =>
    intro hi
    have a := ih (by omega)
    have b := h i (by omega) (by omega)
    have c0 := (R.e i (by omega) (by omega)).c0
    simp only [esum, cut, ind]
    by_cases q0 : rdOf false B (rd_T98 E i).f0 = true
    · by_cases q1 : rdOf false B (rd_T98 E i).f1 = true
      · rw [if_pos q0, if_pos q1, if_neg (by rw [q1]; simp)]; omega
      · rw [if_pos q0, if_neg q1, if_pos ⟨q0, by simpa using q1⟩]; omega
    · rw [if_neg q0, if_neg (show ¬ (rdOf false B (rd_T98 E i).f0 = true ∧ rdOf false B (rd_T98 E i).f1 = false) from fun h => q0 h.1)]
      split <;> omega
theorem wsum_flow {E : List S98} {B : List Bool} {A : List Int} {i : Nat} {s t : Int} (hs : rdOf false B s = true) (ht : rdOf false B t = false) (s0 : 0 ≤ s) (v : Nat) (h : ∀ u : Int, 0 ≤ u → u < v → u ≠ s → u ≠ t → net E A u i = 0) : wsum (ind B) E A i v = if s < v then net E A s i else 0 := by
  induction v with
  | zero => rw [if_neg (by omega)]; rfl
  | succ v ih =>
    rw [wsum, ih fun u a b => h u a (by omega)]
    push_cast
    by_cases a : (v : Int) = s
    · rw [if_neg (by omega), if_pos (by omega), a, ind, if_pos hs]; omega
    · have z : ind B v * net E A v i = 0 := by
        by_cases b : (v : Int) = t
        · rw [b, ind, ht, if_neg (by simp), Int.zero_mul]
        · rw [h v (by omega) (by omega) a b, Int.mul_zero]
      rw [z]
      by_cases c : s < (v : Int)
      · rw [if_pos c, if_pos (by omega)]; omega
      · rw [if_neg c, if_neg (by omega)]; omega
/-- No flow is greater than a cut. -/
theorem flow_cut {n : Int} {E : List S98} (R : Right n E) {B : List Bool} {A : List Int} {s t : Int} (hs : rdOf false B s = true) (ht : rdOf false B t = false) (s0 : 0 ≤ s) (s1 : s < n) (h : Amts E A) (k : ∀ v : Int, 0 ≤ v → v < n → v ≠ s → v ≠ t → net E A v E.length = 0) : net E A s E.length ≤ cut E B E.length := by
  have n0 := R.n0
  have a := wsum_flow (E := E) (A := A) (i := E.length) hs ht s0 n.toNat (fun u a b c d => k u a (by omega) c d)
  rw [if_pos (by omega), wsum_esum R (ind B) A E.length (Nat.le_refl _)] at a
  rw [← a]
  exact esum_cut R B h E.length (Nat.le_refl _)
end Go.Proofs.Ytkdoihcjhccliaa.G
