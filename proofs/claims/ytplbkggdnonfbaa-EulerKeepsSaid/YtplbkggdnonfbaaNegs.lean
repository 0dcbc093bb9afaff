/- How many numbers of a list are below nothing. -/
import Derived.Test.YtplbkggdnonfbaaG
namespace Go.Proofs.Ytplbkggdnonfbaa.G
open Go.RowKit Go.Proofs.Ytplbkggdnonfbaa.Q Go.Proofs.YtplbkggdnonfbaaW.PrintWords Go.Proofs.YtplbkggdnonfbaaW.PrintLast
set_option linter.unusedVariables false
theorem countP_set (p : Int → Bool) (l : List Int) : ∀ (i : Nat) (x : Int), i < l.length → p (l.getD i 0) = true → p x = false → (l.set i x).countP p + 1 = l.countP p := by
  induction l with
  | nil => intro i x h; exact absurd h (by simp)
  | cons a t ih =>
    intro i x h hp hx
    cases i with
    | zero => simp at hp; simp [hp, hx]
    | succ i =>
      have := ih i x (by simpa using h) (by simpa using hp) hx
      simp only [List.set_cons_succ, List.countP_cons]
      omega

/-- How many nodes are not reached yet. -/
def negs (L : List Int) : Int := (L.countP fun x => decide (x < 0) : Nat)
theorem negs_nonneg (L : List Int) : 0 ≤ negs L := by unfold negs; omega
theorem negs_le (L : List Int) : negs L ≤ (L.length : Int) := by
  unfold negs; have := List.countP_le_length (p := fun x : Int => decide (x < 0)) (l := L); omega
theorem negs_set (L : List Int) (i x : Int) (h0 : 0 ≤ i) (h : i < (L.length : Int)) (hn : rd L i < 0) (hx : 0 ≤ x) : negs (L.set i.toNat x) = negs L - 1 := by
  have := countP_set (fun x => decide (x < 0)) L i.toNat x (by omega) (by unfold rd at hn; exact decide_eq_true hn) (decide_eq_false (by omega))
  unfold negs; omega

end Go.Proofs.Ytplbkggdnonfbaa.G
