/- The law ProofPlanSound. -/
import Derived.Test.YtkdoihcjhccliaaQ50
import Derived.Test.YtkdoihcjhccliaaCheap
import Derived.Test.YtkdoihcjhccliaaAwake
namespace Go.Proofs.Ytkdoihcjhccliaa.Pure
open Go.Proofs.Ytkdoihcjhccliaa.G Go.Proofs.Ytkdoihcjhccliaa.Q Go.RowKit
theorem ProofPlanSound (n : Int) (E : List S98) (S A P O : List Int) (B : List Bool) : ∃ K, compasslaw11_ProofPlanSound.f K n E S A P O B = some true := by
  obtain ⟨c, e, h1, -, z1, z2, -⟩ := cheap_f n E S A P
  obtain ⟨x, h3, -, y2, -⟩ := noplan_f n E S B
  refine Evl.at (r := true) ?_
  refine (Evl.bind (h := fun k t565 => if t565 = true then ((proof_Cheapest.f k n E S A P).bind fun bt566 => ((proof_NoPlan.f k n E S B).bind fun t568 => (if bt566.2 = 0 then (compasslaw11_ProofPlanSound.j0 k bt566.1 bt566.2 t568 false n E S A P O B) else (compasslaw11_ProofPlanSound.j0 k bt566.1 bt566.2 t568 (t568 != 0) n E S A P O B)))) else (some false)) awake_f ?_).congr fun k => rfl
  refine (Evl.bind (h := fun k bt566 => (proof_NoPlan.f k n E S B).bind fun t568 => (if bt566.2 = 0 then (compasslaw11_ProofPlanSound.j0 k bt566.1 bt566.2 t568 false n E S A P O B) else (compasslaw11_ProofPlanSound.j0 k bt566.1 bt566.2 t568 (t568 != 0) n E S A P O B))) h1 ?_).congr fun k => by rw [if_pos rfl]
  refine Evl.bind (h := fun k t568 => if e = 0 then (compasslaw11_ProofPlanSound.j0 k c e t568 false n E S A P O B) else (compasslaw11_ProofPlanSound.j0 k c e t568 (t568 != 0) n E S A P O B)) h3 ?_
  -- what follows, where one of both is taken
  have rest : (e = 0 ∨ x = 0) → Evl (fun k => compasslaw11_ProofPlanSound.j0 k c e x false n E S A P O B) true := by
    intro hex
    have RU : Right n E ∧ Sup n S := by
      rcases hex with h | h
      · exact ⟨(z2 h).1, (z2 h).2.1⟩
      · exact ⟨(y2 h).1, (y2 h).2.1⟩
    obtain ⟨R, U⟩ := RU
    obtain ⟨fb, f1, f2⟩ := fits_f R (A := O) (S := S) U.len
    refine (Evl.bind (h := fun k t569 => if x = 0 then (if t569 = true then (some false) else (if e = 0 then (some false) else (some true))) else (if e = 0 then (if t569 = true then ((compassref11_Total.f k n E O).bind fun t570 => (some (decide (t570 ≥ c)))) else (some true)) else (some true))) f1 ?_).step fun k => by rw [compasslaw11_ProofPlanSound.j0, if_neg (by simp)]
    by_cases hx : x = 0
    · obtain ⟨-, -, hB, hc⟩ := y2 hx
      have nf : ¬ fb = true := fun h => by
        have q := f2.1 h
        have := no_plan R (B := B) (S := S) (A := O) ⟨q.1.1, q.1.2, q.2⟩
        omega
      have ne : ¬ e = 0 := fun h => by
        have := no_plan R (B := B) (z2 h).2.2.1
        omega
      exact Evl.pure.congr fun k => by rw [if_pos hx, if_neg nf, if_neg ne]
    · have he : e = 0 := by rcases hex with h | h; exact h; exact absurd h hx
      obtain ⟨-, -, M, hp, t, hc⟩ := z2 he
      by_cases hf : fb = true
      · have q := f2.1 hf
        have N : Meets n E S O := ⟨q.1.1, q.1.2, q.2⟩
        refine (Evl.bind (h := fun k t570 => some (decide (t570 ≥ c))) (total_f (n := n) R.m1 N.len) ?_).congr fun k => by rw [if_neg hx, if_pos he, if_pos hf]
        have l := plan_least R M N t
        have w := (totw_cost R (N.fit.labs R) E.length (Nat.le_refl _)).1
        exact Evl.pure.congr fun k => by rw [decide_eq_true (by omega)]
      · exact Evl.pure.congr fun k => by rw [if_neg hx, if_pos he, if_neg hf]
  by_cases he : e = 0
  · exact (rest (Or.inl he)).congr fun k => by rw [if_pos he]
  · by_cases hx : x = 0
    · exact (rest (Or.inr hx)).congr fun k => by rw [if_neg he, hx]; rfl
    · refine Evl.congr (h := fun k => compasslaw11_ProofPlanSound.j0 k c e x true n E S A P O B) (Evl.here fun k => ?_) fun k => by rw [if_neg he, show (x != 0) = true from bne_iff_ne.mpr hx]
      rw [compasslaw11_ProofPlanSound.j0, if_pos rfl, z1 he]; rfl
end Go.Proofs.Ytkdoihcjhccliaa.Pure
