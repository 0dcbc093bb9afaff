/- The law ProofRoundSound. -/
import Derived.Test.YtkdoihcjhccliaaQ54
import Derived.Test.YtkdoihcjhccliaaApart
import Derived.Test.YtkdoihcjhccliaaAwake
namespace Go.Proofs.Ytkdoihcjhccliaa.Pure
open Go.Proofs.Ytkdoihcjhccliaa.G Go.Proofs.Ytkdoihcjhccliaa.Q Go.RowKit
theorem ProofRoundSound (n : Int) (E : List S98) (A P O : List Int) (B : List Bool) : ∃ K, compasslaw11_ProofRoundSound.f K n E A P O B = some true := by
  obtain ⟨c, e, h1, -, z1, z2, -⟩ := post_f n E A P
  obtain ⟨x, h3, -, y2, -⟩ := apart_f n E B
  refine Evl.at (r := true) ?_
  refine (Evl.bind (h := fun k t599 => if t599 = true then ((proof_Postman.f k n E A P).bind fun bt600 => ((proof_Apart.f k n E B).bind fun t602 => (if t602 = 0 then (compasslaw11_ProofRoundSound.j0 k bt600.1 bt600.2 (bt600.2 == 0) n E O B) else (compasslaw11_ProofRoundSound.j0 k bt600.1 bt600.2 false n E O B)))) else (some false)) awake_f ?_).congr fun k => rfl
  refine (Evl.bind (h := fun k bt600 => (proof_Apart.f k n E B).bind fun t602 => (if t602 = 0 then (compasslaw11_ProofRoundSound.j0 k bt600.1 bt600.2 (bt600.2 == 0) n E O B) else (compasslaw11_ProofRoundSound.j0 k bt600.1 bt600.2 false n E O B))) h1 ?_).congr fun k => by rw [if_pos rfl]
  refine Evl.bind (h := fun k t602 => if t602 = 0 then (compasslaw11_ProofRoundSound.j0 k c e (e == 0) n E O B) else (compasslaw11_ProofRoundSound.j0 k c e false n E O B)) h3 ?_
  have not_both : ¬ (x = 0 ∧ e = 0) := fun h => by
    obtain ⟨R, -, M, H, -⟩ := z2 h.2
    exact no_round R M H (y2 h.1).2
  have rest : Evl (fun k => compasslaw11_ProofRoundSound.j0 k c e false n E O B) true := by
    by_cases he : e = 0
    · obtain ⟨R, fr, M, H, hp, t, hc⟩ := z2 he
      obtain ⟨rb, r1, r2⟩ := rounds_f R O
      refine (Evl.bind (h := fun k t603 => if t603 = true then ((compassref11_Total.f k n E O).bind fun t604 => (some (decide (t604 ≥ c)))) else (some true)) r1 ?_).step fun k => by rw [compasslaw11_ProofRoundSound.j0, if_neg (by simp), if_pos he]
      by_cases hb : rb = true
      · have N := r2.1 hb
        refine (Evl.bind (h := fun k t604 => some (decide (t604 ≥ c))) (total_f (n := n) R.m1 N.len) ?_).congr fun k => by rw [if_pos hb]
        have l := round_least R M N t
        have w := (totw_cost R N.ones.labs E.length (Nat.le_refl _)).1
        exact Evl.pure.congr fun k => by rw [decide_eq_true (by omega)]
      · exact Evl.pure.congr fun k => by rw [if_neg hb]
    · exact Evl.here fun k => by rw [compasslaw11_ProofRoundSound.j0, if_neg (by simp), if_neg he, z1 he]; rfl
  by_cases hx : x = 0
  · have he : ¬ e = 0 := fun h => not_both ⟨hx, h⟩
    exact rest.congr fun k => by rw [if_pos hx, show (e == 0) = false from beq_eq_false_iff_ne.mpr he]
  · exact rest.congr fun k => by rw [if_neg hx]
end Go.Proofs.Ytkdoihcjhccliaa.Pure
