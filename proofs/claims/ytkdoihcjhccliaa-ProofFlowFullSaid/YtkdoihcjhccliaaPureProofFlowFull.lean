/- The law ProofFlowFull. -/
import Derived.Test.YtkdoihcjhccliaaQ65
import Derived.Test.YtkdoihcjhccliaaMaxF
import Derived.Test.YtkdoihcjhccliaaFlows
import Derived.Test.YtkdoihcjhccliaaAwake
namespace Go.Proofs.Ytkdoihcjhccliaa.Pure
open Go.Proofs.Ytkdoihcjhccliaa.G Go.Proofs.Ytkdoihcjhccliaa.Q Go.Proofs.YtkdoihcjhccliaaW.PrintWords Go.Proofs.YtkdoihcjhccliaaW.PrintLast
theorem ProofFlowFull (n : Int) (E : List S98) (s t : Int) : ∃ K, compasslaw11_ProofFlowFull.f K n E s t = some true := by
  refine Evl.at (r := true) ?_
  refine (Evl.bind (h := fun k t401 => if t401 = true then (if n > 64 then (compasslaw11_ProofFlowFull.j0 k s t true n E) else (if (E.length : Int) > 256 then (compasslaw11_ProofFlowFull.j0 k s t true n E) else ((compassref11_Ends.f k n E s t).bind fun t402 => (compasslaw11_ProofFlowFull.j0 k s t (t402 != 0) n E)))) else (some false)) awake_f ?_).congr fun k => rfl
  have skip : Evl (fun k => compasslaw11_ProofFlowFull.j0 k s t true n E) true := Evl.here fun k => by rw [compasslaw11_ProofFlowFull.j0, if_pos rfl]
  by_cases h1 : n > 64
  · exact skip.congr fun k => by rw [if_pos rfl, if_pos h1]
  · by_cases h2 : (E.length : Int) > 256
    · exact skip.congr fun k => by rw [if_pos rfl, if_neg h1, if_pos h2]
    · obtain ⟨c, a, g1, g2, g3, g4, g5⟩ := check_f n E
      have he := ends_f g2 s t
      refine (Evl.bind (h := fun k t402 => compasslaw11_ProofFlowFull.j0 k s t (t402 != 0) n E) he ?_).congr fun k => by rw [if_pos rfl, if_neg h1, if_neg h2]
      by_cases hz : (if c = 0 then endsE n s t else c) = 0
      · have hc : c = 0 := by
          by_cases hc : c = 0
          · exact hc
          · rw [if_neg hc] at hz; exact hz
        have hen : endsE n s t = 0 := by rw [if_pos hc] at hz; exact hz
        obtain ⟨-, R⟩ := g3 hc
        rw [hz]
        have hr : ¬ (s < 0 ∨ s ≥ n ∨ t < 0 ∨ t ≥ n) := fun h => by unfold endsE at hen; rw [if_pos h] at hen; cases hen
        have st : s ≠ t := fun h => by unfold endsE at hen; rw [if_neg hr, if_pos h] at hen; cases hen
        obtain ⟨A, B, f1, M, S⟩ := maxflow_f R (s := s) (t := t) (by omega) (by omega) (by omega) (by omega) st
        have sc := side_cut R (by omega) (by omega) M S
        obtain ⟨v, e, p1, p2, p3, p4, p5⟩ := max_f n E s t A B
        have e0 := p5 R hen ⟨S.len, S.src, S.snk, M.len, M.fit, sc, M.kept⟩
        obtain ⟨-, -, -, ve⟩ := p4 e0
        obtain ⟨o, o1, o2⟩ := out_f n E A s R.m1 M.len
        have oe := o2 (M.fit.labs R)
        refine (Evl.bind (h := fun k bt403 => (proof_Max.f k n E s t bt403.1 bt403.2).bind fun bt409 => (if bt409.2 = 0 then ((compassref11_Out.f k n E bt403.1 s).bind fun t411 => (some (bt409.1 == t411))) else (some false))) f1 ?_).step fun k => by rw [compasslaw11_ProofFlowFull.j0, if_neg (by decide)]
        refine Evl.bind (h := fun k bt409 => if bt409.2 = 0 then ((compassref11_Out.f k n E A s).bind fun t411 => (some (bt409.1 == t411))) else (some false)) p1 ?_
        refine (Evl.bind (h := fun k t411 => some (v == t411)) o1 (Evl.pure.congr fun k => ?_)).congr fun k => by rw [if_pos e0]
        rw [oe, ve, sc, beq_self_eq_true]
      · have : ((if c = 0 then endsE n s t else c) != 0) = true := bne_iff_ne.mpr hz
        rw [this]; exact skip
end Go.Proofs.Ytkdoihcjhccliaa.Pure
