/- The law ProofFlowSound. -/
import Derived.Test.YtkdoihcjhccliaaQ49
import Derived.Test.YtkdoihcjhccliaaFlows
import Derived.Test.YtkdoihcjhccliaaDual
import Derived.Test.YtkdoihcjhccliaaAwake
namespace Go.Proofs.Ytkdoihcjhccliaa.Pure
open Go.Proofs.Ytkdoihcjhccliaa.G Go.Proofs.Ytkdoihcjhccliaa.Q Go.RowKit
theorem ProofFlowSound (n : Int) (E : List S98) (s t : Int) (A : List Int) (B : List Bool) (O : List Int) : ∃ K, compasslaw11_ProofFlowSound.f K n E s t A B O = some true := by
  obtain ⟨v, e, h1, -, z1, z2, -⟩ := max_f n E s t A B
  refine Evl.at (r := true) ?_
  refine (Evl.bind (h := fun k t557 => if t557 = true then ((proof_Max.f k n E s t A B).bind fun bt558 => (if bt558.2 = 0 then (if (O.length : Int) = (E.length : Int) then ((compassref11_Out.f k n E O s).bind fun t560 => ((compassref11_Flows.f k n E s t O t560).bind fun t561 => (if t561 = true then (some (decide (t560 ≤ bt558.1))) else (some true)))) else (some true)) else (some (bt558.1 == 0)))) else (some false)) awake_f ?_).congr fun k => rfl
  refine (Evl.bind (h := fun k bt558 => (if bt558.2 = 0 then (if (O.length : Int) = (E.length : Int) then ((compassref11_Out.f k n E O s).bind fun t560 => ((compassref11_Flows.f k n E s t O t560).bind fun t561 => (if t561 = true then (some (decide (t560 ≤ bt558.1))) else (some true)))) else (some true)) else (some (bt558.1 == 0)))) h1 ?_).congr fun k => by rw [if_pos rfl]
  by_cases he : e = 0
  · obtain ⟨R, hz, F, hv⟩ := z2 he
    by_cases hl : (O.length : Int) = (E.length : Int)
    · have m1 := R.m1
      obtain ⟨x, o1, o2⟩ := out_f n E O s m1 (by omega)
      have ends : 0 ≤ s ∧ s < n ∧ 0 ≤ t ∧ t < n ∧ s ≠ t := by
        unfold endsE at hz
        by_cases a : s < 0 ∨ s ≥ n ∨ t < 0 ∨ t ≥ n
        · rw [if_pos a] at hz; cases hz
        · rw [if_neg a] at hz
          by_cases b : s = t
          · rw [if_pos b] at hz; cases hz
          · exact ⟨by omega, by omega, by omega, by omega, b⟩
      obtain ⟨s0, s1, t0, t1, hst⟩ := ends
      obtain ⟨b, b1, b2⟩ := flows_any R (A := O) x s0 s1 t0 t1
      refine (Evl.bind (h := fun k t560 => (compassref11_Flows.f k n E s t O t560).bind fun t561 => (if t561 = true then (some (decide (t560 ≤ v))) else (some true))) o1 ?_).congr fun k => by rw [if_pos he, if_pos hl]
      refine Evl.bind (h := fun k t561 => if t561 = true then (some (decide (x ≤ v))) else (some true)) b1 ?_
      by_cases hb : b = true
      · obtain ⟨q1, q2⟩ := b2 hb
        have hx := o2 (q2.labs R)
        have hn := net_le (E := E) (v := s) (q2.labs R) E.length (Nat.le_refl _)
        obtain ⟨b', e1, e2⟩ := flows_f R (A := O) hst s0 s1 t0 t1 (x := x) (by omega)
        have hbb := Evl.eq b1 e1
        have k := e2.1 (hbb ▸ hb)
        have w := flow_cut R F.src F.snk s0 s1 q2 k.2.2
        exact Evl.pure.congr fun _ => by rw [if_pos hb, decide_eq_true (by omega)]
      · exact Evl.pure.congr fun _ => by rw [if_neg hb]
    · exact Evl.pure.congr fun k => by rw [if_pos he, if_neg hl]
  · have := z1 he
    exact Evl.pure.congr fun k => by rw [if_neg he, this]; rfl
end Go.Proofs.Ytkdoihcjhccliaa.Pure
