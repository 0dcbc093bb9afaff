/- Sums, differences and products are exact, or refused just where they do not fit in 64 bits: at all 64 bit numbers. -/
import Derived.Test.YtofcjoccnbegdaaQ21
import Derived.Test.YtofcjoccnbegdaaNum
namespace Go.Proofs.Ytofcjoccnbegdaa.Pure
open Go.RowKit Go.Proofs.Ytofcjoccnbegdaa.Q Go.Proofs.Ytofcjoccnbegdaa.Q.Big Go.Proofs.Ytofcjoccnbegdaa.Num Go.Proofs.YtofcjoccnbegdaaW.PrintWords Go.Proofs.YtofcjoccnbegdaaW.PrintLast
set_option linter.unusedVariables false

theorem awake_f : compasslaw01_awake.f = some true := by
  unfold compasslaw01_awake.f
  rw [mul_f 2147483648 2147483648 (by unfold I64; decide) (by unfold I64; decide), Option.bind_some]
  have : safeint_Sum.f [4611686018427387904, 4611686018427387904, -4611686018427387904] = some (4611686018427387904, 0) := by decide +kernel
  rw [this, Option.bind_some]
  decide

theorem SafeAdds : compasslaw01_SafeAdds.Pure := by
  intro a b wa wb
  have ha := wf_I64 wa
  have hb := wf_I64 wb
  have la := ha.len
  have lb := hb.len
  have lb' : (dig (-b).natAbs).length ≤ 8 := by rw [Int.natAbs_neg]; omega
  refine ⟨100, ?_⟩
  unfold compasslaw01_SafeAdds.f
  rw [awake_f, Option.bind_some, if_pos rfl, of64 ha 100 (by decide), Option.bind_some, of64 hb 100 (by decide), Option.bind_some, add_f a b ha hb, Option.bind_some,
    plus8 (Nat.le_trans la (by decide)) (Nat.le_trans lb (by decide)) 100 (by decide), Option.bind_some, narrow_f _ 100 (by decide), Option.bind_some,
    sub_f a b ha hb, Option.bind_some, less_f, Option.bind_some, plus8 (Nat.le_trans la (by decide)) lb' 100 (by decide), Option.bind_some, narrow_f _ 100 (by decide), Option.bind_some,
    mul_f a b ha hb, Option.bind_some, times64 ha hb 100 (by decide), Option.bind_some, narrow_f _ 100 (by decide), Option.bind_some,
    if_pos rfl, if_pos rfl, ← Int.sub_eq_add_neg, if_pos rfl, if_pos rfl, if_pos rfl, beq_self_eq_true]
end Go.Proofs.Ytofcjoccnbegdaa.Pure
