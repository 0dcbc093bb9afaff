/- A whole number times a power of two, and a fraction of whole numbers, are told as the nearest float64: at all numbers. -/
import Derived.Test.YtdkhaibibpekoaaDoorQ16
import Derived.Test.YtdkhaibibpekoaaDoorQ6
import Derived.KernelRfl
import Derived.Test.YtdkhaibibpekoaaDoorRefQ
namespace Go.Proofs.YtdkhaibibpekoaaDoor.Pure
open Go.RowKit Go.Flt Go.Proofs.YtdkhaibibpekoaaDoor.Q Go.Proofs.YtdkhaibibpekoaaDoorW.PrintWords Go.Proofs.YtdkhaibibpekoaaDoorW.PrintLast Go.Proofs.YtdkhaibibpekoaaDoorW.PrintMore
set_option linter.unusedVariables false
theorem awake_f (k : Nat) : compasslaw02_awake.f (k + 40) = some true := by kernel_rfl
theorem quarter_f (k : Nat) : scale_Quotient.f (k + 40) 1 4 = some (4598175219545276416, 0) := by kernel_rfl
theorem i64_in {n : Int} (h : (Lit.int .i64 n).wf = true) : -9223372036854775808 ≤ n ∧ n < 9223372036854775808 := by
  have : -9223372036854775808 ≤ n ∧ n ≤ 9223372036854775807 := by simpa [Lit.wf, IntKind.min, IntKind.max, IntKind.signed, IntKind.bits] using h
  omega
theorem ScaleBacks : compasslaw02_ScaleBacks.Pure := by
  intro n d e hn hd he
  obtain ⟨n0, n1⟩ := i64_in hn
  obtain ⟨d0, d1⟩ := i64_in hd
  obtain ⟨e0, e1⟩ := i64_in he
  clear hn hd he
  obtain ⟨W, c, ⟨K1, q1⟩, ⟨K2, q2⟩⟩ := quot_same n d n0 n1 d0 d1
  obtain ⟨V, ⟨K3, b1⟩, ⟨K4, b2⟩⟩ := back_same n e n0 n1 e0 e1
  have p1 : scale_Quotient.f (K1 + K2 + K3 + K4) n d = some (W, c) := q1 _ (by omega)
  have p2 : compassref02_Quotient.f (K1 + K2 + K3 + K4) n d = some ((W : Int), c) := q2 _ (by omega)
  have p3 : scale_Back.f (K1 + K2 + K3 + K4) n e = some V := b1 _ (by omega)
  have p4 : compassref02_Back.f (K1 + K2 + K3 + K4) n e = some (V : Int) := b2 _ (by omega)
  have j : ∀ M, K1 + K2 + K3 + K4 ≤ M → compasslaw02_ScaleBacks.j0 (M + 1) n d e false = some true := fun M hM => by
    have p1 : scale_Quotient.f M n d = some (W, c) := q1 _ (by omega)
    have p2 : compassref02_Quotient.f M n d = some ((W : Int), c) := q2 _ (by omega)
    have p3 : scale_Back.f M n e = some V := b1 _ (by omega)
    have p4 : compassref02_Back.f M n e = some (V : Int) := b2 _ (by omega)
    rw [compasslaw02_ScaleBacks.j0, if_neg (by decide), p1, Option.bind_some, p2, Option.bind_some, p3, Option.bind_some, p4, Option.bind_some, if_pos rfl]
    simp only
    rw [if_pos trivial]
    simp
  refine ⟨K1 + K2 + K3 + K4 + 1 + 40, ?_⟩
  unfold compasslaw02_ScaleBacks.f
  rw [quarter_f, Option.bind_some]
  simp only
  rw [if_neg (by decide), if_pos trivial, awake_f, Option.bind_some]
  exact j (K1 + K2 + K3 + K4 + 40) (by omega)
end Go.Proofs.YtdkhaibibpekoaaDoor.Pure
