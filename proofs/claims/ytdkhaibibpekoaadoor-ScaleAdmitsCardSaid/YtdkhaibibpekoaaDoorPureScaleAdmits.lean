/- Labels are turned into whole numbers of one scale, or refused with the first reason: at all rows of labels. -/
import Derived.Test.YtdkhaibibpekoaaDoorQ6
import Derived.Test.YtdkhaibibpekoaaDoorQ9
import Derived.KernelRfl
import Derived.Test.YtdkhaibibpekoaaDoorAdmitQ
namespace Go.Proofs.YtdkhaibibpekoaaDoor.Pure
open Go.RowKit Go.Flt Go.Proofs.YtdkhaibibpekoaaDoor.Q Go.Proofs.YtdkhaibibpekoaaDoorW.PrintWords Go.Proofs.YtdkhaibibpekoaaDoorW.PrintLast Go.Proofs.YtdkhaibibpekoaaDoorW.PrintMore
set_option linter.unusedVariables false
theorem awake_a (k : Nat) : compasslaw02_awake.f (k + 40) = some true := by kernel_rfl
theorem i64_in' {n : Int} (h : (Lit.int .i64 n).wf = true) : -9223372036854775808 ≤ n ∧ n < 9223372036854775808 := by
  have : -9223372036854775808 ≤ n ∧ n ≤ 9223372036854775807 := by simpa [Lit.wf, IntKind.min, IntKind.max, IntKind.signed, IntKind.bits] using h
  omega
theorem u64_in {n : Int} (h : (Lit.int .u64 n).wf = true) : 0 ≤ n ∧ n < 18446744073709551616 := by
  have : 0 ≤ n ∧ n ≤ 18446744073709551615 := by simpa [Lit.wf, IntKind.min, IntKind.max, IntKind.signed, IntKind.bits] using h
  omega
/-- Words that fit are lifted naturals. -/
theorem unlift (l : List Int) (h : ∀ x ∈ l, (Lit.int .u64 x).wf = true) : ∃ X : List Nat, l = lift X ∧ ∀ i, i < X.length → at_ X i < 18446744073709551616 := by
  refine ⟨l.map Int.toNat, ?_, fun i hi => ?_⟩
  · unfold lift
    rw [List.map_map]
    refine (List.map_id l).symm.trans (List.map_congr_left fun x hx => ?_)
    have := u64_in (h x hx)
    show x = ((x.toNat : Nat) : Int)
    omega
  · unfold at_
    rw [List.length_map] at hi
    rw [List.getD_eq_getElem?_getD, List.getElem?_map, List.getElem?_eq_getElem hi]
    have := u64_in (h l[i] (List.getElem_mem hi))
    show (l[i]).toNat < _
    omega
theorem cmp_loop (l : List Int) (hn : l.length < 17592186044416) : ∀ (d i : Nat), i + d = l.length → Evl (fun k => compasslaw02_ScaleAdmits.l0 k l l (l.length : Int) (i : Int)) true := by
  intro d
  induction d with
  | zero =>
    intro i hi
    refine Evl.here fun k => ?_
    rw [compasslaw02_ScaleAdmits.l0, if_neg (by omega)]
  | succ d ih =>
    intro i hi
    refine (ih (i + 1) (by omega)).step fun k => ?_
    rw [compasslaw02_ScaleAdmits.l0, if_pos (by omega), if_pos (by omega), if_pos (by omega), if_pos (by omega), if_pos rfl, wi i (by omega)]
theorem Adm.len {X : List Nat} {most : Int} {res : List Int × Int × Int × Int} (h : Adm X most res) : res.1.length ≤ X.length := by
  cases h with
  | range _ e => subst e; exact Nat.zero_le _
  | bad _ _ _ _ e => subst e; exact Nat.zero_le _
  | wide _ _ e => subst e; exact Nat.zero_le _
  | good _ _ _ _ _ _ _ _ e => subst e; simp
theorem ScaleAdmits : compasslaw02_ScaleAdmits.Pure := by
  intro l most hm h8 hw hw1
  obtain ⟨X, rfl, hx⟩ := unlift l hw
  rw [lift_len] at h8
  obtain ⟨res, adm, ⟨K1, q1⟩, ⟨K2, q2⟩⟩ := admit_both X most hx (by omega)
  obtain ⟨K3, q3⟩ := floats_f X (by omega)
  have al := adm.len
  obtain ⟨K4, q4⟩ := cmp_loop res.1 (by omega) res.1.length 0 (by omega)
  refine ⟨K1 + K2 + K3 + K4 + 1 + 40, ?_⟩
  have p1 : scale_Admit.f (K1 + K2 + K3 + K4 + 1 + 40) X most = _ := q1 _ (by omega)
  have p2 : compassref02_Admit.f (K1 + K2 + K3 + K4 + 1 + 40) (lift X) most = _ := q2 _ (by omega)
  have p3 : compasslaw02_floats.f (K1 + K2 + K3 + K4 + 1 + 40) (lift X) = _ := q3 _ (by omega)
  have p4 : compasslaw02_ScaleAdmits.l0 (K1 + K2 + K3 + K4 + 40) res.1 res.1 (res.1.length : Int) 0 = _ := q4 _ (by omega)
  unfold compasslaw02_ScaleAdmits.f
  rw [awake_a, Option.bind_some, if_pos rfl, p3, Option.bind_some, p1, Option.bind_some, p2, Option.bind_some, if_pos rfl, if_pos rfl, if_pos rfl]
  have z : ((res.1.length : Int) != (res.1.length : Int)) = false := bne_self_eq_false _
  rw [z, show K1 + K2 + K3 + K4 + 1 + 40 = (K1 + K2 + K3 + K4 + 40) + 1 by omega, compasslaw02_ScaleAdmits.j0, if_neg (by decide)]
  exact p4
end Go.Proofs.YtdkhaibibpekoaaDoor.Pure
