/- What Div64 answers: the quotient and what is left. -/
import Derived.Test.YtdkhaibibpekoaaDoorQ12
import Derived.Test.YtdkhaibibpekoaaDoorQ13
import Derived.Test.YtdkhaibibpekoaaDoorRoundP
namespace Go.Flt
set_option linter.unusedVariables false
def Evl {α : Type} (g : Nat → Option α) (a : α) : Prop := ∃ K, ∀ k, K ≤ k → g k = some a
theorem Evl.step {α : Type} {g h : Nat → Option α} {a : α} (e : Evl h a) (s : ∀ k, g (k + 1) = h k) : Evl g a := by
  obtain ⟨K, p⟩ := e
  refine ⟨K + 1, fun k hk => ?_⟩
  obtain ⟨m, rfl⟩ : ∃ m, k = m + 1 := ⟨k - 1, by omega⟩
  rw [s, p m (by omega)]
theorem Evl.congr {α : Type} {g h : Nat → Option α} {a : α} (e : Evl h a) (s : ∀ k, g k = h k) : Evl g a := by
  obtain ⟨K, p⟩ := e
  exact ⟨K, fun k hk => by rw [s, p k hk]⟩
theorem Evl.here {α : Type} {g : Nat → Option α} {a : α} (s : ∀ k, g (k + 1) = some a) : Evl g a :=
  ⟨1, fun k hk => by obtain ⟨m, rfl⟩ : ∃ m, k = m + 1 := ⟨k - 1, by omega⟩
                     exact s m⟩
theorem Evl.pure {α : Type} {a : α} : Evl (fun _ => some a) a := ⟨0, fun _ _ => rfl⟩
theorem Evl.bind {α β : Type} {g : Nat → Option α} {h : Nat → α → Option β} {a : α} {b : β} (e : Evl g a) (f : Evl (fun k => h k a) b) : Evl (fun k => (g k).bind (h k)) b := by
  obtain ⟨K, p⟩ := e
  obtain ⟨L, q⟩ := f
  refine ⟨K + L, fun k hk => ?_⟩
  show (g k).bind (h k) = some b
  rw [p k (by omega), Option.bind_some]
  exact q k (by omega)
/-- A divisor in two halves, the upper of 32 bits, and what is divided. -/
structure Half (y a b U u : Nat) : Prop where
  ey : y = a * 4294967296 + b
  a0 : 2147483648 ≤ a
  a1 : a < 4294967296
  b1 : b < 4294967296
  U1 : U < y
  u1 : u < 4294967296
structure Inv (y a b U u q r : Nat) : Prop where
  sum : q * a + r = U
  r1 : r < 4294967296
  q0 : (U * 4294967296 + u) / y ≤ q
  q1 : q ≤ 8589934592
section
variable {y a b U u q r : Nat}
theorem Half.q_lt (h : Half y a b U u) : (U * 4294967296 + u) / y < 4294967296 := by
  have := h.U1; have := h.u1
  rw [Nat.div_lt_iff_lt_mul (by omega), Nat.mul_comm]
  have := Nat.mul_le_mul_right 4294967296 (show U + 1 ≤ y by omega)
  omega
theorem Half.start (h : Half y a b U u) (hU : U < 18446744073709551616) : Inv y a b U u (U / a) (U % a) := by
  have := h.a0; have := h.a1; have := h.u1; have := h.b1; have hy := h.ey
  refine ⟨by rw [Nat.mul_comm]; exact Nat.div_add_mod U a, Nat.lt_trans (Nat.mod_lt _ (by omega)) h.a1, ?_, ?_⟩
  · have e : U / a = (U * 4294967296 + u) / (4294967296 * a) := by
      rw [← Nat.div_div_eq_div_mul]; congr 1; omega
    rw [e]
    exact Nat.div_le_div_left (by omega) (by omega)
  · rw [Nat.div_le_iff_le_mul_add_pred (by omega)]
    have := Nat.mul_le_mul_right 8589934592 h.a0
    omega
theorem prod_eq (h : Half y a b U u) (i : Inv y a b U u q r) : q * y + (r * 4294967296 + u) = U * 4294967296 + u + q * b := by
  have e1 := h.ey
  have e2 := i.sum
  subst e1
  rw [← e2, Nat.mul_add, Nat.add_mul, Nat.mul_assoc]
  omega
theorem aux_lt {A C X N : Nat} (e : A + X = N + C) (c : X < C) : N < A := by omega
theorem aux_le {A C X N : Nat} (e : A + X = N + C) (c : C ≤ X) : A ≤ N := by omega
/-- The test holds: q is too great by one at least. -/
theorem Inv.down (h : Half y a b U u) (i : Inv y a b U u q r) (c : 4294967296 ≤ q ∨ r * 4294967296 + u < q * b) : 1 ≤ q ∧ (U * 4294967296 + u) / y ≤ q - 1 := by
  have ql := h.q_lt
  have hy : 0 < y := by have := h.U1; omega
  rcases c with c | c
  · exact ⟨by omega, by omega⟩
  · have e := prod_eq h i
    have lt : U * 4294967296 + u < q * y := aux_lt e c
    clear e c ql
    generalize U * 4294967296 + u = N at lt ⊢
    have z : N / y < q := (Nat.div_lt_iff_lt_mul hy).2 lt
    exact ⟨Nat.lt_of_le_of_lt (Nat.zero_le _) z, Nat.le_sub_one_of_lt z⟩
theorem Inv.eq (h : Half y a b U u) (i : Inv y a b U u q r) (c2 : q * b ≤ r * 4294967296 + u) : q = (U * 4294967296 + u) / y := by
  have hy : 0 < y := by have := h.U1; omega
  have e := prod_eq h i
  exact Nat.le_antisymm ((Nat.le_div_iff_mul_le hy).2 (aux_le e c2)) i.q0
/-- Behind a step down with a great rest: q is right. -/
theorem Inv.out (h : Half y a b U u) (i : Inv y a b U u q r) (q0 : 1 ≤ q) (c : (U * 4294967296 + u) / y ≤ q - 1) (g : 4294967296 ≤ r + a) : q - 1 = (U * 4294967296 + u) / y := by
  obtain ⟨p, rfl⟩ : ∃ p, q = p + 1 := ⟨q - 1, by omega⟩
  rw [Nat.add_sub_cancel] at *
  have hy : 0 < y := by have := h.U1; omega
  have s := i.sum
  have hU := h.U1
  have e1 := h.ey
  have hb := h.b1
  have ha := h.a0
  rw [Nat.add_mul, Nat.one_mul] at s
  have p1 : p < 4294967296 := by
    refine Nat.lt_of_mul_lt_mul_right (a := a) ?_
    rw [Nat.mul_comm 4294967296 a]
    omega
  have pb : p * b ≤ 4294967296 * 4294967296 := Nat.mul_le_mul (by omega) (by omega)
  have e2 : p * y + ((r + a) * 4294967296 + u) = U * 4294967296 + u + p * b := by
    subst e1
    rw [← s, Nat.mul_add, Nat.add_mul, Nat.add_mul, Nat.add_mul, Nat.mul_assoc]
    omega
  have : p ≤ (U * 4294967296 + u) / y := (Nat.le_div_iff_mul_le hy).2 (by omega)
  omega
end
end Go.Flt
namespace Go.Proofs.YtdkhaibibpekoaaDoor.Pure
open Go.RowKit Go.Flt Go.Proofs.YtdkhaibibpekoaaDoor.Q Go.Proofs.YtdkhaibibpekoaaDoorW.PrintWords Go.Proofs.YtdkhaibibpekoaaDoorW.PrintLast Go.Proofs.YtdkhaibibpekoaaDoorW.PrintMore
set_option linter.unusedVariables false
theorem un (n : Nat) (h : n < 18446744073709551616) : IntKind.u64.wrap (n : Int) = (n : Int) := wu64 (by omega) (by omega)
theorem test_eq {b u q r : Nat} (hb : b < 4294967296) (hu : u < 4294967296) (hq : q < 4294967296) (hr : r < 4294967296) : (decide ((IntKind.u64.wrap ((q : Int) * (b : Int))) > (IntKind.u64.wrap ((IntKind.u64.wrap (4294967296 * (r : Int))) + (u : Int))))) = decide (r * 4294967296 + u < q * b) := by
  have pb : q * b ≤ 4294967295 * 4294967295 := Nat.mul_le_mul (by omega) (by omega)
  have e : (q : Int) * (b : Int) = ((q * b : Nat) : Int) := by rw [Int.natCast_mul]
  rw [e, un _ (by omega), show (4294967296 * (r : Int)) = ((4294967296 * r : Nat) : Int) by omega, un _ (by omega), show ((4294967296 * r : Nat) : Int) + (u : Int) = ((4294967296 * r + u : Nat) : Int) by omega, un _ (by omega)]
  congr 1
  exact propext ⟨fun h => by omega, fun h => by omega⟩
theorem l0_f {y a b U u v s : Nat} (h : Half y a b U u) (res : Int × Int) (fin : Evl (fun k => bits_Div64.j2 k (y : Int) (s : Int) (a : Int) (b : Int) (U : Int) (u : Int) (v : Int) (((U * 4294967296 + u) / y : Nat) : Int)) res) :
    ∀ (d q r : Nat), Inv y a b U u q r → 4294967296 ≤ r + d → Evl (fun k => bits_Div64.l0 k (y : Int) (s : Int) (a : Int) (b : Int) (U : Int) (u : Int) (v : Int) (q : Int) (r : Int)) res := by
  intro d
  induction d using Nat.strongRecOn with
  | _ d ih =>
    intro q r i hd
    have ha0 := h.a0; have ha1 := h.a1; have hr := i.r1; have hq := i.q1
    have yes : (4294967296 ≤ q ∨ r * 4294967296 + u < q * b) → Evl (fun k => bits_Div64.j1 k (y : Int) (s : Int) (a : Int) (b : Int) (U : Int) (u : Int) (v : Int) (q : Int) (r : Int) true) res := fun c => by
      obtain ⟨q0, qd⟩ := i.down h c
      have e1 : IntKind.u64.wrap ((r : Int) + (a : Int)) = ((r + a : Nat) : Int) := by rw [← Int.natCast_add]; exact un _ (by omega)
      have e2 : IntKind.u64.wrap ((q : Int) - 1) = ((q - 1 : Nat) : Int) := by rw [show (q : Int) - 1 = ((q - 1 : Nat) : Int) by omega]; exact un _ (by omega)
      by_cases g : 4294967296 ≤ r + a
      · have eq := i.out h q0 qd g
        refine fin.step fun k => ?_
        rw [bits_Div64.j1, if_pos rfl, e1, e2, if_pos (by omega), eq]
      · have i2 : Inv y a b U u (q - 1) (r + a) := ⟨by
          have := i.sum
          obtain ⟨p, rfl⟩ : ∃ p, q = p + 1 := ⟨q - 1, by omega⟩
          rw [Nat.add_sub_cancel]
          rw [Nat.add_mul, Nat.one_mul] at this
          omega, by omega, qd, by omega⟩
        refine (ih (d - a) (by omega) (q - 1) (r + a) i2 (by omega)).step fun k => ?_
        rw [bits_Div64.j1, if_pos rfl, e1, e2, if_neg (by omega)]
    by_cases c1 : 4294967296 ≤ q
    · refine (yes (Or.inl c1)).step fun k => ?_
      rw [bits_Div64.l0, if_pos (by omega)]
    · have t := test_eq h.b1 h.u1 (show q < 4294967296 by omega) hr
      by_cases c2 : r * 4294967296 + u < q * b
      · refine (yes (Or.inr c2)).step fun k => ?_
        rw [bits_Div64.l0, if_neg (by omega), t, decide_eq_true c2]
      · have no : Evl (fun k => bits_Div64.j1 k (y : Int) (s : Int) (a : Int) (b : Int) (U : Int) (u : Int) (v : Int) (q : Int) (r : Int) false) res := by
          refine fin.step fun k => ?_
          rw [bits_Div64.j1, if_neg (by decide), ← i.eq h (by omega)]
        refine no.step fun k => ?_
        rw [bits_Div64.l0, if_neg (by omega), t, decide_eq_false c2]
/-- The end: both halves put together, what is left shifted back. -/
def divEnd (y s v Q R q : Nat) : Int × Int := (IntKind.u64.wrap ((IntKind.u64.wrap ((Q : Int) * 4294967296)) + (q : Int)), shr .u64 (IntKind.u64.wrap ((IntKind.u64.wrap ((IntKind.u64.wrap ((R : Int) * 4294967296)) + (v : Int))) - (IntKind.u64.wrap ((q : Int) * (y : Int))))) (s : Int))
theorem l1_f {y a b U u s Q : Nat} (h : Half y a b U u) :
    ∀ (d q r : Nat), Inv y a b U u q r → 4294967296 ≤ r + d → Evl (fun k => bits_Div64.l1 k (y : Int) (s : Int) (a : Int) (b : Int) (u : Int) (Q : Int) (r : Int) (U : Int) (q : Int)) (divEnd y s u Q U ((U * 4294967296 + u) / y)) := by
  intro d
  induction d using Nat.strongRecOn with
  | _ d ih =>
    intro q r i hd
    have ha0 := h.a0; have ha1 := h.a1; have hr := i.r1; have hq := i.q1
    have yes : (4294967296 ≤ q ∨ r * 4294967296 + u < q * b) → Evl (fun k => bits_Div64.j4 k (y : Int) (s : Int) (a : Int) (b : Int) (u : Int) (Q : Int) (r : Int) (U : Int) (q : Int) true) (divEnd y s u Q U ((U * 4294967296 + u) / y)) := fun c => by
      obtain ⟨q0, qd⟩ := i.down h c
      have e1 : IntKind.u64.wrap ((r : Int) + (a : Int)) = ((r + a : Nat) : Int) := by rw [← Int.natCast_add]; exact un _ (by omega)
      have e2 : IntKind.u64.wrap ((q : Int) - 1) = ((q - 1 : Nat) : Int) := by rw [show (q : Int) - 1 = ((q - 1 : Nat) : Int) by omega]; exact un _ (by omega)
      by_cases g : 4294967296 ≤ r + a
      · have eq := i.out h q0 qd g
        refine Evl.here fun k => ?_
        rw [bits_Div64.j4, if_pos rfl, e1, e2, if_pos (by omega), if_pos (by omega), eq]
        rfl
      · have i2 : Inv y a b U u (q - 1) (r + a) := ⟨by
          have := i.sum
          obtain ⟨p, rfl⟩ : ∃ p, q = p + 1 := ⟨q - 1, by omega⟩
          rw [Nat.add_sub_cancel]
          rw [Nat.add_mul, Nat.one_mul] at this
          omega, by omega, qd, by omega⟩
        refine (ih (d - a) (by omega) (q - 1) (r + a) i2 (by omega)).step fun k => ?_
        rw [bits_Div64.j4, if_pos rfl, e1, e2, if_neg (by omega)]
    by_cases c1 : 4294967296 ≤ q
    · refine (yes (Or.inl c1)).step fun k => ?_
      rw [bits_Div64.l1, if_pos (by omega)]
    · have t := test_eq h.b1 h.u1 (show q < 4294967296 by omega) hr
      by_cases c2 : r * 4294967296 + u < q * b
      · refine (yes (Or.inr c2)).step fun k => ?_
        rw [bits_Div64.l1, if_neg (by omega), t, decide_eq_true c2]
      · have no : Evl (fun k => bits_Div64.j4 k (y : Int) (s : Int) (a : Int) (b : Int) (u : Int) (Q : Int) (r : Int) (U : Int) (q : Int) false) (divEnd y s u Q U ((U * 4294967296 + u) / y)) := by
          refine Evl.here fun k => ?_
          rw [bits_Div64.j4, if_neg (by decide), if_pos (by omega), ← i.eq h (by omega)]
          rfl
        refine no.step fun k => ?_
        rw [bits_Div64.l1, if_neg (by omega), t, decide_eq_false c2]
end Go.Proofs.YtdkhaibibpekoaaDoor.Pure
