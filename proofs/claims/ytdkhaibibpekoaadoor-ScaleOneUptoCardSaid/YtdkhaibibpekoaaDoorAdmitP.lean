/- What Admit answers: the program's and the document's. -/
import Derived.Test.YtdkhaibibpekoaaDoorQ2
import Derived.Test.YtdkhaibibpekoaaDoorQ3
import Derived.Test.YtdkhaibibpekoaaDoorQ6
import Derived.Test.YtdkhaibibpekoaaDoorQ7
import Derived.Test.YtdkhaibibpekoaaDoorQ8
import Derived.Test.YtdkhaibibpekoaaDoorPartsF
namespace Go.Flt
set_option linter.unusedVariables false
/-- Doubled as long as it is within the bound, d times at the most. -/
def grow (most : Nat) : Nat → Nat → Nat
  | m, 0 => m
  | m, d + 1 => if m ≤ most then grow most (2 * m) d else m
theorem grow_zero (most d : Nat) : grow most 0 d = 0 := by
  induction d with
  | zero => rfl
  | succ d ih => rw [grow, if_pos (Nat.zero_le _)]; exact ih
theorem grow_or (most : Nat) : ∀ (d m : Nat), most < grow most m d ∨ grow most m d = m * 2 ^ d := by
  intro d
  induction d with
  | zero => intro m; right; rw [grow, Nat.pow_zero, Nat.mul_one]
  | succ d ih =>
    intro m
    by_cases c : m ≤ most
    · rw [grow, if_pos c, Nat.pow_succ, ← Nat.mul_assoc, Nat.mul_right_comm, Nat.mul_comm m 2]
      exact ih (2 * m)
    · rw [grow, if_neg c]; left; omega
theorem grow_wide (most m d : Nat) (h0 : 0 < m) (h1 : most ≤ 9007199254740992) (h2 : 53 < d) : most < grow most m d := by
  rcases grow_or most d m with h | h
  · exact h
  · rw [h]
    have h3 : 2 ^ 54 ≤ 2 ^ d := Nat.pow_le_pow_right (by decide) h2
    have h4 : 2 ^ d ≤ m * 2 ^ d := Nat.le_mul_of_pos_left _ h0
    omega
def cls (b : Nat) : Nat := if rg b < 9218868437227405312 then 0 else if rg b = 9218868437227405312 then 1 else 2
end Go.Flt
namespace Go.Proofs.YtdkhaibibpekoaaDoor.Pure
open Go.RowKit Go.Flt Go.Proofs.YtdkhaibibpekoaaDoor.Q Go.Proofs.YtdkhaibibpekoaaDoorW.PrintWords Go.Proofs.YtdkhaibibpekoaaDoorW.PrintLast Go.Proofs.YtdkhaibibpekoaaDoorW.PrintMore
set_option linter.unusedVariables false
def lift (X : List Nat) : List Int := X.map fun (n : Nat) => (n : Int)
theorem lift_len (X : List Nat) : (lift X).length = X.length := List.length_map ..
def at_ (X : List Nat) (i : Nat) : Nat := X.getD i 0
theorem rd_lift (X : List Nat) (i : Nat) (h : i < X.length) : rd (lift X) (i : Int) = ((at_ X i : Nat) : Int) := by
  unfold rd lift at_
  rw [Int.toNat_natCast, List.getD_eq_getElem?_getD, List.getElem?_map, List.getD_eq_getElem?_getD, List.getElem?_eq_getElem h]
  rfl
theorem rdOf_at (X : List Nat) (i : Nat) : rdOf (0 : Nat) X (i : Int) = at_ X i := by
  unfold rdOf at_
  rw [Int.toNat_natCast]
theorem class_f (b : Nat) (h : b < 18446744073709551616) : compassref02_Class.f (b : Int) = some ((cls b : Nat) : Int) := by
  unfold compassref02_Class.f
  rw [show Int.tmod ((b : Int) / 4503599627370496) 2048 = ((b / 4503599627370496 % 2048 : Nat) : Int) from rfl, show Int.tmod (b : Int) 4503599627370496 = ((b % 4503599627370496 : Nat) : Int) from rfl]
  unfold cls rg
  by_cases c : b % 9223372036854775808 < 9218868437227405312
  · rw [if_pos c, if_neg (by omega)]; rfl
  · rw [if_neg c, if_pos (by omega)]
    by_cases d : b % 9223372036854775808 = 9218868437227405312
    · rw [if_pos d, if_pos (by omega)]; rfl
    · rw [if_neg d, if_neg (by omega)]; rfl
theorem nan_two (b : Nat) (h : cls b = 2) : math_IsNaN.f b = some true := by
  have r : 9218868437227405312 < rg b := by
    unfold cls at h
    by_cases c : rg b < 9218868437227405312
    · rw [if_pos c] at h; omega
    · by_cases d : rg b = 9218868437227405312
      · rw [if_neg c, if_pos d] at h; omega
      · omega
  unfold math_IsNaN.f
  rw [order_eq]
  unfold Go.Flt.nan
  rw [decide_eq_true r, if_pos (Or.inl rfl)]; rfl
theorem inf_one (b : Nat) (hb : b < 18446744073709551616) (h : cls b = 1) : math_IsNaN.f b = some false ∧ math_IsInf.f b 0 = some true := by
  have r : rg b = 9218868437227405312 := by
    unfold cls at h
    by_cases c : rg b < 9218868437227405312
    · rw [if_pos c] at h; omega
    · by_cases d : rg b = 9218868437227405312
      · exact d
      · rw [if_neg c, if_neg d] at h; omega
  constructor
  · unfold math_IsNaN.f
    have o := order_word (ng b) (ng b) (rg b) (rg b) (by omega) (by omega)
    rw [word_of b hb] at o
    rw [o]
    unfold co
    rw [if_neg (by omega), if_pos rfl]; rfl
  · unfold math_IsInf.f math_Abs.f
    rw [if_pos rfl, abs_any b hb, Option.bind_some, r]
    decide
theorem cls_zero (b : Nat) (h : cls b = 0) : rg b < 9218868437227405312 := by
  unfold cls at h
  by_cases c : rg b < 9218868437227405312
  · exact c
  · rw [if_neg c] at h
    split at h <;> omega
theorem cls_012 (b : Nat) : cls b = 0 ∨ cls b = 1 ∨ cls b = 2 := by
  unfold cls
  split
  · exact Or.inl rfl
  · split
    · exact Or.inr (Or.inl rfl)
    · exact Or.inr (Or.inr rfl)
/-- A row of labels, each taken apart. -/
structure Labs (X : List Nat) (M : Nat → Nat) (D : Nat → Int) : Prop where
  len : X.length < 17592186044416
  lab : ∀ i, i < X.length → Lab (at_ X i) (M i) (D i) (ng (at_ X i))
/-- The least exponent so far, and whether there is one. -/
def st (M : Nat → Nat) (D : Nat → Int) : Nat → Int × Bool
  | 0 => (0, false)
  | i + 1 => if M i = 0 then st M D i else if (st M D i).2 = true then if D i < (st M D i).1 then (D i, true) else st M D i else (D i, true)
theorem wi (i : Nat) (h : i < 17592186044416) : wrap64 ((i : Int) + 1) = ((i + 1 : Nat) : Int) := by rw [w64 (by omega) (by omega)]; rfl
section
variable {X : List Nat} {M : Nat → Nat} {D : Nat → Int}
theorem st_lo (L : Labs X M D) : ∀ n, n ≤ X.length → (∀ i, i < n → M i ≠ 0 → (st M D n).2 = true ∧ (st M D n).1 ≤ D i) ∧ ((st M D n).2 = false → (st M D n).1 = 0) ∧ -1100 ≤ (st M D n).1 ∧ (st M D n).1 ≤ 1100 ∧ ((st M D n).2 = true → ∃ i, i < n ∧ M i ≠ 0 ∧ D i = (st M D n).1) := by
  intro n
  induction n with
  | zero => intro _; exact ⟨fun i h => absurd h (Nat.not_lt_zero _), fun _ => rfl, (by decide : (-1100 : Int) ≤ 0), (by decide : (0 : Int) ≤ 1100), fun h => Bool.noConfusion h⟩
  | succ n ih =>
    intro hn
    obtain ⟨a, b, c, d, e⟩ := ih (by omega)
    have l := L.lab n (by omega)
    have e0 := l.e0
    have e1 := l.e1
    rw [st]
    by_cases z : M n = 0
    · rw [if_pos z]
      refine ⟨fun i hi hm => ?_, b, c, d, fun h => ?_⟩
      · by_cases q : i = n
        · subst q; exact absurd z hm
        · exact a i (by omega) hm
      · obtain ⟨i, hi, hm, hd⟩ := e h
        exact ⟨i, by omega, hm, hd⟩
    · rw [if_neg z]
      by_cases y : (st M D n).2 = true
      · rw [if_pos y]
        by_cases x : D n < (st M D n).1
        · rw [if_pos x]
          refine ⟨fun i hi hm => ⟨rfl, ?_⟩, fun h => Bool.noConfusion h, e0, e1, fun _ => ⟨n, by omega, z, rfl⟩⟩
          by_cases q : i = n
          · subst q; exact Int.le_refl _
          · have := (a i (by omega) hm).2; show D n ≤ D i; omega
        · rw [if_neg x]
          refine ⟨fun i hi hm => ?_, b, c, d, fun h => ?_⟩
          · by_cases q : i = n
            · subst q; exact ⟨y, by omega⟩
            · exact a i (by omega) hm
          · obtain ⟨i, hi, hm, hd⟩ := e h
            exact ⟨i, by omega, hm, hd⟩
      · rw [if_neg y]
        refine ⟨fun i hi hm => ⟨rfl, ?_⟩, fun h => Bool.noConfusion h, e0, e1, fun _ => ⟨n, by omega, z, rfl⟩⟩
        by_cases q : i = n
        · subst q; exact Int.le_refl _
        · exact absurd (a i (by omega) hm).1 y
/-- The program's first loop. -/
theorem prog_first (L : Labs X M D) (most : Int) (res : List Int × Int × Int × Int) (fin : Evl (fun k => scale_Admit.l1 k most (st M D X.length).1 [] X (X.length : Int) 0) res) :
    ∀ (d i : Nat), i + d = X.length → Evl (fun k => scale_Admit.l0 k X most (st M D i).1 (st M D i).2 X (X.length : Int) (i : Int)) res := by
  have ln := L.len
  intro d
  induction d with
  | zero =>
    intro i hi
    obtain rfl : i = X.length := by omega
    refine fin.step fun k => ?_
    rw [scale_Admit.l0, if_neg (by omega), if_pos (by omega), if_pos (by rw [Int.toNat_natCast]; omega)]
  | succ d ih =>
    intro i hi
    have l := L.lab i (by omega)
    have nx := ih (i + 1) (by omega)
    obtain ⟨K, hK⟩ := l.par
    obtain ⟨K2, h2⟩ := nx
    refine ⟨K + K2 + 1, fun k hk => ?_⟩
    obtain ⟨m, rfl⟩ : ∃ m, k = m + 1 := ⟨k - 1, by omega⟩
    have pk : scale_parts.f m (at_ X i) = _ := hK m (by omega)
    have nk : scale_Admit.l0 m X most (st M D (i + 1)).1 (st M D (i + 1)).2 X (X.length : Int) ((i + 1 : Nat) : Int) = some res := h2 m (by omega)
    show scale_Admit.l0 (m + 1) _ _ _ _ _ _ _ = _
    rw [scale_Admit.l0, if_pos (by omega), if_pos (by omega), if_pos (by omega), rdOf_at, l.nan, Option.bind_some, if_neg (by decide), l.inf, Option.bind_some, if_neg (by decide), l.zero, wi i (by omega)]
    rw [st] at nk
    by_cases z : M i = 0
    · rw [decide_eq_true z, if_pos rfl]
      rw [if_pos z] at nk
      exact nk
    · rw [decide_eq_false z, if_neg (by decide), pk, Option.bind_some]
      rw [if_neg z] at nk
      by_cases y : (st M D i).2 = true
      · rw [if_pos y]
        rw [if_pos y] at nk
        by_cases x : D i < (st M D i).1
        · rw [if_pos x]; rw [if_pos x] at nk; exact nk
        · rw [if_neg x]; rw [if_neg x] at nk; exact nk
      · rw [if_neg y]; rw [if_neg y] at nk; exact nk
/-- The document's second loop. -/
theorem ref_second (L : Labs X M D) (most : Int) (res : List Int × Int × Int × Int) (fin : Evl (fun k => compassref02_Admit.l2 k (lift X) most (st M D X.length).1 [] 0) res) :
    ∀ (d i : Nat), i + d = X.length → Evl (fun k => compassref02_Admit.l1 k (lift X) most (st M D i).1 (st M D i).2 (i : Int)) res := by
  have ln := L.len
  have ll := lift_len X
  intro d
  induction d with
  | zero =>
    intro i hi
    obtain rfl : i = X.length := by omega
    refine fin.step fun k => ?_
    rw [compassref02_Admit.l1, if_neg (by omega)]
  | succ d ih =>
    intro i hi
    have l := L.lab i (by omega)
    have nx := ih (i + 1) (by omega)
    obtain ⟨K, hK⟩ := l.ref
    obtain ⟨K2, h2⟩ := nx
    refine ⟨K + K2 + 1, fun k hk => ?_⟩
    obtain ⟨m, rfl⟩ : ∃ m, k = m + 1 := ⟨k - 1, by omega⟩
    have pk : compassref02_Parts.f m (at_ X i : Int) = _ := hK m (by omega)
    have nk : compassref02_Admit.l1 m (lift X) most (st M D (i + 1)).1 (st M D (i + 1)).2 ((i + 1 : Nat) : Int) = some res := h2 m (by omega)
    show compassref02_Admit.l1 (m + 1) _ _ _ _ _ = _
    rw [compassref02_Admit.l1, if_pos (by omega), if_pos (by omega), rd_lift X i (by omega), pk, Option.bind_some, wi i (by omega)]
    rw [st] at nk
    by_cases z : M i = 0
    · rw [if_pos (by omega)]
      rw [if_pos z] at nk
      exact nk
    · rw [if_neg (by omega)]
      rw [if_neg z] at nk
      by_cases y : (st M D i).2 = true
      · rw [if_pos y]
        rw [if_pos y] at nk
        by_cases x : D i < (st M D i).1
        · rw [if_pos x]; rw [if_pos x] at nk; exact nk
        · rw [if_neg x]; rw [if_neg x] at nk; exact nk
      · rw [if_neg y]; rw [if_neg y] at nk; exact nk
/-- The document's first loop: all are numbers. -/
theorem ref_first (L : Labs X M D) (hc : ∀ i, i < X.length → at_ X i < 18446744073709551616 ∧ cls (at_ X i) = 0) (most : Int) (res : List Int × Int × Int × Int) (fin : Evl (fun k => compassref02_Admit.l1 k (lift X) most 0 false 0) res) :
    ∀ (d i : Nat), i + d = X.length → Evl (fun k => compassref02_Admit.l0 k (lift X) most (i : Int)) res := by
  have ln := L.len
  have ll := lift_len X
  intro d
  induction d with
  | zero =>
    intro i hi
    obtain rfl : i = X.length := by omega
    refine fin.step fun k => ?_
    rw [compassref02_Admit.l0, if_neg (by omega)]
  | succ d ih =>
    intro i hi
    obtain ⟨h1, h2⟩ := hc i (by omega)
    refine (ih (i + 1) (by omega)).step fun k => ?_
    rw [compassref02_Admit.l0, if_pos (by omega), if_pos (by omega), rd_lift X i (by omega), class_f _ h1, h2, Option.bind_some, if_neg (by decide), Option.bind_some, if_neg (by decide), wi i (by omega)]
end
end Go.Proofs.YtdkhaibibpekoaaDoor.Pure
