/- Either all edges go on in the order that is told, which has every node once; or a circle is told, and it is one: at every graph. -/
import Derived.Test.YtacklfnnpiobgaaQ20
import Derived.Test.YtacklfnnpiobgaaQ8
import Derived.KernelRfl
import Derived.Test.YtacklfnnpiobgaaOrdA
namespace Go.Proofs.Ytacklfnnpiobgaa.Pure
open Go.RowKit Go.Proofs.Ytacklfnnpiobgaa.Q Go.Proofs.Ytacklfnnpiobgaa.G Go.Proofs.YtacklfnnpiobgaaW.PrintWords Go.Proofs.YtacklfnnpiobgaaW.PrintLast
set_option linter.unusedVariables false

theorem awake_f : Evl (fun k => compasslaw04_awake.f k) true := Evl.mono (k0 := 60) (by kernel_rfl) (fun k => compasslaw04_awake.mono k)

theorem acyclic_l1 (n : Int) (E : List S41) (hR : Right n E) (P : List Int) (hP : (P.length : Int) = n) (h : ∀ i, 0 ≤ i → i < (E.length : Int) → rd P (rd_T41 E i).f0 < rd P (rd_T41 E i).f1) (d : Nat) :
    ∀ i : Int, 0 ≤ i → i + d = (E.length : Int) → Evl (fun k => compasslaw04_WalkAcyclic.l1 k P E (E.length : Int) i) true := by
  have m1 := hR.m1
  induction d with
  | zero => intro i i0 hi; exact Evl.here fun k => by rw [compasslaw04_WalkAcyclic.l1, if_neg (by omega)]
  | succ d ih =>
    intro i i0 hi
    have i1 : i < (E.length : Int) := by omega
    obtain ⟨a0, a1, b0, b1, -, -, -, -⟩ := hR.e i i0 i1
    have := h i i0 i1
    refine (ih (i + 1) (by omega) (by omega)).step fun k => ?_
    rw [compasslaw04_WalkAcyclic.l1, if_pos i1, if_pos i0, if_pos i1, if_pos a0, if_pos (by omega), if_pos b0, if_pos (by omega), if_neg (by omega), w1 (by omega) (by omega)]

theorem acyclic_l0 (n : Int) (E : List S41) (hR : Right n E) (O : List Int) (B : List Bool) (S : St n E O B) (hO : (O.length : Int) = n) (d : Nat) : ∀ (i : Int) (P : List Int), 0 ≤ i → i + d = (O.length : Int) → (P.length : Int) = n →
    (∀ k, 0 ≤ k → k < i → rd P (rd O k) = k + 1) → (∀ v, 0 ≤ v → v < n → rd P v ≠ 0 → ∃ k, 0 ≤ k ∧ k < i ∧ rd O k = v) → Evl (fun k => compasslaw04_WalkAcyclic.l0 k P O (O.length : Int) i n E) true := by
  have n1 := hR.n1
  induction d with
  | zero =>
    intro i P i0 hi hP hp hz
    have und : undone B = 0 := by have := S.num; omega
    refine (acyclic_l1 n E hR P hP (fun j j0 j1 => ?_) E.length 0 (Int.le_refl 0) (by omega)).step fun k => by rw [compasslaw04_WalkAcyclic.l0, if_neg (by omega)]
    have re := hR.e j j0 j1
    obtain ⟨k, k0, k1, ek⟩ := S.cov _ re.b0 re.b1 (undone_none B und _ re.b0 (by have := S.len; have := re.b1; omega))
    obtain ⟨q, q0, q1, eq⟩ := S.fwd j j0 j1 k k0 k1 ek
    rw [← ek, ← eq, hp k k0 (by omega), hp q q0 (by omega)]; omega
  | succ d ih =>
    intro i P i0 hi hP hp hz
    have i1 : i < (O.length : Int) := by omega
    obtain ⟨a, b, c⟩ := S.mem i i0 i1
    have w := w1 (i := i) (by omega) (by omega)
    have z : rd P (rd O i) = 0 := by
      refine Classical.byContradiction fun h => ?_
      obtain ⟨k, k0, k1, ek⟩ := hz _ a b h
      exact S.dis k i k0 k1 i1 ek
    have rs : ∀ v, 0 ≤ v → rd (P.set (rd O i).toNat (i + 1)) v = if v = rd O i then i + 1 else rd P v := fun v v0 => rd_set _ _ _ _ a (by omega) v0
    refine (ih (i + 1) (P.set (rd O i).toNat (i + 1)) (by omega) (by omega) (by rw [List.length_set]; exact hP) (fun k k0 k1 => ?_) (fun v v0 v1 hv => ?_)).step fun k => ?_
    · rw [rs _ (S.mem k k0 (by omega)).1]
      by_cases e : k = i
      · rw [e, if_pos rfl]
      · rw [if_neg (S.dis k i k0 (by omega) i1)]; exact hp k k0 (by omega)
    · rw [rs v v0] at hv
      by_cases e : v = rd O i
      · exact ⟨i, i0, by omega, e.symm⟩
      · rw [if_neg e] at hv
        obtain ⟨k, k0, k1, ek⟩ := hz v v0 v1 hv
        exact ⟨k, k0, by omega, ek⟩
    · rw [compasslaw04_WalkAcyclic.l0, if_pos i1, if_pos i0, if_pos i1, if_neg (by omega), if_neg (by omega), if_pos a, if_pos (by omega), if_pos z, w]

theorem WalkAcyclic (n : Int) (E : List S41) : ∃ k, compasslaw04_WalkAcyclic.f k n E = some true := by
  obtain ⟨O, C, c, H1, hl, h⟩ := order_f n E
  refine Evl.at (r := true) (g := fun k => compasslaw04_WalkAcyclic.f k n E) ?_
  refine (Evl.bind awake_f (h := fun k t330 => (if t330 = true then ((walk_Order.f k n E).bind fun bt331 => (if bt331.2.2 = 71 then (if (bt331.1.length : Int) = 0 then ((compassref04_Circle.f k n E bt331.2.1).bind fun t338 => (some t338)) else (some false)) else (if bt331.2.2 = 0 then (if (bt331.1.length : Int) = n then (if 0 ≤ n then (if n.toNat ≤ 35184372088832 then (compasslaw04_WalkAcyclic.l0 k (List.replicate n.toNat 0) bt331.1 (bt331.1.length : Int) 0 n E) else (none)) else (none)) else (some false)) else (if (bt331.1.length : Int) = 0 then (some ((bt331.2.1.length : Int) == 0)) else (some false))))) else (some false))) ?_).congr fun k => rfl
  refine Evl.congr (Evl.bind H1 (h := fun k bt331 => (if bt331.2.2 = 71 then (if (bt331.1.length : Int) = 0 then ((compassref04_Circle.f k n E bt331.2.1).bind fun t338 => (some t338)) else (some false)) else (if bt331.2.2 = 0 then (if (bt331.1.length : Int) = n then (if 0 ≤ n then (if n.toNat ≤ 35184372088832 then (compasslaw04_WalkAcyclic.l0 k (List.replicate n.toNat 0) bt331.1 (bt331.1.length : Int) 0 n E) else (none)) else (none)) else (some false)) else (if (bt331.1.length : Int) = 0 then (some ((bt331.2.1.length : Int) == 0)) else (some false))))) ?_) (fun k => by rw [if_pos rfl])
  rcases h with ⟨rfl, rfl, hR, cc⟩ | ⟨rfl, rfl, hR, hO, B, S⟩ | ⟨h0, h71, rfl, rfl⟩
  · refine (Evl.bind (circle_f n E hR C cc) (h := fun k t => some t) Evl.pure).congr fun k => ?_
    dsimp only
    rw [if_pos rfl, if_pos (show ((([] : List Int).length : Nat) : Int) = 0 from rfl)]
  · have n0 := hR.n0
    have n1 := hR.n1
    refine (acyclic_l0 n E hR O B S hO O.length 0 (List.replicate n.toNat 0) (Int.le_refl 0) (by omega) (by rw [List.length_replicate]; omega) (fun k a b => by omega) (fun v a b hv => by
      rw [rd_replicate _ _ _ a (by omega)] at hv; exact absurd rfl hv)).congr fun k => ?_
    dsimp only
    rw [if_neg (show ¬ (0 : Int) = 71 by decide), if_pos rfl, if_pos hO, if_pos n0, if_pos (by omega)]
  · refine Evl.pure.congr fun k => ?_
    dsimp only
    rw [if_neg h71, if_neg h0, if_pos (show ((([] : List Int).length : Nat) : Int) = 0 from rfl)]; rfl
end Go.Proofs.Ytacklfnnpiobgaa.Pure
