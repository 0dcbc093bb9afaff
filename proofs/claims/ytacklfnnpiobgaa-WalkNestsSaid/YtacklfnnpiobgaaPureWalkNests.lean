/- The times from coming to leaving lie one within another or apart, and no edge leads from what was left to what was not yet come to: at every graph. -/
import Derived.Test.YtacklfnnpiobgaaQ15
import Derived.Test.YtacklfnnpiobgaaQ9
import Derived.KernelRfl
import Derived.Test.YtacklfnnpiobgaaDfsG
namespace Go.Proofs.Ytacklfnnpiobgaa.Pure
open Go.RowKit Go.Proofs.Ytacklfnnpiobgaa.Q Go.Proofs.Ytacklfnnpiobgaa.G Go.Proofs.YtacklfnnpiobgaaW.PrintWords Go.Proofs.YtacklfnnpiobgaaW.PrintLast
set_option linter.unusedVariables false

theorem awake_f : Evl (fun k => compasslaw04_awake.f k) true := Evl.mono (k0 := 60) (by kernel_rfl) (fun k => compasslaw04_awake.mono k)
section
variable {n : Int} {E : List S41} {P Q : List Int} {t : Int}
theorem nests_l3 (R : Right n E) (I : Inv n E [] P Q t) (bl : ∀ u, 0 ≤ u → u < n → 0 ≤ rd Q u) (d : Nat) : ∀ i : Int, 0 ≤ i → i + d = (E.length : Int) → Evl (fun k => compasslaw04_WalkNests.l3 k P Q E (E.length : Int) i) true := by
  have m1 := R.m1
  have pl := I.pl
  have ql := I.ql
  induction d with
  | zero => intro i i0 hi; exact Evl.here fun k => by rw [compasslaw04_WalkNests.l3, if_neg (by omega)]
  | succ d ih =>
    intro i i0 hi
    have e := R.e i i0 (by omega)
    have o := I.out i i0 (by omega) (bl _ e.a0 e.a1)
    refine (ih (i + 1) (by omega) (by omega)).step fun k => ?_
    rw [compasslaw04_WalkNests.l3, if_pos (by omega), if_pos i0, if_pos (by omega), if_pos e.a0, if_pos (by have := e.a1; omega), if_pos e.b0, if_pos (by have := e.b1; omega), if_neg (by omega), w1 (by omega) (by omega)]
theorem nests_l2 (R : Right n E) (I : Inv n E [] P Q t) (vp : ∀ u, 0 ≤ u → u < n → 0 ≤ rd P u) (bl : ∀ u, 0 ≤ u → u < n → 0 ≤ rd Q u) {v : Int} (v0 : 0 ≤ v) (v1 : v < n) (U : List Bool) (a b : Int) (d : Nat) : ∀ u : Int, 0 ≤ u → u + d = n → ∀ z, Evl (fun k => compasslaw04_WalkNests.l0 k P Q U a (wrap64 (b + 1)) n E) z → Evl (fun k => compasslaw04_WalkNests.l2 k P Q U v a b (P.length : Int) u n E) z := by
  have n1 := R.n1
  have pl := I.pl
  have ql := I.ql
  induction d with
  | zero => intro u u0 hu z hz; exact hz.step fun k => by rw [compasslaw04_WalkNests.l2, if_neg (by omega)]
  | succ d ih =>
    intro u u0 hu z hz
    have w := w1 (i := u) (by omega) (by omega)
    refine (ih (u + 1) (by omega) (by omega) z hz).step fun k => ?_
    rw [compasslaw04_WalkNests.l2, if_pos (by omega), if_pos u0, if_pos (by omega), if_pos v0, if_pos (by omega)]
    by_cases c1 : rd P u < rd P v
    · rw [if_pos c1, if_pos (by omega)]
      have o := I.nest u v u0 (by omega) v0 v1 (vp u u0 (by omega)) c1 (bl u u0 (by omega))
      by_cases c2 : rd P v < rd Q u
      · rw [if_pos c2, if_pos (by omega), if_neg (by omega), w]
      · rw [if_neg c2, w]
    · rw [if_neg c1, w]
/-- The numbers that were used by the first nodes. -/
def Used (n : Int) (P Q : List Int) (U : List Bool) (i : Int) : Prop := (U.length : Int) = 2 * n ∧ ∀ x, 0 ≤ x → x < 2 * n → (rdOf false U x = true ↔ ∃ u, 0 ≤ u ∧ u < i ∧ (rd P u = x ∨ rd Q u = x))
theorem nests_l0 (R : Right n E) (I : Inv n E [] P Q t) (vp : ∀ u, 0 ≤ u → u < n → 0 ≤ rd P u) (bl : ∀ u, 0 ≤ u → u < n → 0 ≤ rd Q u) (d : Nat) : ∀ (i : Int) (U : List Bool), 0 ≤ i → i + d = n → Used n P Q U i → Evl (fun k => compasslaw04_WalkNests.l0 k P Q U (P.length : Int) i n E) true := by
  have n1 := R.n1
  have pl := I.pl
  have ql := I.ql
  induction d with
  | zero =>
    intro i U i0 hi hU
    refine (nests_l3 R I bl E.length 0 (Int.le_refl 0) (by omega)).step fun k => ?_
    rw [compasslaw04_WalkNests.l0, if_neg (by omega)]
  | succ d ih =>
    intro i U i0 hi hU
    have i1 : i < n := by omega
    have w := w1 (i := i) (by omega) (by omega)
    have cc := I.c0
    have lt := I.lt i0 i1 cc.1
    have p0 := vp i i0 i1
    have q0 := bl i i0 i1
    have kd : rd P i < rd Q i := by rcases I.kind i i0 i1 with h | h | h <;> omega
    have us : ∀ (U : List Bool) (x y : Int), (U.length : Int) = 2 * n → 0 ≤ x → x < 2 * n → 0 ≤ y → (rdOf false (U.set x.toNat true) y = true ↔ y = x ∨ rdOf false U y = true) := fun U x y hu x0 x1 y0 => by
      rw [rdOf_set _ _ _ _ _ x0 (by omega) y0]
      by_cases q : y = x
      · rw [if_pos q]; exact ⟨fun _ => .inl q, fun _ => rfl⟩
      · rw [if_neg q]; exact ⟨.inr, fun h => h.resolve_left q⟩
    have fp : rdOf false U (rd P i) = false := by
      cases h : rdOf false U (rd P i) with
      | false => rfl
      | true =>
        obtain ⟨u, u0, u1, hx⟩ := (hU.2 _ p0 (by omega)).mp h
        rcases hx with hx | hx
        · exact absurd hx.symm (I.dpp i u i0 i1 u0 (by omega) (by omega) p0)
        · exact absurd hx.symm (I.dpq i u i0 i1 u0 (by omega) p0)
    have fq : rdOf false (U.set (rd P i).toNat true) (rd Q i) = false := by
      cases h : rdOf false (U.set (rd P i).toNat true) (rd Q i) with
      | false => rfl
      | true =>
        rcases (us U _ _ hU.1 p0 (by omega) q0).mp h with h | h
        · omega
        · obtain ⟨u, u0, u1, hx⟩ := (hU.2 _ q0 (by omega)).mp h
          rcases hx with hx | hx
          · exact absurd hx (I.dpq u i u0 (by omega) i0 i1 (vp u u0 (by omega)))
          · exact absurd hx.symm (I.dqq i u i0 i1 u0 (by omega) (by omega) q0)
    have U' : Used n P Q ((U.set (rd P i).toNat true).set (rd Q i).toNat true) (i + 1) := by
      refine ⟨by rw [List.length_set, List.length_set]; exact hU.1, fun x x0 x1 => ?_⟩
      rw [us _ _ _ (by rw [List.length_set]; exact hU.1) q0 (by omega) x0, us U _ _ hU.1 p0 (by omega) x0, hU.2 x x0 x1]
      refine ⟨fun h => ?_, fun h => ?_⟩
      · rcases h with h | h | ⟨u, u0, u1, h⟩
        · exact ⟨i, i0, by omega, .inr h.symm⟩
        · exact ⟨i, i0, by omega, .inl h.symm⟩
        · exact ⟨u, u0, by omega, h⟩
      · obtain ⟨u, u0, u1, h⟩ := h
        by_cases q : u = i
        · rw [q] at h
          rcases h with h | h
          · exact .inr (.inl h.symm)
          · exact .inl h.symm
        · exact .inr (.inr ⟨u, u0, by omega, h⟩)
    have nx := nests_l2 R I vp bl i0 i1 ((U.set (rd P i).toNat true).set (rd Q i).toNat true) (P.length : Int) i n.toNat 0 (Int.le_refl 0) (by omega) true ((ih (i + 1) _ (by omega) (by omega) U').congr fun k => by rw [w])
    -- both times of the node
    have b2 : Evl (fun k => compasslaw04_WalkNests.l1 k P Q ((U.set (rd P i).toNat true).set (rd Q i).toNat true) i (P.length : Int) i [rd P i, rd Q i] 2 2 n E) true := nx.step fun k => by
      rw [compasslaw04_WalkNests.l1, if_neg (by omega), if_pos i0, if_pos (by omega), if_pos (by omega), if_neg (by omega)]
    have b1 : Evl (fun k => compasslaw04_WalkNests.l1 k P Q (U.set (rd P i).toNat true) i (P.length : Int) i [rd P i, rd Q i] 2 1 n E) true := b2.step fun k => by
      have e1 : rd [rd P i, rd Q i] 1 = rd Q i := rfl
      rw [compasslaw04_WalkNests.l1, if_pos (by omega), if_pos (by omega), if_pos (by simp), e1, if_neg (by omega), List.length_set, if_neg (by have := hU.1; omega), if_pos q0, if_pos (by have := hU.1; omega), if_neg (by rw [fq]; simp), w1 (by omega) (by omega)]
      rfl
    have b0 : Evl (fun k => compasslaw04_WalkNests.l1 k P Q U i (P.length : Int) i [rd P i, rd Q i] 2 0 n E) true := b1.step fun k => by
      have e1 : rd [rd P i, rd Q i] 0 = rd P i := rfl
      rw [compasslaw04_WalkNests.l1, if_pos (by omega), if_pos (by omega), if_pos (by simp), e1, if_neg (by omega), if_neg (by have := hU.1; omega), if_pos p0, if_pos (by have := hU.1; omega), if_neg (by rw [fp]; simp), w1 (by omega) (by omega)]
      rfl
    refine b0.step fun k => ?_
    rw [compasslaw04_WalkNests.l0, if_pos (by omega), if_pos i0, if_pos (by omega), if_pos (by omega)]
    rfl
end
theorem WalkNests (n : Int) (E : List S41) : ∃ k, compasslaw04_WalkNests.f k n E = some true := by
  obtain ⟨P, Q, c, H1, -, hz, hn⟩ := visits_f n E
  refine Evl.at (r := true) (g := fun k => compasslaw04_WalkNests.f k n E) ?_
  refine Evl.congr (Evl.bind awake_f (h := fun k t293 => (if t293 = true then ((walk_Visit.f k n E).bind fun bt294 => (if bt294.2.2 = 0 then (if (bt294.1.length : Int) = n then (compasslaw04_WalkNests.j0 k bt294.1 bt294.2.1 ((bt294.2.1.length : Int) != n) n E) else (compasslaw04_WalkNests.j0 k bt294.1 bt294.2.1 true n E)) else (if (bt294.1.length : Int) = 0 then (some ((bt294.2.1.length : Int) == 0)) else (some false)))) else (some false))) ?_) fun k => rfl
  refine Evl.congr (Evl.bind H1 (h := fun k (bt294 : List Int × List Int × Int) => (if bt294.2.2 = 0 then (if (bt294.1.length : Int) = n then (compasslaw04_WalkNests.j0 k bt294.1 bt294.2.1 ((bt294.2.1.length : Int) != n) n E) else (compasslaw04_WalkNests.j0 k bt294.1 bt294.2.1 true n E)) else (if (bt294.1.length : Int) = 0 then (some ((bt294.2.1.length : Int) == 0)) else (some false)))) ?_) fun k => by rw [if_pos rfl]
  by_cases e : c = 0
  · obtain ⟨R, ⟨t, I⟩, vp⟩ := hz e
    have n0 := R.n0
    have n1 := R.n1
    have pl := I.pl
    have ql := I.ql
    have bl : ∀ u, 0 ≤ u → u < n → 0 ≤ rd Q u := fun u u0 u1 => by
      have := vp u u0 u1
      rcases I.kind u u0 u1 with h | h | h
      · omega
      · exact absurd h.2.2.2 (by simp)
      · omega
    have w : wrap64 (2 * n) = 2 * n := by unfold wrap64; omega
    have U0 : Used n P Q (List.replicate (2 * n).toNat false) 0 := ⟨by rw [List.length_replicate]; omega, fun x x0 x1 => by
      rw [rdOf_replicate _ _ _ _ x0 (by omega)]
      exact ⟨fun h => (by cases h), fun ⟨u, u0, u1, _⟩ => (by omega)⟩⟩
    have go := nests_l0 R I vp bl n.toNat 0 _ (Int.le_refl 0) (by omega) U0
    have j : Evl (fun k => compasslaw04_WalkNests.j0 k P Q ((Q.length : Int) != n) n E) true := go.step fun k => by
      have : ((Q.length : Int) != n) = false := bne_eq_false_iff_eq.mpr ql
      rw [compasslaw04_WalkNests.j0, this, if_neg (by decide), w, if_pos (by omega), if_pos (by omega)]
    exact j.congr fun k => by rw [if_pos e, if_pos pl]
  · obtain ⟨rfl, rfl⟩ := hn e
    exact Evl.pure.congr fun k => by rw [if_neg e]; rfl
end Go.Proofs.Ytacklfnnpiobgaa.Pure
