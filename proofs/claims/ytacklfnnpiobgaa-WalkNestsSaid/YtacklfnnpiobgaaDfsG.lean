/- Every visit: the program's and the document's times are the same, and what holds of them. -/
import Derived.Test.YtacklfnnpiobgaaQ12
import Derived.Test.YtacklfnnpiobgaaQ13
import Derived.Test.YtacklfnnpiobgaaQ4
import Derived.Test.YtacklfnnpiobgaaQ5
import Derived.Test.YtacklfnnpiobgaaDfsF
namespace Go.Proofs.Ytacklfnnpiobgaa.G
open Go.RowKit Go.Proofs.Ytacklfnnpiobgaa.Q Go.Proofs.YtacklfnnpiobgaaW.PrintWords Go.Proofs.YtacklfnnpiobgaaW.PrintLast
set_option linter.unusedVariables false

theorem negs_replicate (m : Nat) : negs (List.replicate m (-1)) = (m : Int) := by
  unfold negs; rw [List.countP_replicate]; rfl
section
variable {n : Int} {E : List S41}
theorem visit_outer (R : Right n E) {O : List (List Int)} (ol : (O.length : Int) = n) (ho : ∀ v : Int, 0 ≤ v → v < n → rd_L2 O v = outL E E.length v) (d : Nat) : ∀ (s : Int) (P Q : List Int) (c : Int), 0 ≤ s → s + d = n → Inv n E [] P Q c → (∀ u, 0 ≤ u → u < s → 0 ≤ rd P u) →
    ∃ P' Q' c', Inv n E [] P' Q' c' ∧ (∀ u, 0 ≤ u → u < n → 0 ≤ rd P' u) ∧ Evl (fun k => walk_Visit.l0 k n E O s P Q c []) (P', Q', 0) ∧ Evl (fun k => compassref04_Visit.l1 k s n E P Q c) (P', Q', 0) := by
  have n1 := R.n1
  induction d with
  | zero =>
    intro s P Q c s0 hs I hP
    refine ⟨P, Q, c, I, fun u u0 u1 => hP u u0 (by omega), Evl.here fun k => ?_, Evl.here fun k => ?_⟩
    · rw [walk_Visit.l0, if_neg (by omega)]
    · rw [compassref04_Visit.l1, if_neg (by omega)]
  | succ d ih =>
    intro s P Q c s0 hs I hP
    have pl := I.pl
    have cc := I.c0
    have w := w1 (i := s) (by omega) (by omega)
    have hg : 0 ≤ s ∧ s < (P.length : Int) ∧ 0 ≤ c ∧ c ≤ 100000 ∧ (([] : List Fr).length : Int) ≤ 100000 := ⟨s0, by omega, cc.1, by omega, by simp⟩
    by_cases q : 0 ≤ rd P s
    · obtain ⟨P', Q', c', a, b, e, f⟩ := ih (s + 1) P Q c (by omega) (by omega) I (fun u u0 u1 => by
        by_cases r : u = s
        · rw [r]; exact q
        · exact hP u u0 (by omega))
      refine ⟨P', Q', c', a, b, e.step fun k => ?_, f.step fun k => ?_⟩
      · rw [walk_Visit.l0, if_pos (by omega), if_pos hg, if_pos q]
      · rw [compassref04_Visit.l1, if_pos (by omega), if_pos s0, if_pos (by omega), if_neg (by omega), w]
    · have I1 := I.enter R s0 (by omega) (by omega) (fun v hv => by simp at hv)
      obtain ⟨P1, Q1, c1, r⟩ := Rest.ex R P.length E.length 0 s [] (P.set s.toNat c) Q (c + 1) (by omega) (by have := negs_le (P.set s.toNat c); rw [List.length_set] at this; exact this) I1 (fun j j0 j1 _ => by omega)
      obtain ⟨I2, mono, _⟩ := r.inv R [] I1 (fun j j0 j1 _ => by omega)
      have rp : ∀ u, 0 ≤ u → rd (P.set s.toNat c) u = if u = s then c else rd P u := fun u u0 => rd_set _ _ _ _ s0 (by omega) u0
      obtain ⟨P', Q', c', a, b, e, f⟩ := ih (s + 1) P1 Q1 c1 (by omega) (by omega) I2 (fun u u0 u1 => mono u u0 (by omega) (by
        rw [rp u u0]; split
        · exact cc.1
        · exact hP u u0 (by omega)))
      have rv := ref_rest R r [] I1 (fun j j0 j1 _ => by omega)
      have fv : Evl (fun k => compassref04_visit.f k n E P Q c s) (P1, Q1, c1) := rv.step fun k => by
        rw [compassref04_visit.f, if_pos s0, if_pos (by omega), w1 (by omega) (by omega)]; rfl
      have i2 := I2.c0
      have b1 := prog_rest R ol ho s r [] [] rfl I1 (fun j j0 j1 _ => by omega) (P', Q', 0) (e.step fun k => by
        rw [walk_Visit.l1, if_neg (by simp)])
      have i1 := I1.c0
      have b2 : Evl (fun k => walk_Visit.l1 k n E O s (P.set s.toNat c) Q (c + 1) ([] ++ [⟨s, 0⟩])) (P', Q', 0) := Evl.step b1 fun k => by
        rw [walk_Visit.l1, if_pos (by simp), if_pos ⟨i1.1, by omega, by simp⟩]; rfl
      refine ⟨P', Q', c', a, b, b2.step fun k => ?_, (Evl.bind (h := fun k (bt : List Int × List Int × Int) => compassref04_Visit.l1 k (wrap64 (s + 1)) n E bt.1 bt.2.1 bt.2.2) fv (f.congr fun k => by rw [w])).step fun k => ?_⟩
      · rw [walk_Visit.l0, if_pos (by omega), if_pos hg, if_neg (by omega)]
      · rw [compassref04_Visit.l1, if_pos (by omega), if_pos s0, if_pos (by omega), if_pos (by omega)]
theorem visit_fill (n1 : n ≤ 1024) (c : Int) (d : Nat) : ∀ (v : Int) (P Q : List Int), 0 ≤ v → v + d = n → (P.length : Int) = n → (Q.length : Int) = n → (∀ u, 0 ≤ u → u < v → rd P u = -1) → (∀ u, 0 ≤ u → u < v → rd Q u = -1) → ∀ z,
    Evl (fun k => compassref04_Visit.l1 k 0 n E (List.replicate n.toNat (-1)) (List.replicate n.toNat (-1)) c) z → Evl (fun k => compassref04_Visit.l0 k v n E P Q c) z := by
  induction d with
  | zero =>
    intro v P Q v0 hv pl ql hP hQ z hz
    have e1 : P = List.replicate n.toNat (-1) := ext_rd _ _ (by rw [List.length_replicate]; omega) fun j j0 j1 => by rw [rd_replicate _ _ _ j0 (by omega)]; exact hP j j0 (by omega)
    have e2 : Q = List.replicate n.toNat (-1) := ext_rd _ _ (by rw [List.length_replicate]; omega) fun j j0 j1 => by rw [rd_replicate _ _ _ j0 (by omega)]; exact hQ j j0 (by omega)
    subst e1 e2
    exact hz.step fun k => by rw [compassref04_Visit.l0, if_neg (by omega)]
  | succ d ih =>
    intro v P Q v0 hv pl ql hP hQ z hz
    refine (ih (v + 1) (P.set v.toNat (-1)) (Q.set v.toNat (-1)) (by omega) (by omega) (by rw [List.length_set]; exact pl) (by rw [List.length_set]; exact ql) (fun u u0 u1 => ?_) (fun u u0 u1 => ?_) z hz).step fun k => ?_
    · rw [rd_set _ _ _ _ v0 (by omega) u0]; split
      · rfl
      · exact hP u u0 (by omega)
    · rw [rd_set _ _ _ _ v0 (by omega) u0]; split
      · rfl
      · exact hQ u u0 (by omega)
    · rw [compassref04_Visit.l0, if_pos (by omega), if_pos v0, if_pos (by omega), if_pos (by omega), w1 (by omega) (by omega)]
/-- Every visit. -/
theorem visits_f (n : Int) (E : List S41) : ∃ P Q c, Evl (fun k => walk_Visit.f k n E) (P, Q, c) ∧ Evl (fun k => compassref04_Visit.f k n E) (P, Q, c) ∧
    (c = 0 → Right n E ∧ (∃ t, Inv n E [] P Q t) ∧ ∀ u, 0 ≤ u → u < n → 0 ≤ rd P u) ∧ (c ≠ 0 → P = [] ∧ Q = []) := by
  obtain ⟨c, a, H1, H2, hz, hc, hr⟩ := check_f n E
  by_cases e : c = 0
  · obtain ⟨-, R⟩ := hz e
    subst e
    have n0 := R.n0
    have n1 := R.n1
    obtain ⟨O, o1, o2, o3⟩ := outs_f n E R
    have fl := filled_f n (-1) n0 (by omega)
    have I : Inv n E [] (List.replicate n.toNat (-1)) (List.replicate n.toNat (-1)) 0 := Inv.start n0 (by rw [List.length_replicate]; omega) (by rw [List.length_replicate]; omega) (fun u u0 u1 => by rw [rd_replicate _ _ _ u0 (by omega)]; omega) (fun u u0 u1 => by rw [rd_replicate _ _ _ u0 (by omega)]; omega) (by rw [negs_replicate]; omega) (by rw [negs_replicate]; omega) R
    obtain ⟨P, Q, t, i1, i2, f1, f2⟩ := visit_outer R o2 o3 n.toNat 0 _ _ 0 (Int.le_refl 0) (by omega) I (fun u u0 u1 => by omega)
    refine ⟨P, Q, 0, ?_, ?_, fun _ => ⟨R, ⟨t, i1⟩, i2⟩, fun h => absurd rfl h⟩
    · refine Evl.bind (h := fun k (bt : Int × Int) => if bt.1 = 0 then (if 0 ≤ n ∧ n ≤ 100000 then ((walk_outs.f k n E).bind fun O => ((walk_filled.f k n (-1)).bind fun P => walk_Visit.l0 k n E O 0 P P 0 [])) else none) else some (([] : List Int), ([] : List Int), bt.1)) H1 ?_
      refine Evl.congr (Evl.bind o1 (h := fun k O => (walk_filled.f k n (-1)).bind fun P => walk_Visit.l0 k n E O 0 P P 0 []) (Evl.bind fl (h := fun k P => walk_Visit.l0 k n E O 0 P P 0 []) f1)) fun k => by rw [if_pos rfl, if_pos ⟨n0, by omega⟩]
    · refine Evl.bind (h := fun k (bt : Int × Int) => if bt.1 = 0 then (if 0 ≤ n then (if (n : Int).toNat ≤ 35184372088832 then (compassref04_Visit.l0 k 0 n E (List.replicate (n : Int).toNat 0) (List.replicate (n : Int).toNat 0) 0) else (none)) else (none)) else (some (([] : List Int), ([] : List Int), bt.1))) H2 ?_
      refine Evl.congr (visit_fill n1 0 n.toNat 0 (List.replicate n.toNat 0) (List.replicate n.toNat 0) (Int.le_refl 0) (by omega) (by rw [List.length_replicate]; omega) (by rw [List.length_replicate]; omega) (fun u u0 u1 => by omega) (fun u u0 u1 => by omega) _ f2) fun k => by rw [if_pos rfl, if_pos n0, if_pos (by omega)]
  · refine ⟨[], [], c, ?_, ?_, fun h => absurd h e, fun _ => ⟨rfl, rfl⟩⟩
    · exact Evl.bind (h := fun k (bt : Int × Int) => if bt.1 = 0 then (if 0 ≤ n ∧ n ≤ 100000 then ((walk_outs.f k n E).bind fun O => ((walk_filled.f k n (-1)).bind fun P => walk_Visit.l0 k n E O 0 P P 0 [])) else none) else some (([] : List Int), ([] : List Int), bt.1)) H1 (Evl.pure.congr fun k => by rw [if_neg e])
    · exact Evl.bind (h := fun k (bt : Int × Int) => if bt.1 = 0 then (if 0 ≤ n then (if (n : Int).toNat ≤ 35184372088832 then (compassref04_Visit.l0 k 0 n E (List.replicate (n : Int).toNat 0) (List.replicate (n : Int).toNat 0) 0) else (none)) else (none)) else (some (([] : List Int), ([] : List Int), bt.1))) H2 (Evl.pure.congr fun k => by rw [if_neg e])
end
end Go.Proofs.Ytacklfnnpiobgaa.G
