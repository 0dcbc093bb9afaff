/- Both visits, the document's and the program's, come to the times of the relation. -/
import Derived.Test.YtacklfnnpiobgaaQ12
import Derived.Test.YtacklfnnpiobgaaQ13
import Derived.Test.YtacklfnnpiobgaaQ4
import Derived.Test.YtacklfnnpiobgaaVisC
import Derived.Test.YtacklfnnpiobgaaDfs
namespace Go.Proofs.Ytacklfnnpiobgaa.G
open Go.RowKit Go.Proofs.Ytacklfnnpiobgaa.Q Go.Proofs.YtacklfnnpiobgaaW.PrintWords Go.Proofs.YtacklfnnpiobgaaW.PrintLast
set_option linter.unusedVariables false

section
variable {n : Int} {E : List S41}
theorem wi (R : Right n E) {i : Nat} (h : i < E.length) : wrap64 ((i : Int) + 1) = ((i + 1 : Nat) : Int) := by
  have := R.m1
  rw [w1 (by omega) (by omega)]; rfl
theorem ref_rest (R : Right n E) {i : Nat} {v : Int} {P Q : List Int} {c : Int} {P' Q' : List Int} {c' : Int} (h : Rest E i v P Q c P' Q' c') : ∀ st, Inv n E (v :: st) P Q c → (∀ j : Int, 0 ≤ j → j < (i : Int) → (rd_T41 E j).f0 = v → 0 ≤ rd P (rd_T41 E j).f1) →
    Evl (fun k => compassref04_visit.l0 k v i n E P Q c) (P', Q', c') := by
  have n1 := R.n1
  induction h with
  | @leave v P Q c =>
    intro st I hj
    have iv := I.inn v (by simp)
    have ql := I.ql
    have cc := I.c0
    exact Evl.here fun k => by rw [compassref04_visit.l0, if_neg (by omega), if_pos iv.1, if_pos (by omega), w1 (by omega) (by omega)]
  | @skip i v P Q c P' Q' c' i1 no r ih =>
    intro st I hj
    have e := R.e i (by omega) (by omega)
    have pl := I.pl
    have w := wi R i1
    refine (ih st I fun j j0 j1 hf => ?_).step fun k => ?_
    · by_cases q : j = i
      · rw [q]; exact Int.not_lt.mp fun a => no ⟨q ▸ hf, a⟩
      · exact hj j j0 (by omega) hf
    · rw [compassref04_visit.l0, if_pos (by omega), if_pos (by omega), w]
      by_cases q : (rd_T41 E i).f0 = v
      · rw [if_pos q, if_pos e.b0, if_pos (by have := e.b1; omega), if_neg (fun a => no ⟨q, a⟩)]
      · rw [if_neg q]
  | @go i v P Q c P1 Q1 c1 P' Q' c' i1 hf hp r1 r2 ih1 ih2 =>
    intro st I hj
    have e := R.e i (by omega) (by omega)
    have pl := I.pl
    have cc := I.c0
    have w := wi R i1
    have rp : ∀ u, 0 ≤ u → rd (P.set (rd_T41 E i).f1.toNat c) u = if u = (rd_T41 E i).f1 then c else rd P u := fun u u0 => rd_set _ _ _ _ e.b0 (by have := e.b1; omega) u0
    have I1 := I.enter R e.b0 e.b1 hp (fun x hx => ⟨i, by omega, by omega, by simp at hx; rw [hf, hx], rfl⟩)
    obtain ⟨a, b, z⟩ := r1.inv R (v :: st) I1 (fun j j0 j1 _ => by omega)
    have f1 : Evl (fun k => compassref04_visit.f k n E P Q c (rd_T41 E i).f1) (P1, Q1, c1) := (ih1 (v :: st) I1 (fun j j0 j1 _ => by omega)).step fun k => by
      rw [compassref04_visit.f, if_pos e.b0, if_pos (by have := e.b1; omega), w1 (by omega) (by omega)]; rfl
    have f2 := ih2 st a (fun j j0 j1 hjf => by
      have ej := R.e j j0 (by omega)
      by_cases q : j = i
      · rw [q]; exact b _ e.b0 e.b1 (by rw [rp _ e.b0, if_pos rfl]; exact cc.1)
      · exact b _ ej.b0 ej.b1 (by rw [rp _ ej.b0]; have := hj j j0 (by omega) hjf; split <;> omega))
    refine (Evl.bind (h := fun k (bt : List Int × List Int × Int) => compassref04_visit.l0 k v ((i + 1 : Nat) : Int) n E bt.1 bt.2.1 bt.2.2) f1 f2).step fun k => ?_
    rw [compassref04_visit.l0, if_pos (by omega), if_pos (by omega), if_pos hf, if_pos e.b0, if_pos (by have := e.b1; omega), if_pos hp, w]

theorem outL_at (E : List S41) (v : Int) {i : Nat} (hf : (rd_T41 E (i : Int)).f0 = v) : ∀ d : Nat, (outL E i v).length < (outL E (i + 1 + d) v).length ∧ rd (outL E (i + 1 + d) v) ((outL E i v).length : Int) = (i : Int) ∧ (outL E (i + 1) v).length = (outL E i v).length + 1
  | 0 => by
    rw [Nat.add_zero, outL_succ, if_pos hf]
    refine ⟨by simp, ?_, by simp⟩
    rw [rd_append _ _ _ (by omega), if_neg (by omega)]
    simp [rd]
  | d + 1 => by
    obtain ⟨a, b, c⟩ := outL_at E v hf d
    rw [show i + 1 + (d + 1) = (i + 1 + d) + 1 by omega, outL_succ]
    split
    · refine ⟨by rw [List.length_append]; omega, ?_, c⟩
      rw [rd_append _ _ _ (by omega), if_pos (by omega)]; exact b
    · exact ⟨a, b, c⟩
theorem fr_top (S : List Fr) (f : Fr) : rd_Fr (S ++ [f]) (((S ++ [f]).length : Int) - 1) = f := by
  unfold rd_Fr
  rw [getD_append, if_neg (by rw [List.length_append, List.length_singleton]; omega), show (((S ++ [f]).length : Int) - 1).toNat - S.length = 0 by rw [List.length_append, List.length_singleton]; omega]; rfl
theorem fr_set (S : List Fr) (f g : Fr) : (S ++ [f]).set (((S ++ [f]).length : Int) - 1).toNat g = S ++ [g] := by
  rw [show (((S ++ [f]).length : Int) - 1).toNat = S.length by rw [List.length_append, List.length_singleton]; omega, List.set_append_right _ _ (Nat.le_refl _), Nat.sub_self]; rfl
theorem fr_take (S : List Fr) (f : Fr) : (S ++ [f]).take ((S ++ [f]).length - 1) = S := by
  rw [show (S ++ [f]).length - 1 = S.length by rw [List.length_append, List.length_singleton]; omega, List.take_left']; rfl
theorem Inv.stack {st P Q : List Int} {c : Int} (I : Inv n E st P Q c) : (st.length : Int) ≤ n := by
  have a := I.stl
  have b := negs_le Q
  have d := negs_nonneg P
  have e := I.ql
  omega

theorem prog_rest (R : Right n E) {O : List (List Int)} (ol : (O.length : Int) = n) (ho : ∀ v : Int, 0 ≤ v → v < n → rd_L2 O v = outL E E.length v) (s : Int) {i : Nat} {v : Int} {P Q : List Int} {c : Int} {P' Q' : List Int} {c' : Int} (h : Rest E i v P Q c P' Q' c') : ∀ st (S : List Fr), S.length = st.length → Inv n E (v :: st) P Q c → (∀ j : Int, 0 ≤ j → j < (i : Int) → (rd_T41 E j).f0 = v → 0 ≤ rd P (rd_T41 E j).f1) →
    ∀ z, Evl (fun k => walk_Visit.l1 k n E O s P' Q' c' S) z → Evl (fun k => walk_Visit.l2 k n E O s P Q c (S ++ [⟨v, ((outL E i v).length : Int)⟩])) z := by
  have n1 := R.n1
  have m1 := R.m1
  -- one round's head
  have head : ∀ {v : Int} {st P Q : List Int} {c : Int} (S : List Fr) (x : Nat), S.length = st.length → Inv n E (v :: st) P Q c → x ≤ E.length → (rd_L2 O v = outL E E.length v) ∧
      ((0 ≤ v ∧ v < (O.length : Int) ∧ v < (Q.length : Int) ∧ 0 ≤ (x : Int) ∧ (x : Int) ≤ 100000) ∧ 0 ≤ c ∧ c ≤ 100000 ∧ 0 < ((S ++ [(⟨v, x⟩ : Fr)]).length : Int) ∧ ((S ++ [(⟨v, x⟩ : Fr)]).length : Int) ≤ 100000) := fun {v st P Q c} S x hS I hx => by
    have iv := I.inn v (by simp)
    have sl := I.stack
    have cc := I.c0
    have ql := I.ql
    rw [List.length_cons] at sl
    rw [List.length_append, List.length_singleton]
    exact ⟨ho v iv.1 iv.2, ⟨iv.1, by omega, by omega, by omega, by omega⟩, cc.1, by omega, by omega, by omega⟩
  induction h with
  | @leave v P Q c =>
    intro st S hS I hj z hz
    obtain ⟨hr, hg⟩ := head S (outL E E.length v).length hS I (outL_len _ _ _)
    refine hz.step fun k => ?_
    rw [walk_Visit.l2, fr_top, fr_take]; dsimp only; rw [if_pos hg, hr, if_neg (by omega)]
  | @skip i v P Q c P' Q' c' i1 no r ih =>
    intro st S hS I hj z hz
    have e := R.e i (by omega) (by omega)
    have pl := I.pl
    have nx := ih st S hS I (fun j j0 j1 hf => by
      by_cases q : j = i
      · rw [q]; exact Int.not_lt.mp fun a => no ⟨q ▸ hf, a⟩
      · exact hj j j0 (by omega) hf) z hz
    by_cases q : (rd_T41 E i).f0 = v
    · obtain ⟨hr, hg⟩ := head S (outL E i v).length hS I (by have := outL_len E i v; omega)
      have at_ := outL_at E v q (E.length - (i + 1))
      rw [show i + 1 + (E.length - (i + 1)) = E.length by omega] at at_
      rw [at_.2.2] at nx
      refine nx.step fun k => ?_
      rw [walk_Visit.l2, fr_top, fr_set]; dsimp only; rw [if_pos hg, hr, if_pos (by have := at_.1; omega), at_.2.1, if_pos ⟨⟨by omega, by omega⟩, e.b0, by have := e.b1; omega⟩, if_neg (fun a => no ⟨q, a⟩)]
      rfl
    · rw [outL_succ, if_neg q] at nx; exact nx
  | @go i v P Q c P1 Q1 c1 P' Q' c' i1 hf hp r1 r2 ih1 ih2 =>
    intro st S hS I hj z hz
    have e := R.e i (by omega) (by omega)
    have pl := I.pl
    have cc := I.c0
    have rp : ∀ u, 0 ≤ u → rd (P.set (rd_T41 E i).f1.toNat c) u = if u = (rd_T41 E i).f1 then c else rd P u := fun u u0 => rd_set _ _ _ _ e.b0 (by have := e.b1; omega) u0
    have I1 := I.enter R e.b0 e.b1 hp (fun x hx => ⟨i, by omega, by omega, by simp at hx; rw [hf, hx], rfl⟩)
    obtain ⟨a, b, _⟩ := r1.inv R (v :: st) I1 (fun j j0 j1 _ => by omega)
    have f2 := ih2 st S hS a (fun j j0 j1 hjf => by
      have ej := R.e j j0 (by omega)
      by_cases q : j = i
      · rw [q]; exact b _ e.b0 e.b1 (by rw [rp _ e.b0, if_pos rfl]; exact cc.1)
      · exact b _ ej.b0 ej.b1 (by rw [rp _ ej.b0]; have := hj j j0 (by omega) hjf; split <;> omega)) z hz
    obtain ⟨hr, hg⟩ := head S (outL E i v).length hS I (by have := outL_len E i v; omega)
    have at_ := outL_at E v hf (E.length - (i + 1))
    rw [show i + 1 + (E.length - (i + 1)) = E.length by omega] at at_
    rw [at_.2.2] at f2
    have as_ := a.stack
    have ac := a.c0
    rw [List.length_cons] at as_
    -- the round of the stack behind the inner visit
    have f3 : Evl (fun k => walk_Visit.l1 k n E O s P1 Q1 c1 (S ++ [⟨v, ((outL E i v).length : Int) + 1⟩])) z := Evl.step f2 fun k => by
      rw [walk_Visit.l1, if_pos (by rw [List.length_append, List.length_singleton]; omega), if_pos ⟨ac.1, by omega, by rw [List.length_append, List.length_singleton]; omega⟩]; rfl
    have f4 := ih1 (v :: st) (S ++ [⟨v, ((outL E i v).length : Int) + 1⟩]) (by rw [List.length_append, List.length_singleton, List.length_cons, hS]) I1 (fun j j0 j1 _ => by omega) z f3
    have s1 := I1.stack
    have c1' := I1.c0
    rw [List.length_cons, List.length_cons] at s1
    have f5 : Evl (fun k => walk_Visit.l1 k n E O s (P.set (rd_T41 E i).f1.toNat c) Q (c + 1) (S ++ [⟨v, ((outL E i v).length : Int) + 1⟩] ++ [⟨(rd_T41 E i).f1, 0⟩])) z := Evl.step f4 fun k => by
      rw [walk_Visit.l1, if_pos (by rw [List.length_append, List.length_singleton]; omega), if_pos ⟨c1'.1, by omega, by rw [List.length_append, List.length_append, List.length_singleton, List.length_singleton]; omega⟩]; rfl
    refine f5.step fun k => ?_
    rw [walk_Visit.l2, fr_top, fr_set]; dsimp only; rw [if_pos hg, hr, if_pos (by have := at_.1; omega), at_.2.1, if_pos ⟨⟨by omega, by omega⟩, e.b0, by have := e.b1; omega⟩, if_pos hp]
end
end Go.Proofs.Ytacklfnnpiobgaa.G
