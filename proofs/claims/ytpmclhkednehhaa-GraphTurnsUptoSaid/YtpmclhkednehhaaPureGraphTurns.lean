/- A graph turned about twice is as it was, and each edge goes out once and comes in once: at every graph and node. -/
import Derived.Test.YtpmclhkednehhaaQ11
import Derived.Test.YtpmclhkednehhaaQ44
import Derived.KernelRfl
import Derived.Test.YtpmclhkednehhaaPureGraphChecks
namespace Go.Proofs.Ytpmclhkednehhaa.Pure
open Go.RowKit Go.Proofs.Ytpmclhkednehhaa.Q Go.Proofs.Ytpmclhkednehhaa.G Go.Proofs.YtpmclhkednehhaaW.PrintWords Go.Proofs.YtpmclhkednehhaaW.PrintLast
set_option linter.unusedVariables false
theorem Evl.same {α : Type} {g : Nat → Option α} {a b : α} (h : Evl g a) (k : Evl g b) : a = b := by
  obtain ⟨K, p⟩ := h
  obtain ⟨L, q⟩ := k
  have x := p (K + L) (by omega)
  have y := q (K + L) (by omega)
  rw [x] at y
  exact Option.some.inj y
theorem swp_swp (e : S39) : swp (swp e) = e := rfl
theorem map_swp (E : List S39) : (E.map swp).map swp = E := by
  rw [List.map_map]
  exact (List.map_congr_left (fun e _ => swp_swp e)).trans (List.map_id _)
theorem rd_swp (E : List S39) (i : Nat) (h : i < E.length) : rd_T39 (E.map swp) (i : Int) = swp (rd_T39 E (i : Int)) := by
  unfold rd_T39
  rw [List.getD_eq_getElem?_getD, List.getD_eq_getElem?_getD, Int.toNat_natCast, List.getElem?_map, List.getElem?_eq_getElem h]
  rfl
theorem bad_swp (n : Int) (e : S39) : badE n (swp e) = badE n e := by
  unfold badE swp
  simp only
  repeat' split
  all_goals first | rfl | omega
theorem ref_swp (n : Int) (E : List S39) : ∃ r, Evl (fun k => compassref03_Check.f k n E) r ∧ Evl (fun k => compassref03_Check.f k n (E.map swp)) r := by
  by_cases h1 : n < 0
  · exact ⟨(3, 0), (Evl.here (g := fun k => compassref03_Check.j0 k true n E) fun k => by rw [compassref03_Check.j0, if_pos rfl]).congr fun k => by rw [compassref03_Check.f, if_pos h1], (Evl.here (g := fun k => compassref03_Check.j0 k true n (E.map swp)) fun k => by rw [compassref03_Check.j0, if_pos rfl]).congr fun k => by rw [compassref03_Check.f, if_pos h1]⟩
  · by_cases h2 : n > 1024
    · exact ⟨(3, 0), (Evl.here (g := fun k => compassref03_Check.j0 k true n E) fun k => by rw [compassref03_Check.j0, if_pos rfl]).congr fun k => by rw [compassref03_Check.f, if_neg h1, if_pos h2], (Evl.here (g := fun k => compassref03_Check.j0 k true n (E.map swp)) fun k => by rw [compassref03_Check.j0, if_pos rfl]).congr fun k => by rw [compassref03_Check.f, if_neg h1, if_pos h2]⟩
    · by_cases h3 : (E.length : Int) > 4096
      · exact ⟨(3, 0), (Evl.here (g := fun k => compassref03_Check.j0 k true n E) fun k => by rw [compassref03_Check.j0, if_pos rfl]).congr fun k => by rw [compassref03_Check.f, if_neg h1, if_neg h2, decide_eq_true h3], (Evl.here (g := fun k => compassref03_Check.j0 k true n (E.map swp)) fun k => by rw [compassref03_Check.j0, if_pos rfl]).congr fun k => by rw [compassref03_Check.f, if_neg h1, if_neg h2, List.length_map, decide_eq_true h3]⟩
      · have loop : ∀ (d i : Nat), i + d = E.length → ∃ r, Evl (fun k => compassref03_Check.l0 k (i : Int) n E) r ∧ Evl (fun k => compassref03_Check.l0 k (i : Int) n (E.map swp)) r := by
          intro d
          induction d with
          | zero =>
            intro i hi
            exact ⟨(0, 0), Evl.here fun k => by rw [compassref03_Check.l0, if_neg (by omega)], Evl.here fun k => by rw [compassref03_Check.l0, if_neg (by rw [List.length_map]; omega)]⟩
          | succ d ih =>
            intro i hi
            have w : wrap64 ((i : Int) + 1) = ((i + 1 : Nat) : Int) := by rw [w1 (by omega) (by omega)]; rfl
            obtain ⟨r, e1, e2⟩ := ih (i + 1) (by omega)
            have B := bad_f n (rd_T39 E (i : Int))
            have C := bad_f n (rd_T39 (E.map swp) (i : Int))
            have BC : badE n (rd_T39 (E.map swp) (i : Int)) = badE n (rd_T39 E (i : Int)) := by rw [rd_swp E i (by omega), bad_swp]
            rw [BC] at C
            by_cases z : badE n (rd_T39 E (i : Int)) = 0
            · rw [z] at B C
              refine ⟨r, (Evl.bind (h := fun k t => if t = 0 then compassref03_Check.l0 k (wrap64 ((i : Int) + 1)) n E else some (t, (i : Int))) B (r := r) ?_).step fun k => ?_, (Evl.bind (h := fun k t => if t = 0 then compassref03_Check.l0 k (wrap64 ((i : Int) + 1)) n (E.map swp) else some (t, (i : Int))) C (r := r) ?_).step fun k => ?_⟩
              · exact e1.congr fun k => by rw [if_pos rfl, w]
              · rw [compassref03_Check.l0, if_pos (by omega), if_pos (by omega)]
              · exact e2.congr fun k => by rw [if_pos rfl, w]
              · rw [compassref03_Check.l0, if_pos (by rw [List.length_map]; omega), if_pos (by omega)]
            · refine ⟨(badE n (rd_T39 E (i : Int)), (i : Int)), (Evl.bind (h := fun k t => if t = 0 then compassref03_Check.l0 k (wrap64 ((i : Int) + 1)) n E else some (t, (i : Int))) B (r := (badE n (rd_T39 E (i : Int)), (i : Int))) ?_).step fun k => ?_, (Evl.bind (h := fun k t => if t = 0 then compassref03_Check.l0 k (wrap64 ((i : Int) + 1)) n (E.map swp) else some (t, (i : Int))) C (r := (badE n (rd_T39 E (i : Int)), (i : Int))) ?_).step fun k => ?_⟩
              · exact Evl.pure.congr fun k => by rw [if_neg z]
              · rw [compassref03_Check.l0, if_pos (by omega), if_pos (by omega)]
              · exact Evl.pure.congr fun k => by rw [if_neg z]
              · rw [compassref03_Check.l0, if_pos (by rw [List.length_map]; omega), if_pos (by omega)]
        obtain ⟨r, e1, e2⟩ := loop E.length 0 (by omega)
        refine ⟨r, (e1.step (g := fun k => compassref03_Check.j0 k false n E) fun k => ?_).congr fun k => ?_, (e2.step (g := fun k => compassref03_Check.j0 k false n (E.map swp)) fun k => ?_).congr fun k => ?_⟩
        · rw [compassref03_Check.j0, if_neg (by simp)]; rfl
        · rw [compassref03_Check.f, if_neg h1, if_neg h2, decide_eq_false h3]
        · rw [compassref03_Check.j0, if_neg (by simp)]; rfl
        · rw [compassref03_Check.f, if_neg h1, if_neg h2, List.length_map, decide_eq_false h3]
/-- How many of a list have a number below a bound. -/
theorem count_step (g : Nat → Int) (u : Nat) (l : List Nat) : (l.filter fun i => decide (0 ≤ g i ∧ g i < ((u + 1 : Nat) : Int))).length = (l.filter fun i => decide (0 ≤ g i ∧ g i < (u : Int))).length + (l.filter fun i => g i == (u : Int)).length := by
  induction l with
  | nil => rfl
  | cons x l ih =>
    rw [List.filter_cons, List.filter_cons, List.filter_cons]
    by_cases a : 0 ≤ g x ∧ g x < (u : Int)
    · rw [if_pos (decide_eq_true (by omega)), if_pos (decide_eq_true a), if_neg (by rw [beq_iff_eq]; omega), List.length_cons, List.length_cons, ih]; omega
    · by_cases b : g x = (u : Int)
      · rw [if_pos (decide_eq_true (by omega)), if_neg (by rw [decide_eq_true_eq]; exact a), if_pos (beq_iff_eq.mpr b), List.length_cons, List.length_cons, ih]; omega
      · rw [if_neg (by rw [decide_eq_true_eq]; omega), if_neg (by rw [decide_eq_true_eq]; exact a), if_neg (by rw [beq_iff_eq]; exact b), ih]
theorem tot_count (E : List S39) (u : Nat) : tot E u = ((List.range E.length).filter fun (i : Nat) => decide (0 ≤ (rd_T39 E (i : Int)).f0 ∧ (rd_T39 E (i : Int)).f0 < (u : Int))).length + ((List.range E.length).filter fun (i : Nat) => decide (0 ≤ (rd_T39 E (i : Int)).f1 ∧ (rd_T39 E (i : Int)).f1 < (u : Int))).length := by
  induction u with
  | zero =>
    have z : ∀ g : Nat → Int, ((List.range E.length).filter fun i => decide (0 ≤ g i ∧ g i < ((0 : Nat) : Int))).length = 0 := fun g => by
      rw [List.length_eq_zero_iff, List.filter_eq_nil_iff]
      intro i _
      rw [decide_eq_true_eq]
      omega
    rw [z fun (i : Nat) => (rd_T39 E (i : Int)).f0, z fun (i : Nat) => (rd_T39 E (i : Int)).f1]
    rfl
  | succ u ih =>
    rw [count_step (fun (i : Nat) => (rd_T39 E (i : Int)).f0) u, count_step (fun (i : Nat) => (rd_T39 E (i : Int)).f1) u, tot, ih]
    unfold outs ins pick
    rw [List.length_map, List.length_map]
    exact Nat.add_add_add_comm _ _ _ _
theorem turn_f (v : Int) (E : List S39) : outs v E = ins v (E.map swp) := by
  unfold outs ins pick
  rw [List.length_map]
  congr 1
  refine List.filter_congr fun i hi => ?_
  rw [rd_swp E i (List.mem_range.mp hi)]
  rfl
theorem GraphTurns (n : Int) (E : List S39) (v : Int) (hm0 : E.length ≤ 1048576) : ∃ k, compasslaw03_GraphTurns.f k n E v := by
  have hm : (E.length : Int) ≤ 4398046510976 := by omega
  obtain ⟨c, a, C1, C2, hz, -, -⟩ := check_f n E
  obtain ⟨c', a', X1, X2, -, -, -⟩ := check_f n (E.map swp)
  obtain ⟨r, r1, r2⟩ := ref_swp n E
  have q := (Evl.same C2 r1).trans (Evl.same X2 r2).symm
  injection q with q1 q2
  subst q1
  subst q2
  obtain ⟨c', a', D1, -, -, -, hr⟩ := check_f 2 []
  have R2 : Right 2 [] := ⟨by decide, by decide, by decide, fun i i0 i1 => absurd i1 (by simp only [List.length_nil]; omega)⟩
  obtain rfl := hr R2
  obtain ⟨k1, h1⟩ := Evl.both C1 X1
  obtain ⟨k2, h2⟩ := Evl.both D1 (same_f n E hm)
  have m1 := h1 (k1 + k2) (by omega)
  have m2 := h2 (k1 + k2) (by omega)
  have le : ∀ (p : Nat → Bool), ((List.range E.length).filter p).length ≤ E.length := fun p => Nat.le_trans (List.length_filter_le _ _) (by rw [List.length_range]; exact Nat.le_refl _)
  refine ⟨_, E.map swp, c, a, a', ⟨by omega, by rw [List.length_map], m2.1, rfl, m1.1, m1.2, fun e => (hz e).1, by unfold graph_Reverse.f; rw [if_pos (by omega)], by unfold graph_Reverse.f; rw [if_pos (by rw [List.length_map]; omega), map_swp], m2.2, fun e => ?_, turn_f v E, fun e => ?_, fun u => ?_⟩⟩
  · have R := (hz e).2
    exact ⟨R.n0, R.n1, by have := R.m1; omega⟩
  · have R := (hz e).2
    have all : ∀ g : Nat → Int, (∀ i, i < E.length → 0 ≤ g i ∧ g i < n) → ((List.range E.length).filter fun i => decide (0 ≤ g i ∧ g i < (n.toNat : Int))).length = E.length := fun g hg => by
      rw [List.filter_eq_self.mpr, List.length_range]
      intro i hi
      have := hg i (List.mem_range.mp hi)
      rw [decide_eq_true_eq]
      omega
    rw [tot_count, all (fun (i : Nat) => (rd_T39 E (i : Int)).f0) (fun i hi => by have := R.e (i : Int) (by omega) (by omega); exact ⟨this.a0, this.a1⟩), all (fun (i : Nat) => (rd_T39 E (i : Int)).f1) (fun i hi => by have := R.e (i : Int) (by omega) (by omega); exact ⟨this.b0, this.b1⟩)]
    omega
  · have a1 := le (fun (i : Nat) => decide (0 ≤ (rd_T39 E (i : Int)).f0 ∧ (rd_T39 E (i : Int)).f0 < (u : Int)))
    have a2 := le (fun (i : Nat) => decide (0 ≤ (rd_T39 E (i : Int)).f1 ∧ (rd_T39 E (i : Int)).f1 < (u : Int)))
    rw [tot_count]
    omega
end Go.Proofs.Ytpmclhkednehhaa.Pure
