/- Words for the chapter on walks: what rounds come to, reads behind a write, and right graphs. -/
/- How many numbers of a list are below nothing. -/
/- Parts numbered by their first nodes: such a numbering is known by which nodes it puts together. -/
/- Parts: nodes of one part lie in the same closed sets; all nodes have a part. -/
/- The document's Parts: nodes have the same number just if they lie in the same closed sets. -/
/- The same numbers are told to be the same. -/
/- The parts of a graph, whichever way edges go, and those with a way from each to each, are the document's: at every graph. -/
/- Going into the depth: what one visit does, as a relation, and what holds of the times all along. -/
/- Both visits, the document's and the program's, come to the times of the relation. -/
/- Every visit: the program's and the document's times are the same, and what holds of them. -/
/- The strong parts out of the times of a visit: from the node that was left last, backwards. -/
/- The program's strong parts: two nodes are in one just if each can be come to from the other; numbered by their first nodes. -/
/- A circle among nodes that wait for each other: what 'round' tells, the document takes. -/
/- Order: the program's and the document's order of all edges are one; where there is none, a circle is told. -/
/- Levels: the walk by levels and the document's rounds come to the same distances. -/
/- What is handed in is left as it was, and answers are new memory: at every graph and node. -/
/- A graph that came in, opened: its edges as a list. -/
/- How many edges a graph has that came in. -/
import Derived.Test.YtacklfnnpiobgaaQ0
import Derived.Test.YtacklfnnpiobgaaQ11
import Derived.Test.YtacklfnnpiobgaaQ3
import Derived.Test.YtacklfnnpiobgaaQ4
import Derived.Test.YtacklfnnpiobgaaQ5
import Derived.Test.YtacklfnnpiobgaaQ18
import Derived.Test.YtacklfnnpiobgaaQ19
import Derived.Test.YtacklfnnpiobgaaQ20
import Derived.Test.YtacklfnnpiobgaaQ9
import Derived.KernelRfl
import Derived.Test.YtacklfnnpiobgaaQ12
import Derived.Test.YtacklfnnpiobgaaQ13
import Derived.Test.YtacklfnnpiobgaaVisC
import Derived.Test.YtacklfnnpiobgaaQ16
import Derived.Test.YtacklfnnpiobgaaQ17
import Derived.Test.YtacklfnnpiobgaaRev
import Derived.Test.YtacklfnnpiobgaaQ7
import Derived.Test.YtacklfnnpiobgaaQ8
import Derived.Test.YtacklfnnpiobgaaQ21
import Derived.Test.YtacklfnnpiobgaaQ22
import Derived.Test.YtacklfnnpiobgaaQ6
import Derived.Test.YtacklfnnpiobgaaQ28
import Derived.Deep.Slices
import Derived.Lib.SmallJoins
import Derived.OpenShut
import Derived.ChangeArms
import Derived.SizedLaws
namespace Go.Proofs.Ytacklfnnpiobgaa.G
open Go.RowKit Go.Proofs.Ytacklfnnpiobgaa.Q Go.Proofs.YtacklfnnpiobgaaW.PrintWords Go.Proofs.YtacklfnnpiobgaaW.PrintLast
set_option linter.unusedVariables false

/-- With enough rounds the answer is r. -/
def Evl {α : Type} (g : Nat → Option α) (r : α) : Prop := ∃ K, ∀ k, K ≤ k → g k = some r

section
variable {α β : Type}
theorem Evl.step {g h : Nat → Option α} {r : α} (H : Evl h r) (e : ∀ k, g (k + 1) = h k) : Evl g r := by
  obtain ⟨K, hK⟩ := H
  refine ⟨K + 1, fun k hk => ?_⟩
  obtain ⟨m, rfl⟩ : ∃ m, k = m + 1 := ⟨k - 1, by omega⟩
  rw [e]; exact hK m (by omega)
theorem Evl.here {g : Nat → Option α} {r : α} (e : ∀ k, g (k + 1) = some r) : Evl g r := by
  refine ⟨1, fun k hk => ?_⟩
  obtain ⟨m, rfl⟩ : ∃ m, k = m + 1 := ⟨k - 1, by omega⟩
  exact e m
theorem Evl.pure {r : α} : Evl (fun _ => some r) r := ⟨0, fun _ _ => rfl⟩
theorem Evl.congr {g h : Nat → Option α} {r : α} (H : Evl h r) (e : ∀ k, g k = h k) : Evl g r := by
  obtain ⟨K, hK⟩ := H
  exact ⟨K, fun k hk => by rw [e]; exact hK k hk⟩
theorem Evl.bind {g : Nat → Option α} {h : Nat → α → Option β} {a : α} {r : β} (G : Evl g a) (H : Evl (fun k => h k a) r) : Evl (fun k => (g k).bind (h k)) r := by
  obtain ⟨K, hK⟩ := G
  obtain ⟨L, hL⟩ := H
  exact ⟨max K L, fun k hk => by show (g k).bind (h k) = some r; rw [hK k (by omega), Option.bind_some]; exact hL k (by omega)⟩
theorem Evl.at {g : Nat → Option α} {r : α} (H : Evl g r) : ∃ k, g k = some r := by
  obtain ⟨K, hK⟩ := H
  exact ⟨K, hK K (Nat.le_refl _)⟩
theorem Evl.mono {g : Nat → Option α} {r : α} {k0 : Nat} (h : g k0 = some r) (m : ∀ k, LeO (g k) (g (k + 1))) : Evl g r := by
  refine ⟨k0, fun k hk => ?_⟩
  obtain ⟨d, rfl⟩ : ∃ d, k = k0 + d := ⟨k - k0, by omega⟩
  clear hk
  induction d with
  | zero => exact h
  | succ d ih => exact m _ _ ih
theorem Evl.eq {g : Nat → Option α} {r s : α} (H : Evl g r) (J : Evl g s) : r = s := by
  obtain ⟨K, hK⟩ := H
  obtain ⟨L, hL⟩ := J
  have := hK (max K L) (by omega)
  rw [hL (max K L) (by omega)] at this
  exact (Option.some.inj this).symm
end

section
variable {α : Type}
theorem getD_set (l : List α) (d x : α) (i j : Nat) (h : i < l.length) : (l.set i x).getD j d = if j = i then x else l.getD j d := by
  by_cases e : j = i
  · subst e; rw [if_pos rfl]; simp [List.getD, h]
  · rw [if_neg e]; simp [List.getD, List.getElem?_set_ne (fun a => e a.symm)]
theorem getD_append (l m : List α) (d : α) (j : Nat) : (l ++ m).getD j d = if j < l.length then l.getD j d else m.getD (j - l.length) d := by
  by_cases e : j < l.length
  · rw [if_pos e]; simp [List.getD, List.getElem?_append_left e]
  · rw [if_neg e]; simp [List.getD, List.getElem?_append_right (Nat.le_of_not_lt e)]
theorem getD_mem (l : List α) (d : α) (j : Nat) (h : j < l.length) : l.getD j d ∈ l := by
  rw [List.getD_eq_getElem?_getD, List.getElem?_eq_getElem h]; exact List.getElem_mem h
theorem getD_replicate (n : Nat) (x d : α) (j : Nat) (h : j < n) : (List.replicate n x).getD j d = x := by
  simp [List.getD, h]
theorem ext_getD (l m : List α) (d : α) (hl : l.length = m.length) (h : ∀ j, j < l.length → l.getD j d = m.getD j d) : l = m := by
  apply List.ext_getElem hl
  intro j h1 h2
  have := h j h1
  rwa [List.getD_eq_getElem?_getD, List.getD_eq_getElem?_getD, List.getElem?_eq_getElem h1, List.getElem?_eq_getElem h2] at this
end

theorem rd_set (l : List Int) (x i j : Int) (h0 : 0 ≤ i) (h : i < (l.length : Int)) (hj : 0 ≤ j) : rd (l.set i.toNat x) j = if j = i then x else rd l j := by
  unfold rd
  rw [getD_set l 0 x i.toNat j.toNat (by omega)]
  by_cases e : j = i
  · rw [if_pos e, if_pos (by rw [e])]
  · rw [if_neg e, if_neg (by omega)]
theorem rdOf_set {α : Type} (d : α) (l : List α) (x : α) (i j : Int) (h0 : 0 ≤ i) (h : i < (l.length : Int)) (hj : 0 ≤ j) : rdOf d (l.set i.toNat x) j = if j = i then x else rdOf d l j := by
  unfold rdOf
  rw [getD_set l d x i.toNat j.toNat (by omega)]
  by_cases e : j = i
  · rw [if_pos e, if_pos (by rw [e])]
  · rw [if_neg e, if_neg (by omega)]
theorem rd_L2_set (l : List (List Int)) (x : List Int) (i j : Int) (h0 : 0 ≤ i) (h : i < (l.length : Int)) (hj : 0 ≤ j) : rd_L2 (l.set i.toNat x) j = if j = i then x else rd_L2 l j := by
  unfold rd_L2
  rw [getD_set l [] x i.toNat j.toNat (by omega)]
  by_cases e : j = i
  · rw [if_pos e, if_pos (by rw [e])]
  · rw [if_neg e, if_neg (by omega)]
theorem rd_mem (l : List Int) (j : Int) (h0 : 0 ≤ j) (h : j < (l.length : Int)) : rd l j ∈ l := getD_mem l 0 j.toNat (by omega)
theorem rd_replicate (n : Nat) (x j : Int) (h0 : 0 ≤ j) (h : j < (n : Int)) : rd (List.replicate n x) j = x := getD_replicate n x 0 j.toNat (by omega)
theorem rdOf_replicate {α : Type} (n : Nat) (x d : α) (j : Int) (h0 : 0 ≤ j) (h : j < (n : Int)) : rdOf d (List.replicate n x) j = x := getD_replicate n x d j.toNat (by omega)
theorem rd_append (l m : List Int) (j : Int) (h0 : 0 ≤ j) : rd (l ++ m) j = if j < (l.length : Int) then rd l j else rd m (j - l.length) := by
  unfold rd
  rw [getD_append]
  by_cases e : j < (l.length : Int)
  · rw [if_pos e, if_pos (by omega)]
  · rw [if_neg e, if_neg (by omega)]; congr 1; omega
theorem ext_rd (l m : List Int) (hl : l.length = m.length) (h : ∀ j : Int, 0 ≤ j → j < (l.length : Int) → rd l j = rd m j) : l = m := by
  refine ext_getD l m 0 hl fun j hj => ?_
  have := h (j : Int) (by omega) (by omega)
  unfold rd at this
  simpa using this
theorem mem_rd {l : List Int} {x : Int} (h : x ∈ l) : ∃ j : Int, 0 ≤ j ∧ j < (l.length : Int) ∧ rd l j = x := by
  obtain ⟨j, hj, e⟩ := List.mem_iff_getElem.mp h
  refine ⟨(j : Int), by omega, by omega, ?_⟩
  unfold rd
  rw [List.getD_eq_getElem?_getD, show ((j : Int).toNat) = j by omega, List.getElem?_eq_getElem hj]
  exact e

theorem w1 {i : Int} (h0 : -1000000000000000 ≤ i) (h : i ≤ 1000000000000000) : wrap64 (i + 1) = i + 1 := by
  unfold wrap64; omega
theorem wm {i : Int} (h0 : -1000000000000000 ≤ i) (h : i ≤ 1000000000000000) : wrap64 (i - 1) = i - 1 := by
  unfold wrap64; omega

/-- A right edge between n nodes. -/
structure RightE (n : Int) (e : S41) : Prop where
  a0 : 0 ≤ e.f0
  a1 : e.f0 < n
  b0 : 0 ≤ e.f1
  b1 : e.f1 < n
  c0 : 0 ≤ e.f2
  c1 : e.f2 ≤ 1048576
  d0 : -1048576 ≤ e.f3
  d1 : e.f3 ≤ 1048576

/-- A right graph. -/
structure Right (n : Int) (E : List S41) : Prop where
  n0 : 0 ≤ n
  n1 : n ≤ 1024
  m1 : (E.length : Int) ≤ 4096
  e : ∀ i : Int, 0 ≤ i → i < (E.length : Int) → RightE n (rd_T41 E i)

theorem label_f (e : S41) : graph_label.f e.f0 e.f1 e.f2 e.f3 = some (decide (0 ≤ e.f2 ∧ e.f2 ≤ 1048576 ∧ -1048576 ≤ e.f3 ∧ e.f3 ≤ 1048576)) := by
  unfold graph_label.f
  by_cases h1 : e.f2 ≥ 0
  · rw [if_pos h1]
    by_cases h2 : e.f2 ≤ 1048576
    · rw [if_pos h2]
      by_cases h3 : e.f3 ≥ -1048576
      · rw [if_pos h3]; congr 1
        exact decide_eq_decide.mpr ⟨fun h => ⟨h1, h2, h3, h⟩, fun h => h.2.2.2⟩
      · rw [if_neg h3]; congr 1
        exact (decide_eq_false (by omega)).symm
    · rw [if_neg h2]; congr 1
      exact (decide_eq_false (by omega)).symm
  · rw [if_neg h1]; congr 1
    exact (decide_eq_false (by omega)).symm

/-- The number of what is wrong with an edge. -/
def badE (n : Int) (e : S41) : Int := if e.f0 < 0 ∨ e.f0 ≥ n ∨ e.f1 < 0 ∨ e.f1 ≥ n then 30 else if 0 ≤ e.f2 ∧ e.f2 ≤ 1048576 ∧ -1048576 ≤ e.f3 ∧ e.f3 ≤ 1048576 then 0 else 31

theorem badE_zero {n : Int} {e : S41} (h : badE n e = 0) : RightE n e := by
  unfold badE at h
  by_cases h1 : e.f0 < 0 ∨ e.f0 ≥ n ∨ e.f1 < 0 ∨ e.f1 ≥ n
  · rw [if_pos h1] at h; omega
  · rw [if_neg h1] at h
    by_cases h2 : 0 ≤ e.f2 ∧ e.f2 ≤ 1048576 ∧ -1048576 ≤ e.f3 ∧ e.f3 ≤ 1048576
    · constructor <;> omega
    · rw [if_neg h2] at h; omega
theorem badE_of {n : Int} {e : S41} (h : RightE n e) : badE n e = 0 := by
  obtain ⟨a0, a1, b0, b1, c0, c1, d0, d1⟩ := h
  unfold badE
  rw [if_neg (by omega), if_pos (by omega)]

theorem bad_f (n : Int) (e : S41) : Evl (fun k => compassref03_Bad.f k n e.f0 e.f1 e.f2 e.f3) (badE n e) := by
  have tail : Evl (fun k => compassref03_Bad.j0 k false e.f0 e.f1 e.f2 e.f3) (if 0 ≤ e.f2 ∧ e.f2 ≤ 1048576 ∧ -1048576 ≤ e.f3 ∧ e.f3 ≤ 1048576 then 0 else 31) := by
    refine Evl.here fun k => ?_
    rw [compassref03_Bad.j0, if_neg (by simp)]
    by_cases h1 : e.f2 < 0
    · rw [if_pos h1, if_neg (by omega)]
    · rw [if_neg h1]
      by_cases h2 : e.f2 > 1048576
      · rw [if_pos h2, if_neg (by omega)]
      · rw [if_neg h2]
        by_cases h3 : e.f3 < -1048576
        · rw [if_pos h3, if_neg (by omega)]
        · rw [if_neg h3]
          by_cases h4 : e.f3 > 1048576
          · rw [if_pos h4, if_neg (by omega)]
          · rw [if_neg h4, if_pos (by omega)]
  have yes : Evl (fun k => compassref03_Bad.j0 k true e.f0 e.f1 e.f2 e.f3) 30 := Evl.here fun k => by rw [compassref03_Bad.j0, if_pos rfl]
  unfold badE
  by_cases h1 : e.f0 < 0
  · rw [if_pos (by omega)]; exact yes.congr fun k => by rw [compassref03_Bad.f, if_pos h1]
  · by_cases h2 : e.f1 < 0
    · rw [if_pos (by omega)]; exact yes.congr fun k => by rw [compassref03_Bad.f, if_neg h1, if_pos h2]
    · by_cases h3 : e.f0 ≥ n
      · rw [if_pos (by omega)]; exact yes.congr fun k => by rw [compassref03_Bad.f, if_neg h1, if_neg h2, if_pos h3]
      · by_cases h4 : e.f1 ≥ n
        · rw [if_pos (by omega)]; exact yes.congr fun k => by rw [compassref03_Bad.f, if_neg h1, if_neg h2, if_neg h3, decide_eq_true h4]
        · rw [if_neg (by omega)]; exact tail.congr fun k => by rw [compassref03_Bad.f, if_neg h1, if_neg h2, if_neg h3, decide_eq_false h4]

theorem chk_j2 (n : Int) (E : List S41) (i : Int) (e : S41) (b : Bool) (r : Int × Int)
    (hb : b = decide (e.f0 < 0 ∨ e.f0 ≥ n ∨ e.f1 < 0 ∨ e.f1 ≥ n)) (h0 : badE n e = 0 → Evl (fun k => graph_Check.l0 k E (E.length : Int) (wrap64 (i + 1)) n E) r) (h1 : badE n e ≠ 0 → r = (badE n e, i)) :
    Evl (fun k => graph_Check.j2 k i E (E.length : Int) i b n E e.f0 e.f1 e.f2 e.f3) r := by
  unfold badE at h0 h1
  by_cases c : e.f0 < 0 ∨ e.f0 ≥ n ∨ e.f1 < 0 ∨ e.f1 ≥ n
  · rw [if_pos c] at h1
    rw [decide_eq_true c] at hb
    rw [h1 (by decide), hb]
    exact Evl.here fun k => by rw [graph_Check.j2, if_pos rfl]
  · rw [if_neg c] at h0 h1
    rw [decide_eq_false c] at hb
    subst hb
    by_cases c2 : 0 ≤ e.f2 ∧ e.f2 ≤ 1048576 ∧ -1048576 ≤ e.f3 ∧ e.f3 ≤ 1048576
    · rw [if_pos c2] at h0
      refine (h0 rfl).step fun k => ?_
      rw [graph_Check.j2, if_neg (by simp), label_f, Option.bind_some, if_pos (decide_eq_true c2)]
    · rw [if_neg c2] at h1
      rw [h1 (by decide)]
      refine Evl.here fun k => ?_
      rw [graph_Check.j2, if_neg (by simp), label_f, Option.bind_some, decide_eq_false c2, if_neg (by simp)]

theorem chk_l0 (n : Int) (E : List S41) (hm : (E.length : Int) ≤ 4096) (d : Nat) : ∀ i : Int, 0 ≤ i → i + d = (E.length : Int) → ∃ r : Int × Int,
    Evl (fun k => graph_Check.l0 k E (E.length : Int) i n E) r ∧ Evl (fun k => compassref03_Check.l0 k i n E) r ∧
    (r.1 = 0 → r.2 = 0 ∧ ∀ j : Int, i ≤ j → j < (E.length : Int) → RightE n (rd_T41 E j)) ∧ (r.1 = 0 ∨ r.1 = 30 ∨ r.1 = 31) ∧ ((∀ j : Int, i ≤ j → j < (E.length : Int) → RightE n (rd_T41 E j)) → r.1 = 0) := by
  induction d with
  | zero =>
    intro i h0 hi
    have g : ¬ i < (E.length : Int) := by omega
    refine ⟨(0, 0), Evl.here fun k => ?_, Evl.here fun k => ?_, fun _ => ⟨rfl, fun j h1 h2 => by omega⟩, Or.inl rfl, fun _ => rfl⟩
    · rw [graph_Check.l0, if_neg g]
    · rw [compassref03_Check.l0, if_neg g]
  | succ d ih =>
    intro i h0 hi
    have g : i < (E.length : Int) := by omega
    have w : wrap64 (i + 1) = i + 1 := w1 (by omega) (by omega)
    have two : ∀ r : Int × Int, (badE n (rd_T41 E i) = 0 → Evl (fun k => graph_Check.l0 k E (E.length : Int) (wrap64 (i + 1)) n E) r ∧ Evl (fun k => compassref03_Check.l0 k (wrap64 (i + 1)) n E) r) → (badE n (rd_T41 E i) ≠ 0 → r = (badE n (rd_T41 E i), i)) →
        Evl (fun k => graph_Check.l0 k E (E.length : Int) i n E) r ∧ Evl (fun k => compassref03_Check.l0 k i n E) r := by
      intro r hz hn
      constructor
      · by_cases c1 : (rd_T41 E i).f0 < 0
        · refine (chk_j2 n E i (rd_T41 E i) true r (decide_eq_true (by omega)).symm (fun h => (hz h).1) hn).step fun k => ?_
          rw [graph_Check.l0, if_pos g, if_pos h0, if_pos g, if_pos c1]
        · by_cases c2 : (rd_T41 E i).f0 ≥ n
          · refine (chk_j2 n E i (rd_T41 E i) true r (decide_eq_true (by omega)).symm (fun h => (hz h).1) hn).step fun k => ?_
            rw [graph_Check.l0, if_pos g, if_pos h0, if_pos g, if_neg c1, if_pos c2]
          · by_cases c3 : (rd_T41 E i).f1 < 0
            · refine (chk_j2 n E i (rd_T41 E i) true r (decide_eq_true (by omega)).symm (fun h => (hz h).1) hn).step fun k => ?_
              rw [graph_Check.l0, if_pos g, if_pos h0, if_pos g, if_neg c1, if_neg c2, if_pos c3]
            · refine (chk_j2 n E i (rd_T41 E i) (decide ((rd_T41 E i).f1 ≥ n)) r (decide_eq_decide.mpr (by omega)) (fun h => (hz h).1) hn).step fun k => ?_
              rw [graph_Check.l0, if_pos g, if_pos h0, if_pos g, if_neg c1, if_neg c2, if_neg c3]
      · by_cases z : badE n (rd_T41 E i) = 0
        · have B := bad_f n (rd_T41 E i)
          rw [z] at B
          refine (Evl.bind (h := fun k t => if t = 0 then compassref03_Check.l0 k (wrap64 (i + 1)) n E else some (t, i)) B (r := r) ?_).step fun k => ?_
          · exact (hz z).2.congr fun k => by rw [if_pos rfl]
          · rw [compassref03_Check.l0, if_pos g, if_pos h0]
        · have B := bad_f n (rd_T41 E i)
          rw [hn z]
          refine (Evl.bind (h := fun k t => if t = 0 then compassref03_Check.l0 k (wrap64 (i + 1)) n E else some (t, i)) B (r := (badE n (rd_T41 E i), i)) ?_).step fun k => ?_
          · exact Evl.pure.congr fun k => by rw [if_neg z]
          · rw [compassref03_Check.l0, if_pos g, if_pos h0]
    by_cases z : badE n (rd_T41 E i) = 0
    · obtain ⟨r, e1, e2, hz, ho, hr⟩ := ih (i + 1) (by omega) (by omega)
      obtain ⟨a, b⟩ := two r (fun _ => by rw [w]; exact ⟨e1, e2⟩) (fun h => absurd z h)
      refine ⟨r, a, b, fun h => ⟨(hz h).1, fun j h1 h2 => ?_⟩, ho, fun h => hr fun j h1 h2 => h j (by omega) h2⟩
      by_cases q : j = i
      · rw [q]; exact badE_zero z
      · exact (hz h).2 j (by omega) h2
    · obtain ⟨a, b⟩ := two (badE n (rd_T41 E i), i) (fun h => absurd h z) (fun _ => rfl)
      refine ⟨_, a, b, fun h => absurd h z, ?_, fun h => badE_of (h i (Int.le_refl _) g)⟩
      show badE n (rd_T41 E i) = 0 ∨ badE n (rd_T41 E i) = 30 ∨ badE n (rd_T41 E i) = 31
      unfold badE
      split
      · exact Or.inr (Or.inl rfl)
      · split
        · exact Or.inl rfl
        · exact Or.inr (Or.inr rfl)

/-- Both looks at a graph tell the same fault; none: the graph is right. -/
theorem check_f (n : Int) (E : List S41) : ∃ c a : Int, Evl (fun k => graph_Check.f k n E) (c, a) ∧ Evl (fun k => compassref03_Check.f k n E) (c, a) ∧ (c = 0 → a = 0 ∧ Right n E) ∧ (c = 0 ∨ c = 3 ∨ c = 30 ∨ c = 31) ∧ (Right n E → c = 0) := by
  have yes : Evl (fun k => graph_Check.j0 k true n E) (3, 0) := Evl.here fun k => by rw [graph_Check.j0, if_pos rfl]
  have yes' : Evl (fun k => compassref03_Check.j0 k true n E) (3, 0) := Evl.here fun k => by rw [compassref03_Check.j0, if_pos rfl]
  by_cases h1 : n < 0
  · exact ⟨3, 0, yes.congr fun k => by rw [graph_Check.f, if_pos h1], yes'.congr fun k => by rw [compassref03_Check.f, if_pos h1], by omega, by omega, fun h => absurd h.n0 (by omega)⟩
  · by_cases h2 : n > 1024
    · exact ⟨3, 0, yes.congr fun k => by rw [graph_Check.f, if_neg h1, if_pos h2], yes'.congr fun k => by rw [compassref03_Check.f, if_neg h1, if_pos h2], by omega, by omega, fun h => absurd h.n1 (by omega)⟩
    · by_cases h3 : (E.length : Int) > 4096
      · exact ⟨3, 0, yes.congr fun k => by rw [graph_Check.f, if_neg h1, if_neg h2, decide_eq_true h3], yes'.congr fun k => by rw [compassref03_Check.f, if_neg h1, if_neg h2, decide_eq_true h3], by omega, by omega, fun h => absurd h.m1 (by omega)⟩
      · obtain ⟨⟨c, a⟩, e1, e2, hz, ho, hr⟩ := chk_l0 n E (by omega) E.length 0 (by omega) (by omega)
        refine ⟨c, a, ?_, ?_, fun h => ⟨(hz h).1, by omega, by omega, by omega, fun i a b => (hz h).2 i a b⟩, by simp only at ho; omega, fun h => hr fun j a b => h.e j a b⟩
        · refine (e1.step (g := fun k => graph_Check.j0 k false n E) fun k => ?_).congr fun k => ?_
          · rw [graph_Check.j0, if_neg (by simp)]
          · rw [graph_Check.f, if_neg h1, if_neg h2, decide_eq_false h3]
        · refine (e2.step (g := fun k => compassref03_Check.j0 k false n E) fun k => ?_).congr fun k => ?_
          · rw [compassref03_Check.j0, if_neg (by simp)]
          · rw [compassref03_Check.f, if_neg h1, if_neg h2, decide_eq_false h3]

/-- filled: the same number n times. -/
theorem filled_f (n x : Int) (h0 : 0 ≤ n) (h1 : n ≤ 1000000000) : Evl (fun k => walk_filled.f k n x) (List.replicate n.toNat x) := by
  have loop : ∀ (d : Nat) (l : List Int) (i : Int), 0 ≤ i → i + d = (l.length : Int) → (l.length : Int) ≤ 1000000000 → (∀ j : Int, 0 ≤ j → j < i → rd l j = x) → Evl (fun k => walk_filled.l0 k x l (l.length : Int) i) (List.replicate l.length x) := by
    intro d
    induction d with
    | zero =>
      intro l i h0 hi hl hx
      have : l = List.replicate l.length x := ext_rd _ _ (by simp) fun j a b => by rw [hx j a (by omega), rd_replicate _ _ _ a b]
      exact Evl.here fun k => by rw [walk_filled.l0, if_neg (by omega), ← this]
    | succ d ih =>
      intro l i h0 hi hl hx
      have hlen : (l.set i.toNat x).length = l.length := List.length_set
      have H := ih (l.set i.toNat x) (i + 1) (by omega) (by rw [hlen]; omega) (by rw [hlen]; omega) (fun j a b => by
        rw [rd_set l x i j h0 (by omega) a]
        by_cases e : j = i
        · rw [if_pos e]
        · rw [if_neg e]; exact hx j a (by omega))
      rw [hlen] at H
      refine H.step fun k => ?_
      rw [walk_filled.l0, if_pos (by omega), if_pos h0, if_pos (by omega), w1 (by omega) (by omega)]
  have H := loop n.toNat (List.replicate n.toNat 0) 0 (by omega) (by simp) (by simp; omega) (fun j a b => by omega)
  rw [List.length_replicate] at H
  refine H.congr fun k => ?_
  rw [walk_filled.f, if_pos h0, if_pos (by omega), Option.bind_some, List.length_replicate]

/-- The edges before the j-th that go out of node v, rising. -/
def outL (E : List S41) (j : Nat) (v : Int) : List Int := ((List.range j).filter fun i : Nat => decide ((rd_T41 E (i : Int)).f0 = v)).map Int.ofNat

theorem outL_succ (E : List S41) (j : Nat) (v : Int) : outL E (j + 1) v = if (rd_T41 E (j : Int)).f0 = v then outL E j v ++ [(j : Int)] else outL E j v := by
  unfold outL
  rw [List.range_succ, List.filter_append, List.map_append]
  by_cases h : (rd_T41 E (j : Int)).f0 = v
  · rw [if_pos h, List.filter_cons_of_pos (by simpa using h)]; rfl
  · rw [if_neg h, List.filter_cons_of_neg (by simpa using h)]; simp
theorem mem_outL (E : List S41) (j : Nat) (v x : Int) : x ∈ outL E j v ↔ 0 ≤ x ∧ x < (j : Int) ∧ (rd_T41 E x).f0 = v := by
  unfold outL
  rw [List.mem_map]
  constructor
  · rintro ⟨i, hi, rfl⟩
    rw [List.mem_filter, List.mem_range] at hi
    refine ⟨Int.natCast_nonneg i, by exact Int.ofNat_lt.mpr hi.1, by simpa using hi.2⟩
  · rintro ⟨h0, h1, h2⟩
    refine ⟨x.toNat, ?_, by show ((x.toNat : Nat) : Int) = x; omega⟩
    rw [List.mem_filter, List.mem_range]
    refine ⟨by omega, ?_⟩
    rw [show ((x.toNat : Nat) : Int) = x by omega]; simpa using h2
theorem outL_len (E : List S41) (j : Nat) (v : Int) : (outL E j v).length ≤ j := by
  unfold outL
  rw [List.length_map]
  exact Nat.le_trans (List.length_filter_le _ _) (by rw [List.length_range]; exact Nat.le_refl _)

/-- outs: the edges that go out of each node. -/
theorem outs_f (n : Int) (E : List S41) (hR : Right n E) : ∃ o : List (List Int), Evl (fun k => walk_outs.f k n E) o ∧ (o.length : Int) = n ∧ ∀ v : Int, 0 ≤ v → v < n → rd_L2 o v = outL E E.length v := by
  obtain ⟨n0, n1, m1, he⟩ := hR
  have loop : ∀ (d : Nat) (o : List (List Int)) (i : Nat), i + d = E.length → (o.length : Int) = n → (∀ v : Int, 0 ≤ v → v < n → rd_L2 o v = outL E i v) →
      ∃ o' : List (List Int), Evl (fun k => walk_outs.l0 k o E (E.length : Int) (i : Int)) o' ∧ (o'.length : Int) = n ∧ ∀ v : Int, 0 ≤ v → v < n → rd_L2 o' v = outL E E.length v := by
    intro d
    induction d with
    | zero =>
      intro o i hi ho hv
      obtain rfl : i = E.length := by omega
      exact ⟨o, Evl.here fun k => by rw [walk_outs.l0, if_neg (by omega)], ho, hv⟩
    | succ d ih =>
      intro o i hi ho hv
      have hi' : (i : Int) < (E.length : Int) := by omega
      have re := he (i : Int) (by omega) hi'
      obtain ⟨a0, a1, b0, b1, -, -, -, -⟩ := re
      obtain ⟨o', e, h1, h2⟩ := ih (o.set ((rd_T41 E (i : Int)).f0).toNat (rd_L2 o (rd_T41 E (i : Int)).f0 ++ [(i : Int)])) (i + 1) (by omega) (by rw [List.length_set]; exact ho) (fun v v0 v1 => by
        rw [rd_L2_set _ _ _ _ a0 (by omega) v0, outL_succ]
        by_cases q : v = (rd_T41 E (i : Int)).f0
        · rw [if_pos q, if_pos q.symm, hv _ a0 a1, q]
        · rw [if_neg q, if_neg (fun a => q a.symm)]; exact hv v v0 v1)
      refine ⟨o', e.step fun k => ?_, h1, h2⟩
      have hlen := outL_len E i (rd_T41 E (i : Int)).f0
      rw [walk_outs.l0, if_pos hi', if_pos (by omega), if_pos hi', if_pos a0, if_pos (by omega), if_pos (by rw [hv _ a0 a1]; omega), w1 (by omega) (by omega)]
      rfl
  obtain ⟨o, e, h1, h2⟩ := loop E.length (List.replicate n.toNat []) 0 (by omega) (by simp; omega) (fun v v0 v1 => by
    unfold rd_L2 outL; rw [getD_replicate _ _ _ _ (by omega)]; rfl)
  refine ⟨o, e.congr fun k => ?_, h1, h2⟩
  rw [walk_outs.f, if_pos n0, if_pos (by omega)]
  rfl
end Go.Proofs.Ytacklfnnpiobgaa.G
namespace Go.Proofs.Ytacklfnnpiobgaa.G
open Go.RowKit Go.Proofs.Ytacklfnnpiobgaa.Q Go.Proofs.YtacklfnnpiobgaaW.PrintWords Go.Proofs.YtacklfnnpiobgaaW.PrintLast
set_option linter.unusedVariables false
theorem countP_set (p : Int → Bool) (l : List Int) : ∀ (i : Nat) (x : Int), i < l.length → p (l.getD i 0) = true → p x = false → (l.set i x).countP p + 1 = l.countP p := by
  induction l with
  | nil => intro i x h; exact absurd h (by simp)
  | cons a t ih =>
    intro i x h hp hx
    cases i with
    | zero => simp at hp; simp [hp, hx]
    | succ i =>
      have := ih i x (by simpa using h) (by simpa using hp) hx
      simp only [List.set_cons_succ, List.countP_cons]
      omega

/-- How many nodes are not reached yet. -/
def negs (L : List Int) : Int := (L.countP fun x => decide (x < 0) : Nat)
theorem negs_nonneg (L : List Int) : 0 ≤ negs L := by unfold negs; omega
theorem negs_le (L : List Int) : negs L ≤ (L.length : Int) := by
  unfold negs; have := List.countP_le_length (p := fun x : Int => decide (x < 0)) (l := L); omega
theorem negs_set (L : List Int) (i x : Int) (h0 : 0 ≤ i) (h : i < (L.length : Int)) (hn : rd L i < 0) (hx : 0 ≤ x) : negs (L.set i.toNat x) = negs L - 1 := by
  have := countP_set (fun x => decide (x < 0)) L i.toNat x (by omega) (by unfold rd at hn; exact decide_eq_true hn) (decide_eq_false (by omega))
  unfold negs; omega

end Go.Proofs.Ytacklfnnpiobgaa.G
namespace Go.Proofs.Ytacklfnnpiobgaa.G
open Go.RowKit Go.Proofs.Ytacklfnnpiobgaa.Q Go.Proofs.YtacklfnnpiobgaaW.PrintWords Go.Proofs.YtacklfnnpiobgaaW.PrintLast
set_option linter.unusedVariables false

/-- A node's number is that of an elder node, or the next that is free. -/
def Rg (P : List Int) (v : Int) : Prop := 0 ≤ rd P v ∧ ((∃ u, 0 ≤ u ∧ u < v ∧ rd P u = rd P v) ∨ ((∀ u, 0 ≤ u → u < v → rd P u < rd P v) ∧ (rd P v = 0 ∨ ∃ u, 0 ≤ u ∧ u < v ∧ rd P u = rd P v - 1)))
theorem Rg.of {P P' : List Int} {v : Int} (h : Rg P v) (v0 : 0 ≤ v) (e : ∀ u, 0 ≤ u → u ≤ v → rd P' u = rd P u) : Rg P' v := by
  obtain ⟨a, b⟩ := h
  rw [← e v v0 (Int.le_refl v)] at a b
  refine ⟨a, ?_⟩
  rcases b with ⟨u, u0, u1, h⟩ | ⟨b, c⟩
  · exact .inl ⟨u, u0, u1, by rw [e u u0 (by omega)]; exact h⟩
  · refine .inr ⟨fun u u0 u1 => by rw [e u u0 (by omega)]; exact b u u0 u1, ?_⟩
    rcases c with c | ⟨u, u0, u1, h⟩
    · exact .inl c
    · exact .inr ⟨u, u0, u1, by rw [e u u0 (by omega)]; exact h⟩
theorem rgs_eq {n : Int} {P P' : List Int} (pl : (P.length : Int) = n) (pl' : (P'.length : Int) = n) (h : ∀ v, 0 ≤ v → v < n → Rg P v) (h' : ∀ v, 0 ≤ v → v < n → Rg P' v)
    (same : ∀ u v, 0 ≤ u → u < n → 0 ≤ v → v < n → (rd P u = rd P v ↔ rd P' u = rd P' v)) : P = P' := by
  refine ext_rd _ _ (by omega) fun v v0 v1 => ?_
  have key : ∀ (d : Nat) (v : Int), 0 ≤ v → v < n → v ≤ d → (∀ u, 0 ≤ u → u < v → rd P u = rd P' u) → rd P v = rd P' v := by
    intro d v v0 v1 hd ih
    obtain ⟨a, b⟩ := h v v0 v1
    obtain ⟨a', b'⟩ := h' v v0 v1
    have old : ∀ u, 0 ≤ u → u < v → rd P u = rd P v → rd P v = rd P' v := fun u u0 u1 e => by
      have := (same u v u0 (by omega) v0 v1).mp e
      rw [← e, ih u u0 u1, this]
    rcases b with ⟨u, u0, u1, e⟩ | ⟨b, c⟩
    · exact old u u0 u1 e
    · rcases b' with ⟨u, u0, u1, e⟩ | ⟨b', c'⟩
      · exact old u u0 u1 ((same u v u0 (by omega) v0 v1).mpr e)
      · have l1 : rd P' v ≤ rd P v := by
          rcases c' with c' | ⟨u, u0, u1, e⟩
          · omega
          · have := b u u0 u1; rw [ih u u0 u1] at this; omega
        have l2 : rd P v ≤ rd P' v := by
          rcases c with c | ⟨u, u0, u1, e⟩
          · omega
          · have := b' u u0 u1; rw [← ih u u0 u1] at this; omega
        omega
  have all : ∀ (d : Nat) (v : Int), 0 ≤ v → v < n → v < d → rd P v = rd P' v := by
    intro d
    induction d with
    | zero => intro v v0 v1 hd; omega
    | succ d ih =>
      intro v v0 v1 hd
      exact key d v v0 v1 (by omega) fun u u0 u1 => ih u u0 (by omega) (by omega)
  exact all (v.toNat + 1) v v0 (by omega) (by omega)
/-- Behind the first nodes, numbered below c, each number having its first node: v is numbered by an elder one's number, or c. -/
theorem rg_old {P : List Int} {v u : Int} (u0 : 0 ≤ u) (u1 : u < v) (h : 0 ≤ rd P v) (e : rd P u = rd P v) : Rg P v := ⟨h, .inl ⟨u, u0, u1, e⟩⟩
theorem rg_new {P : List Int} {v c : Int} (c0 : 0 ≤ c) (hv : rd P v = c) (b : ∀ u, 0 ≤ u → u < v → rd P u < c) (wit : ∀ x, 0 ≤ x → x < c → ∃ u, 0 ≤ u ∧ u < v ∧ rd P u = x) : Rg P v := by
  refine ⟨by omega, .inr ⟨fun u u0 u1 => by rw [hv]; exact b u u0 u1, ?_⟩⟩
  by_cases q : c = 0
  · left; omega
  · right
    obtain ⟨u, u0, u1, e⟩ := wit (c - 1) (by omega) (by omega)
    exact ⟨u, u0, u1, by omega⟩
end Go.Proofs.Ytacklfnnpiobgaa.G
namespace Go.Proofs.Ytacklfnnpiobgaa.G
open Go.RowKit Go.Proofs.Ytacklfnnpiobgaa.Q Go.Proofs.YtacklfnnpiobgaaW.PrintWords Go.Proofs.YtacklfnnpiobgaaW.PrintLast
set_option linter.unusedVariables false

/-- A set of nodes that no edge leaves or enters. -/
def Closed (E : List S41) (X : Int → Prop) : Prop := ∀ i, 0 ≤ i → i < (E.length : Int) → (X (rd_T41 E i).f0 ↔ X (rd_T41 E i).f1)

/-- The neighbours of each node, by the edges before the i-th. -/
structure Near (n : Int) (E : List S41) (N : List (List Int)) (i : Int) : Prop where
  len : (N.length : Int) = n
  adj : ∀ v, 0 ≤ v → v < n → ∀ w ∈ rd_L2 N v, 0 ≤ w ∧ w < n ∧ ∃ j, 0 ≤ j ∧ j < i ∧ (((rd_T41 E j).f0 = v ∧ (rd_T41 E j).f1 = w) ∨ ((rd_T41 E j).f1 = v ∧ (rd_T41 E j).f0 = w))
  has : ∀ j, 0 ≤ j → j < i → (rd_T41 E j).f1 ∈ rd_L2 N (rd_T41 E j).f0 ∧ (rd_T41 E j).f0 ∈ rd_L2 N (rd_T41 E j).f1
  bnd : ∀ v, 0 ≤ v → v < n → ((rd_L2 N v).length : Int) ≤ 2 * i

theorem parts_l0 (n : Int) (E : List S41) (hR : Right n E) (d : Nat) : ∀ (i : Int) (N : List (List Int)), 0 ≤ i → i + d = (E.length : Int) → Near n E N i →
    ∃ N', Near n E N' (E.length : Int) ∧ ∀ r, Evl (fun k => (walk_filled.f k n (-1)).bind fun t => walk_Parts.l1 k N' t 0 n 0) r → Evl (fun k => walk_Parts.l0 k N E (E.length : Int) i n E) r := by
  have m1 := hR.m1
  induction d with
  | zero =>
    intro i N i0 hi I
    obtain rfl : i = (E.length : Int) := by omega
    exact ⟨N, I, fun r H => H.step fun k => by rw [walk_Parts.l0, if_neg (by omega)]⟩
  | succ d ih =>
    intro i N i0 hi I
    have i1 : i < (E.length : Int) := by omega
    obtain ⟨a0, a1, b0, b1, -, -, -, -⟩ := hR.e i i0 i1
    have hl := I.len
    have w := w1 (i := i) (by omega) (by omega)
    generalize ha : (rd_T41 E i).f0 = a at a0 a1
    generalize hb : (rd_T41 E i).f1 = b at b0 b1
    have l1 : ((N.set a.toNat (rd_L2 N a ++ [b])).length : Int) = n := by rw [List.length_set]; exact hl
    have r1 : ∀ v, 0 ≤ v → rd_L2 (N.set a.toNat (rd_L2 N a ++ [b])) v = if v = a then rd_L2 N a ++ [b] else rd_L2 N v := fun v v0 => rd_L2_set _ _ _ _ a0 (by omega) v0
    generalize hN1 : N.set a.toNat (rd_L2 N a ++ [b]) = N1 at l1 r1
    have l2 : ((N1.set b.toNat (rd_L2 N1 b ++ [a])).length : Int) = n := by rw [List.length_set]; exact l1
    have r2 : ∀ v, 0 ≤ v → rd_L2 (N1.set b.toNat (rd_L2 N1 b ++ [a])) v = if v = b then rd_L2 N1 b ++ [a] else rd_L2 N1 v := fun v v0 => rd_L2_set _ _ _ _ b0 (by omega) v0
    have n1l : ∀ v, 0 ≤ v → v < n → ((rd_L2 N1 v).length : Int) ≤ 2 * i + 1 := fun v v0 v1 => by
      rw [r1 v v0]
      have := I.bnd v v0 v1
      split
      · rename_i e; rw [List.length_append, List.length_singleton, ← e]; omega
      · omega
    have mem1 : ∀ v, 0 ≤ v → ∀ x, x ∈ rd_L2 N1 v ↔ x ∈ rd_L2 N v ∨ (v = a ∧ x = b) := fun v v0 x => by
      rw [r1 v v0]
      by_cases e : v = a
      · rw [if_pos e, List.mem_append, List.mem_singleton, e]; exact ⟨fun h => h.imp id fun q => ⟨rfl, q⟩, fun h => h.imp id fun q => q.2⟩
      · rw [if_neg e]; exact ⟨Or.inl, fun h => h.elim id fun q => absurd q.1 e⟩
    have mem2 : ∀ v, 0 ≤ v → ∀ x, x ∈ rd_L2 (N1.set b.toNat (rd_L2 N1 b ++ [a])) v ↔ x ∈ rd_L2 N v ∨ (v = a ∧ x = b) ∨ (v = b ∧ x = a) := fun v v0 x => by
      rw [r2 v v0]
      by_cases e : v = b
      · rw [if_pos e, List.mem_append, List.mem_singleton, mem1 b b0, e]
        constructor
        · rintro ((h | h) | h)
          · exact Or.inl h
          · exact Or.inr (Or.inl h)
          · exact Or.inr (Or.inr ⟨rfl, h⟩)
        · rintro (h | h | h)
          · exact Or.inl (Or.inl h)
          · exact Or.inl (Or.inr h)
          · exact Or.inr h.2
      · rw [if_neg e, mem1 v v0]
        exact ⟨fun h => h.imp id Or.inl, fun h => h.imp id fun q => q.elim id fun z => absurd z.1 e⟩
    obtain ⟨N', I', R⟩ := ih (i + 1) _ (by omega) (by omega) (show Near n E (N1.set b.toNat (rd_L2 N1 b ++ [a])) (i + 1) from ⟨l2, fun v v0 v1 x hx => by
      rcases (mem2 v v0 x).mp hx with h | ⟨rfl, rfl⟩ | ⟨rfl, rfl⟩
      · obtain ⟨x0, x1, j, j0, j1, q⟩ := I.adj v v0 v1 x h
        exact ⟨x0, x1, j, j0, by omega, q⟩
      · exact ⟨b0, b1, i, i0, by omega, Or.inl ⟨ha, hb⟩⟩
      · exact ⟨a0, a1, i, i0, by omega, Or.inr ⟨hb, ha⟩⟩, fun j j0 j1 => by
      have re := hR.e j j0 (by omega)
      by_cases e : j = i
      · subst e
        rw [ha, hb]
        exact ⟨(mem2 a a0 b).mpr (Or.inr (Or.inl ⟨rfl, rfl⟩)), (mem2 b b0 a).mpr (Or.inr (Or.inr ⟨rfl, rfl⟩))⟩
      · obtain ⟨p, q⟩ := I.has j j0 (by omega)
        exact ⟨(mem2 _ re.a0 _).mpr (Or.inl p), (mem2 _ re.b0 _).mpr (Or.inl q)⟩, fun v v0 v1 => by
      rw [r2 v v0]
      have := n1l v v0 v1
      split
      · rename_i e; rw [List.length_append, List.length_singleton, ← e]; omega
      · omega⟩)
    have bn := I.bnd a a0 a1
    have bn1 := n1l b b0 b1
    refine ⟨N', I', fun r H => (R r H).step fun k => ?_⟩
    rw [walk_Parts.l0, if_pos i1, if_pos i0, if_pos i1, ha, hb, if_pos a0, if_pos (by omega), if_pos (by omega), Option.bind_some, hN1, if_pos b0, if_pos (by omega), if_pos (by omega), w]

/-- The parts told so far: those below c, and the one that is being told. -/
structure PI (n : Int) (E : List S41) (N : List (List Int)) (P S : List Int) (c x : Int) : Prop where
  len : (P.length : Int) = n
  lo : ∀ v, 0 ≤ v → v < n → -1 ≤ rd P v
  hi : ∀ v, 0 ≤ v → v < n → rd P v ≤ c
  st : ∀ x ∈ S, 0 ≤ x ∧ x < n ∧ rd P x = c
  bnd : (S.length : Int) + negs P ≤ n
  same : ∀ X, Closed E X → ∀ u v, 0 ≤ u → u < n → 0 ≤ v → v < n → 0 ≤ rd P u → rd P u = rd P v → (X u ↔ X v)
  dn : ∀ u, 0 ≤ u → u < n → 0 ≤ rd P u → u ∈ S ∨ u = x ∨ ∀ w ∈ rd_L2 N u, rd P w = rd P u

theorem PI.push {n : Int} {E : List S41} {N : List (List Int)} {P S : List Int} {c x0 v w : Int} (hN : Near n E N (E.length : Int)) (I : PI n E N P S c x0) (c0 : 0 ≤ c) (v0 : 0 ≤ v) (v1 : v < n) (hv : rd P v = c) (w0 : 0 ≤ w) (w1' : w < n) (hw : rd P w < 0) (adj : ∀ X, Closed E X → (X v ↔ X w)) :
    PI n E N (P.set w.toNat c) (S ++ [w]) c x0 ∧ (∀ x, 0 ≤ x → rd (P.set w.toNat c) x = if x = w then c else rd P x) ∧ negs (P.set w.toNat c) = negs P - 1 := by
  have hl := I.len
  have rs : ∀ x, 0 ≤ x → rd (P.set w.toNat c) x = if x = w then c else rd P x := fun x x0 => rd_set _ _ _ _ w0 (by omega) x0
  have ng := negs_set P w c w0 (by omega) hw c0
  refine ⟨⟨by rw [List.length_set]; exact hl, fun x a b => ?_, fun x a b => ?_, fun x hx => ?_, ?_, fun X hX x y a b a' b' h e => ?_, fun u a b h => ?_⟩, rs, ng⟩
  · rw [rs x a]; have := I.lo x a b; split <;> omega
  · rw [rs x a]; have := I.hi x a b; split <;> omega
  · rcases List.mem_append.mp hx with hx | hx
    · obtain ⟨p, q, r⟩ := I.st x hx
      exact ⟨p, q, by rw [rs x p]; split; rfl; exact r⟩
    · rw [List.mem_singleton] at hx
      subst hx
      exact ⟨w0, w1', by rw [rs _ w0, if_pos rfl]⟩
  · rw [List.length_append, List.length_singleton, ng]; have := I.bnd; omega
  · have hz : ∀ z, 0 ≤ z → z < n → rd P z = c → (X w ↔ X z) := fun z z0 z1 hz => (adj X hX).symm.trans (I.same X hX v z v0 v1 z0 z1 (by omega) (by omega))
    rw [rs x a] at h e
    rw [rs y a'] at e
    by_cases ex : x = w
    · rw [if_pos ex] at e
      by_cases ey : y = w
      · rw [ex, ey]
      · rw [if_neg ey] at e; rw [ex]; exact hz y a' b' e.symm
    · rw [if_neg ex] at e h
      by_cases ey : y = w
      · rw [if_pos ey] at e; rw [ey]; exact (hz x a b e).symm
      · rw [if_neg ey] at e; exact I.same X hX x y a b a' b' h e
  · by_cases eu : u = w
    · exact Or.inl (List.mem_append.mpr (Or.inr (List.mem_singleton.mpr eu)))
    · rw [rs u a, if_neg eu] at h
      rcases I.dn u a b h with g | g | g
      · exact Or.inl (List.mem_append.mpr (Or.inl g))
      · exact Or.inr (Or.inl g)
      · refine Or.inr (Or.inr fun y hy => ?_)
        have e := g y hy
        rw [rs u a, if_neg eu, rs y (hN.adj u a b y hy).1, if_neg (fun q => by rw [q] at e; omega), e]

theorem parts_l3 (n : Int) (E : List S41) (hR : Right n E) (N : List (List Int)) (hN : Near n E N (E.length : Int)) (c s : Int) (c0 : 0 ≤ c) (v : Int) (v0 : 0 ≤ v) (v1 : v < n) (d : Nat) : ∀ (j : Int) (P S : List Int), 0 ≤ j → j + d = ((rd_L2 N v).length : Int) → PI n E N P S c v → rd P v = c → (∀ i, 0 ≤ i → i < j → rd P (rd (rd_L2 N v) i) = c) →
    ∃ P' S', PI n E N P' S' c (-1) ∧ (S'.length : Int) + negs P' = S.length + negs P ∧ (∀ x, 0 ≤ x → x < n → 0 ≤ rd P x → rd P' x = rd P x) ∧ ∀ r, Evl (fun k => walk_Parts.l2 k N P' c S' n s) r → Evl (fun k => walk_Parts.l3 k N P c S n s (rd_L2 N v) ((rd_L2 N v).length : Int) j) r := by
  have n1 := hR.n1
  have m1 := hR.m1
  have hb := hN.bnd v v0 v1
  induction d with
  | zero =>
    intro j P S j0 jd I hv hj
    refine ⟨P, S, ⟨I.len, I.lo, I.hi, I.st, I.bnd, I.same, fun u a b h => ?_⟩, rfl, fun x a b h => rfl, fun r H => H.step fun k => by rw [walk_Parts.l3, if_neg (by omega)]⟩
    rcases I.dn u a b h with g | g | g
    · exact Or.inl g
    · refine Or.inr (Or.inr fun y hy => ?_)
      obtain ⟨i, i0, i1, e⟩ := mem_rd (by rw [g] at hy; exact hy)
      rw [← e, hj i i0 (by omega), g, hv]
    · exact Or.inr (Or.inr g)
  | succ d ih =>
    intro j P S j0 jd I hv hj
    have jlt : j < ((rd_L2 N v).length : Int) := by omega
    obtain ⟨w0, w1', q, q0, q1, hq⟩ := hN.adj v v0 v1 _ (rd_mem _ j j0 jlt)
    generalize hw : rd (rd_L2 N v) j = w at w0 w1' hq
    have adj : ∀ X, Closed E X → (X v ↔ X w) := fun X hX => by
      have := hX q q0 q1
      rcases hq with ⟨e1, e2⟩ | ⟨e1, e2⟩
      · rw [← e1, ← e2]; exact this
      · rw [← e1, ← e2]; exact this.symm
    have hl := I.len
    have wj := w1 (i := j) (by omega) (by omega)
    have hbn := I.bnd
    have hng := negs_nonneg P
    by_cases neg : rd P w < 0
    · obtain ⟨I', rs, ng⟩ := PI.push hN I c0 v0 v1 hv w0 w1' neg adj
      obtain ⟨P', S', I2, ms, kp, R⟩ := ih (j + 1) _ _ (by omega) (by omega) I' (by rw [rs v v0]; split; rfl; exact hv) (fun i a b => by
        have h0 := (hN.adj v v0 v1 _ (rd_mem _ i a (by omega))).1
        rw [rs _ h0]
        split
        · rfl
        · rename_i h; by_cases e : i = j
          · rw [e] at h; exact absurd hw h
          · exact hj i a (by omega))
      refine ⟨P', S', I2, by rw [ms, ng, List.length_append, List.length_singleton]; omega, fun x a b h => ?_, fun r H => (R r H).step fun k => ?_⟩
      · have e : rd (P.set w.toNat c) x = rd P x := by rw [rs x a, if_neg (fun e => by rw [e] at h; omega)]
        rw [kp x a b (by rw [e]; exact h), e]
      · rw [walk_Parts.l3, if_pos jlt, if_pos j0, if_pos jlt, hw, if_pos w0, if_pos (by omega), if_pos neg, if_pos (by omega), wj]
    · obtain ⟨P', S', I2, ms, kp, R⟩ := ih (j + 1) P S (by omega) (by omega) I hv (fun i a b => by
        by_cases e : i = j
        · rw [e, hw]
          rcases I.dn w w0 w1' (by omega) with g | g | g
          · exact (I.st w g).2.2
          · rw [g]; exact hv
          · rw [← hv]; refine (g v ?_).symm
            have hh := hN.has q q0 q1
            rcases hq with ⟨e1, e2⟩ | ⟨e1, e2⟩
            · rw [e1, e2] at hh; exact hh.2
            · rw [e1, e2] at hh; exact hh.1
        · exact hj i a (by omega))
      refine ⟨P', S', I2, ms, kp, fun r H => (R r H).step fun k => ?_⟩
      rw [walk_Parts.l3, if_pos jlt, if_pos j0, if_pos jlt, hw, if_pos w0, if_pos (by omega), if_neg neg, wj]

theorem parts_l2 (n : Int) (E : List S41) (hR : Right n E) (N : List (List Int)) (hN : Near n E N (E.length : Int)) (c s : Int) (c0 : 0 ≤ c) (m : Nat) : ∀ (P S : List Int), (S.length : Int) + negs P = m → PI n E N P S c (-1) →
    ∃ P', PI n E N P' [] c (-1) ∧ (∀ x, 0 ≤ x → x < n → 0 ≤ rd P x → rd P' x = rd P x) ∧ ∀ r, Evl (fun k => walk_Parts.l1 k N P' (wrap64 (c + 1)) n (wrap64 (s + 1))) r → Evl (fun k => walk_Parts.l2 k N P c S n s) r := by
  have n1 := hR.n1
  induction m with
  | zero =>
    intro P S hm I
    have hng := negs_nonneg P
    cases S with
    | nil => exact ⟨P, I, fun x a b h => rfl, fun r H => H.step fun k => by rw [walk_Parts.l2, if_neg (by simp)]⟩
    | cons a t => simp only [List.length_cons] at hm; omega
  | succ m ih =>
    intro P S hm I
    have hng := negs_nonneg P
    by_cases h0 : (S.length : Int) > 0
    · have hbn := I.bnd
      have wm' := wm (i := (S.length : Int)) (by omega) (by omega)
      have hmem := rd_mem S ((S.length : Int) - 1) (by omega) (by omega)
      generalize hv : rd S ((S.length : Int) - 1) = v at hmem
      obtain ⟨v0, v1, vc⟩ := I.st v hmem
      have hl := hN.len
      have tl : ((S.take ((S.length : Int) - 1).toNat).length : Int) = S.length - 1 := by rw [List.length_take]; omega
      have hS : S = S.take ((S.length : Int) - 1).toNat ++ [v] := by
        have hlt : ((S.length : Int) - 1).toNat < S.length := by omega
        have e1 : S[((S.length : Int) - 1).toNat] = v := by
          rw [← hv]; unfold rd; rw [List.getD_eq_getElem?_getD, List.getElem?_eq_getElem hlt]; rfl
        conv => lhs; rw [← List.take_append_drop ((S.length : Int) - 1).toNat S, List.drop_eq_getElem_cons hlt, e1, List.drop_eq_nil_of_le (by omega)]
      have It : PI n E N P (S.take ((S.length : Int) - 1).toNat) c v := ⟨I.len, I.lo, I.hi, fun x hx => I.st x (List.mem_of_mem_take hx), by omega, I.same, fun u a b h => by
        rcases I.dn u a b h with g | g | g
        · rw [hS] at g
          rcases List.mem_append.mp g with g | g
          · exact Or.inl g
          · exact Or.inr (Or.inl (List.mem_singleton.mp g))
        · omega
        · exact Or.inr (Or.inr g)⟩
      obtain ⟨P1, S1, I1, ms, kp, R⟩ := parts_l3 n E hR N hN c s c0 v v0 v1 (rd_L2 N v).length 0 P _ (Int.le_refl 0) (by omega) It vc (fun i a b => by omega)
      obtain ⟨P', I', kp', R'⟩ := ih P1 S1 (by omega) I1
      refine ⟨P', I', fun x a b h => ?_, fun r H => (R r (R' r H)).step fun k => ?_⟩
      · rw [kp' x a b (by rw [kp x a b h]; exact h), kp x a b h]
      · rw [walk_Parts.l2, if_pos h0, wm', if_pos (by omega), if_pos (by omega), if_pos (by omega), hv, if_pos v0, if_pos (by omega)]
    · have : S = [] := List.length_eq_zero_iff.mp (by omega)
      subst this
      exact ⟨P, I, fun x a b h => rfl, fun r H => H.step fun k => by rw [walk_Parts.l2, if_neg (by simp)]⟩

theorem parts_l1 (n : Int) (E : List S41) (hR : Right n E) (N : List (List Int)) (hN : Near n E N (E.length : Int)) (m : Nat) : ∀ (s c : Int) (P : List Int), 0 ≤ s → s + m = n → 0 ≤ c → c ≤ s → (P.length : Int) = n → (∀ v, 0 ≤ v → v < n → -1 ≤ rd P v ∧ rd P v < c) →
    (∀ X, Closed E X → ∀ u v, 0 ≤ u → u < n → 0 ≤ v → v < n → 0 ≤ rd P u → rd P u = rd P v → (X u ↔ X v)) → (∀ v, 0 ≤ v → v < s → 0 ≤ rd P v) → (∀ u, 0 ≤ u → u < n → 0 ≤ rd P u → ∀ w ∈ rd_L2 N u, rd P w = rd P u) →
    (∀ x, 0 ≤ x → x < c → ∃ u, 0 ≤ u ∧ u < s ∧ rd P u = x) → (∀ v, 0 ≤ v → v < s → Rg P v) →
    ∃ P', Evl (fun k => walk_Parts.l1 k N P c n s) (P', 0) ∧ (P'.length : Int) = n ∧ (∀ v, 0 ≤ v → v < n → 0 ≤ rd P' v) ∧ (∀ X, Closed E X → ∀ u v, 0 ≤ u → u < n → 0 ≤ v → v < n → rd P' u = rd P' v → (X u ↔ X v)) ∧ (∀ u, 0 ≤ u → u < n → ∀ w ∈ rd_L2 N u, rd P' w = rd P' u) ∧ (∀ v, 0 ≤ v → v < n → Rg P' v) := by
  have n1 := hR.n1
  induction m with
  | zero =>
    intro s c P s0 hs c0 cs hl hb same all dn wit rg
    refine ⟨P, Evl.here fun k => by rw [walk_Parts.l1, if_neg (by omega)], hl, fun v a b => all v a (by omega), fun X hX u v a b a' b' e => same X hX u v a b a' b' (all u a (by omega)) e, fun u a b => dn u a b (all u a (by omega)), fun v a b => rg v a (by omega)⟩
  | succ m ih =>
    intro s c P s0 hs c0 cs hl hb same all dn wit rg
    have ws := w1 (i := s) (by omega) (by omega)
    have wc := w1 (i := c) (by omega) (by omega)
    by_cases h : rd P s ≥ 0
    · obtain ⟨P', H, r⟩ := ih (s + 1) c P (by omega) (by omega) c0 (by omega) hl hb same (fun v a b => by
        by_cases e : v = s
        · rw [e]; exact h
        · exact all v a (by omega)) dn (fun x a b => by
        obtain ⟨u, u0, u1, e⟩ := wit x a b
        exact ⟨u, u0, by omega, e⟩) (fun v a b => by
        by_cases e : v = s
        · obtain ⟨u, u0, u1, e'⟩ := wit (rd P s) h (hb s s0 (by omega)).2
          rw [e]; exact rg_old u0 u1 h e'
        · exact rg v a (by omega))
      exact ⟨P', H.step fun k => by rw [walk_Parts.l1, if_pos (by omega), if_pos s0, if_pos (by omega), if_pos h, ws], r⟩
    · have rs : ∀ x, 0 ≤ x → rd (P.set s.toNat c) x = if x = s then c else rd P x := fun x x0 => rd_set _ _ _ _ s0 (by omega) x0
      have ng := negs_set P s c s0 (by omega) (by omega) c0
      have nl := negs_le P
      have I : PI n E N (P.set s.toNat c) [s] c (-1) := ⟨by rw [List.length_set]; exact hl, fun v a b => by rw [rs v a]; have := hb v a b; split <;> omega, fun v a b => by rw [rs v a]; have := hb v a b; split <;> omega,
        fun x hx => by rw [List.mem_singleton] at hx; subst hx; exact ⟨s0, by omega, by rw [rs _ s0, if_pos rfl]⟩, by rw [List.length_singleton, ng]; omega, fun X hX u v a b a' b' h' e => by
          rw [rs u a] at h' e
          rw [rs v a'] at e
          have hu := hb u a b
          have hv := hb v a' b'
          by_cases eu : u = s
          · by_cases ev : v = s
            · rw [eu, ev]
            · rw [if_pos eu, if_neg ev] at e; omega
          · by_cases ev : v = s
            · rw [if_neg eu, if_pos ev] at e; omega
            · rw [if_neg eu] at h'
              rw [if_neg eu, if_neg ev] at e
              exact same X hX u v a b a' b' h' e, fun u a b h' => by
          by_cases eu : u = s
          · exact Or.inl (List.mem_singleton.mpr eu)
          · rw [rs u a, if_neg eu] at h'
            refine Or.inr (Or.inr fun y hy => ?_)
            have e := dn u a b h' y hy
            rw [rs u a, if_neg eu, rs y (hN.adj u a b y hy).1, if_neg (fun q => by rw [q] at e; omega), e]⟩
      obtain ⟨P1, I1, kp, R⟩ := parts_l2 n E hR N hN c s c0 (1 + negs (P.set s.toNat c)).toNat (P.set s.toNat c) [s] (by have := negs_nonneg (P.set s.toNat c); simp only [List.length_singleton]; omega) I
      rw [ws, wc] at R
      have old : ∀ u, 0 ≤ u → u < s → rd P1 u = rd P u := fun u u0 u1 => by
        have := all u u0 u1
        rw [kp u u0 (by omega) (by rw [rs u u0, if_neg (by omega)]; exact this), rs u u0, if_neg (by omega)]
      obtain ⟨P', H, r⟩ := ih (s + 1) (c + 1) P1 (by omega) (by omega) (by omega) (by omega) I1.len (fun v a b => ⟨I1.lo v a b, by have := I1.hi v a b; omega⟩) I1.same (fun v a b => by
        by_cases e : v = s
        · rw [kp v a (by omega) (by rw [rs v a, if_pos e]; exact c0), rs v a, if_pos e]; exact c0
        · have := all v a (by omega)
          rw [kp v a (by omega) (by rw [rs v a, if_neg e]; exact this), rs v a, if_neg e]; exact this) (fun u a b h' => by
        rcases I1.dn u a b h' with g | g | g
        · simp at g
        · omega
        · exact g) (fun x a b => by
        by_cases e : x = c
        · exact ⟨s, s0, by omega, by rw [kp s s0 (by omega) (by rw [rs s s0, if_pos rfl]; exact c0), rs s s0, if_pos rfl, e]⟩
        · obtain ⟨u, u0, u1, e'⟩ := wit x a (by omega)
          exact ⟨u, u0, by omega, by rw [old u u0 (by omega)]; exact e'⟩) (fun v a b => by
        by_cases e : v = s
        · rw [e]
          refine rg_new c0 (by rw [kp s s0 (by omega) (by rw [rs s s0, if_pos rfl]; exact c0), rs s s0, if_pos rfl]) (fun u u0 u1 => by rw [old u u0 (by omega)]; exact (hb u u0 (by omega)).2) (fun x a b => ?_)
          obtain ⟨u, u0, u1, e'⟩ := wit x a b
          exact ⟨u, u0, by omega, by rw [old u u0 (by omega)]; exact e'⟩
        · exact (rg v a (by omega)).of a fun u u0 u1 => old u u0 (by omega))
      exact ⟨P', (R _ H).step fun k => by rw [walk_Parts.l1, if_pos (by omega), if_pos s0, if_pos (by omega), if_neg h], r⟩

/-- Parts of a right graph. -/
theorem parts_f (n : Int) (E : List S41) (hR : Right n E) : ∃ P, Evl (fun k => walk_Parts.f k n E) (P, 0) ∧ (P.length : Int) = n ∧ (∀ v, 0 ≤ v → v < n → 0 ≤ rd P v) ∧ (∀ X, Closed E X → ∀ u v, 0 ≤ u → u < n → 0 ≤ v → v < n → rd P u = rd P v → (X u ↔ X v)) ∧ (∀ i, 0 ≤ i → i < (E.length : Int) → rd P (rd_T41 E i).f0 = rd P (rd_T41 E i).f1) ∧ (∀ v, 0 ≤ v → v < n → Rg P v) := by
  have n0 := hR.n0
  have n1 := hR.n1
  obtain ⟨c, a, C1, -, -, -, hz⟩ := check_f n E
  obtain rfl := hz hR
  have l0 : ((List.replicate n.toNat ([] : List Int)).length : Int) = n := by rw [List.length_replicate]; omega
  have r0 : ∀ v, 0 ≤ v → v < n → rd_L2 (List.replicate n.toNat ([] : List Int)) v = [] := fun v a b => by unfold rd_L2; exact getD_replicate _ _ _ _ (by omega)
  obtain ⟨N, hN, R⟩ := parts_l0 n E hR E.length 0 (List.replicate n.toNat []) (Int.le_refl 0) (by omega) ⟨l0, fun v a b x hx => by rw [r0 v a b] at hx; simp at hx, fun j a b => by omega, fun v a b => by rw [r0 v a b]; simp⟩
  obtain ⟨P, H, hl, hp, hs, hd, rg⟩ := parts_l1 n E hR N hN n.toNat 0 0 (List.replicate n.toNat (-1)) (Int.le_refl 0) (by omega) (Int.le_refl 0) (Int.le_refl 0) (by rw [List.length_replicate]; omega) (fun v a b => by rw [rd_replicate _ _ _ a (by omega)]; omega)
    (fun X hX u v a b a' b' h e => by rw [rd_replicate _ _ _ a (by omega)] at h; omega) (fun v a b => by omega) (fun u a b h => by rw [rd_replicate _ _ _ a (by omega)] at h; omega) (fun x a b => by omega) (fun v a b => by omega)
  refine ⟨P, ?_, hl, hp, hs, fun i i0 i1 => (hd _ (hR.e i i0 i1).a0 (hR.e i i0 i1).a1 _ (hN.has i i0 i1).1).symm, rg⟩
  refine (Evl.bind C1 (h := fun k bt => if bt.1 = 0 then (if 0 ≤ n then (if n.toNat ≤ 11728124029610 then walk_Parts.l0 k (List.replicate n.toNat []) E (E.length : Int) 0 n E else none) else none) else some (([] : List Int), bt.1)) ?_).congr fun k => rfl
  refine Evl.congr (R _ (Evl.bind (filled_f n (-1) n0 (by omega)) H)) (fun k => by rw [if_pos rfl, if_pos n0, if_pos (by omega)])
end Go.Proofs.Ytacklfnnpiobgaa.G
namespace Go.Proofs.Ytacklfnnpiobgaa.G
open Go.RowKit Go.Proofs.Ytacklfnnpiobgaa.Q Go.Proofs.YtacklfnnpiobgaaW.PrintWords Go.Proofs.YtacklfnnpiobgaaW.PrintLast
set_option linter.unusedVariables false

/-- Both lie in the same closed sets. -/
def Conn (E : List S41) (u v : Int) : Prop := ∀ X, Closed E X → (X u ↔ X v)
/-- The numbers below m. -/
def rng (m : Nat) : List Int := (List.range m).map Int.ofNat
theorem mem_rng (m : Nat) (x : Int) : x ∈ rng m ↔ 0 ≤ x ∧ x < (m : Int) := by
  unfold rng
  rw [List.mem_map]
  constructor
  · rintro ⟨i, hi, rfl⟩
    rw [List.mem_range] at hi
    exact ⟨Int.natCast_nonneg i, by exact Int.ofNat_lt.mpr hi⟩
  · rintro ⟨h0, h1⟩
    exact ⟨x.toNat, by rw [List.mem_range]; omega, by show ((x.toNat : Nat) : Int) = x; omega⟩
theorem len_rng (m : Nat) : (rng m).length = m := by unfold rng; rw [List.length_map, List.length_range]
theorem Conn.refl (E : List S41) (u : Int) : Conn E u u := fun X _ => Iff.rfl
theorem Conn.symm {E : List S41} {u v : Int} (h : Conn E u v) : Conn E v u := fun X hX => (h X hX).symm
theorem Conn.trans {E : List S41} {u v w : Int} (h : Conn E u v) (g : Conn E v w) : Conn E u w := fun X hX => (h X hX).trans (g X hX)
theorem Conn.edge (E : List S41) (i : Int) (i0 : 0 ≤ i) (i1 : i < (E.length : Int)) : Conn E (rd_T41 E i).f0 (rd_T41 E i).f1 := fun X hX => hX i i0 i1

/-- Each node's label: a node of its part, no later than it. -/
structure Lab (n : Int) (E : List S41) (L : List Int) : Prop where
  len : (L.length : Int) = n
  lo : ∀ v, 0 ≤ v → v < n → 0 ≤ rd L v ∧ rd L v ≤ v
  cn : ∀ v, 0 ≤ v → v < n → Conn E (rd L v) v

theorem lab_set {n : Int} {E : List S41} {L : List Int} (h : Lab n E L) {a b : Int} (a0 : 0 ≤ a) (a1 : a < n) (b0 : 0 ≤ b) (b1 : b < n) (le : rd L a ≤ rd L b) (c : Conn E a b) :
    Lab n E (L.set b.toNat (rd L a)) ∧ (∀ v, 0 ≤ v → rd (L.set b.toNat (rd L a)) v = if v = b then rd L a else rd L v) := by
  have hl := h.len
  have rs : ∀ v, 0 ≤ v → rd (L.set b.toNat (rd L a)) v = if v = b then rd L a else rd L v := fun v v0 => rd_set _ _ _ _ b0 (by omega) v0
  refine ⟨⟨by rw [List.length_set]; exact hl, fun v v0 v1 => ?_, fun v v0 v1 => ?_⟩, rs⟩
  · rw [rs v v0]
    have hv := h.lo v v0 v1
    have ha := h.lo a a0 a1
    split
    · rename_i e; rw [e] at hv ⊢; omega
    · exact hv
  · rw [rs v v0]
    split
    · rename_i e; rw [e]; exact (h.cn a a0 a1).trans c
    · exact h.cn v v0 v1

theorem round_l2 (n : Int) (E : List S41) (hR : Right n E) (x : Int) (q : Nat) : ∀ (i : Int) (L : List Int), 0 ≤ i → i + q = (E.length : Int) → Lab n E L →
    ∃ L', Lab n E L' ∧ (∀ v, 0 ≤ v → v < n → rd L' v ≤ rd L v) ∧ (∀ j, i ≤ j → j < (E.length : Int) → rd L' (rd_T41 E j).f0 ≤ rd L (rd_T41 E j).f1 ∧ rd L' (rd_T41 E j).f1 ≤ rd L (rd_T41 E j).f0) ∧
      ∀ r, Evl (fun k => compassref04_Parts.l1 k L' (wrap64 (x + 1)) n E) r → Evl (fun k => compassref04_Parts.l2 k L x i n E) r := by
  have m1 := hR.m1
  induction q with
  | zero =>
    intro i L i0 hi h
    exact ⟨L, h, fun v _ _ => Int.le_refl _, fun j a b => by omega, fun r H => H.step fun k => by rw [compassref04_Parts.l2, if_neg (by omega)]⟩
  | succ q ih =>
    intro i L i0 hi h
    have i1 : i < (E.length : Int) := by omega
    have w := w1 (i := i) (by omega) (by omega)
    have hl := h.len
    have re := hR.e i i0 i1
    have ce := Conn.edge E i i0 i1
    obtain ⟨a0, a1, b0, b1, -, -, -, -⟩ := re
    have key : ∃ L1, Lab n E L1 ∧ (∀ v, 0 ≤ v → v < n → rd L1 v ≤ rd L v) ∧ rd L1 (rd_T41 E i).f0 ≤ rd L (rd_T41 E i).f1 ∧ rd L1 (rd_T41 E i).f1 ≤ rd L (rd_T41 E i).f0 ∧
        ∀ r, Evl (fun k => compassref04_Parts.l2 k L1 x (i + 1) n E) r → Evl (fun k => compassref04_Parts.l2 k L x i n E) r := by
      by_cases lt : rd L (rd_T41 E i).f0 < rd L (rd_T41 E i).f1
      · obtain ⟨h1, rs⟩ := lab_set h a0 a1 b0 b1 (by omega) ce
        refine ⟨_, h1, fun v v0 v1 => ?_, ?_, ?_, fun r H => H.step fun k => ?_⟩
        · rw [rs v v0]; split
          · rename_i e; rw [e]; omega
          · exact Int.le_refl _
        · rw [rs _ a0]; split <;> omega
        · rw [rs _ b0, if_pos rfl]; exact Int.le_refl _
        · rw [compassref04_Parts.l2, if_pos i1, if_pos i0, if_pos a0, if_pos (by omega), if_pos b0, if_pos (by omega), if_pos lt, w]
      · obtain ⟨h1, rs⟩ := lab_set h b0 b1 a0 a1 (by omega) ce.symm
        refine ⟨_, h1, fun v v0 v1 => ?_, ?_, ?_, fun r H => H.step fun k => ?_⟩
        · rw [rs v v0]; split
          · rename_i e; rw [e]; omega
          · exact Int.le_refl _
        · rw [rs _ a0, if_pos rfl]; exact Int.le_refl _
        · rw [rs _ b0]; split <;> omega
        · rw [compassref04_Parts.l2, if_pos i1, if_pos i0, if_pos a0, if_pos (by omega), if_pos b0, if_pos (by omega), if_neg lt, w]
    obtain ⟨L1, h1, le1, ea, eb, R1⟩ := key
    obtain ⟨L', h', le', ed, R⟩ := ih (i + 1) L1 (by omega) (by omega) h1
    refine ⟨L', h', fun v a b => Int.le_trans (le' v a b) (le1 v a b), fun j ja jb => ?_, fun r H => R1 r (R r H)⟩
    by_cases e : j = i
    · subst e
      exact ⟨Int.le_trans (le' _ a0 a1) ea, Int.le_trans (le' _ b0 b1) eb⟩
    · have rj := hR.e j (by omega) jb
      obtain ⟨p, s⟩ := ed j (by omega) jb
      exact ⟨Int.le_trans p (le1 _ rj.b0 rj.b1), Int.le_trans s (le1 _ rj.a0 rj.a1)⟩

theorem countP_more {α : Type} (l : List α) (p q : α → Bool) (h : ∀ x ∈ l, p x = true → q x = true) : l.countP p ≤ l.countP q := List.countP_mono_left h
theorem countP_new {α : Type} (l : List α) (p q : α → Bool) (h : ∀ x ∈ l, p x = true → q x = true) (y : α) (hy : y ∈ l) (hq : q y = true) (hp : p y = false) : l.countP p + 1 ≤ l.countP q := by
  induction l with
  | nil => simp at hy
  | cons a t ih =>
    have ht : ∀ x ∈ t, p x = true → q x = true := fun x hx => h x (List.mem_cons_of_mem _ hx)
    rcases List.mem_cons.mp hy with e | e
    · subst e
      have := countP_more t p q ht
      rw [List.countP_cons_of_neg (by rw [hp]; simp), List.countP_cons_of_pos hq]; omega
    · have i1 := ih ht e
      by_cases pa : p a = true
      · rw [List.countP_cons_of_pos pa, List.countP_cons_of_pos (h a (List.mem_cons_self ..) pa)]; omega
      · rw [List.countP_cons_of_neg pa]
        have : t.countP q ≤ (a :: t).countP q := by rw [List.countP_cons]; omega
        omega

/-- The least node of a part. -/
structure LeastOf (n : Int) (E : List S41) (v m : Int) : Prop where
  m0 : 0 ≤ m
  m1 : m < n
  c : Conn E m v
  le : ∀ u, 0 ≤ u → u < n → Conn E u v → m ≤ u
def AllM (n : Int) (E : List S41) (v m : Int) (L : List Int) : Prop := ∀ u, 0 ≤ u → u < n → Conn E u v → rd L u = m
def cntM (n m : Int) (L : List Int) : Nat := (rng n.toNat).countP fun v => decide (rd L v = m)

theorem least_of (n : Int) (E : List S41) (v : Int) (v0 : 0 ≤ v) (v1 : v < n) : ∃ m, LeastOf n E v m := by
  have : ∀ (q : Nat) (u : Int), 0 ≤ u → u ≤ q → u < n → Conn E u v → ∃ m, LeastOf n E v m := by
    intro q
    induction q with
    | zero => intro u u0 uq u1 c; exact ⟨u, u0, u1, c, fun x x0 _ _ => by omega⟩
    | succ q ih =>
      intro u u0 uq u1 c
      by_cases h : ∃ x, 0 ≤ x ∧ x < u ∧ Conn E x v
      · obtain ⟨x, x0, x1, cx⟩ := h
        exact ih x x0 (by omega) (by omega) cx
      · exact ⟨u, u0, u1, c, fun x x0 x1 cx => by
          by_cases e : x < u
          · exact absurd ⟨x, x0, e, cx⟩ h
          · omega⟩
  exact this v.toNat v v0 (by omega) v1 (Conn.refl E v)

/-- A round settles another node, or all of the part are settled. -/
theorem round_one {n : Int} {E : List S41} (hR : Right n E) {L L' : List Int} (h : Lab n E L) (h' : Lab n E L') (le : ∀ v, 0 ≤ v → v < n → rd L' v ≤ rd L v)
    (ed : ∀ j, 0 ≤ j → j < (E.length : Int) → rd L' (rd_T41 E j).f0 ≤ rd L (rd_T41 E j).f1 ∧ rd L' (rd_T41 E j).f1 ≤ rd L (rd_T41 E j).f0) {v m : Int} (H : LeastOf n E v m) :
    (AllM n E v m L → AllM n E v m L') ∧ (AllM n E v m L ∨ cntM n m L + 1 ≤ cntM n m L') := by
  have lo : ∀ {K : List Int}, Lab n E K → ∀ u, 0 ≤ u → u < n → Conn E u v → m ≤ rd K u := fun hK u u0 u1 c => by
    have := hK.lo u u0 u1
    exact H.le _ this.1 (by omega) ((hK.cn u u0 u1).trans c)
  refine ⟨fun A u u0 u1 c => ?_, ?_⟩
  · have a := A u u0 u1 c
    have b := le u u0 u1
    have d := lo h' u u0 u1 c
    omega
  · by_cases cl : Closed E (fun u => rd L u = m)
    · refine Or.inl fun u u0 u1 c => ?_
      have mm : rd L m = m := by
        have a := h.lo m H.m0 H.m1
        have b := lo h m H.m0 H.m1 H.c
        omega
      exact ((c.trans H.c.symm) _ cl).mpr mm
    · refine Or.inr ?_
      have ex : ∃ i, 0 ≤ i ∧ i < (E.length : Int) ∧ ¬ (rd L (rd_T41 E i).f0 = m ↔ rd L (rd_T41 E i).f1 = m) := Classical.byContradiction fun hn => cl fun i i0 i1 => Classical.byContradiction fun hh => hn ⟨i, i0, i1, hh⟩
      obtain ⟨i, i0, i1, hi⟩ := ex
      have re := hR.e i i0 i1
      have ce := Conn.edge E i i0 i1
      have keep : ∀ x ∈ rng n.toNat, decide (rd L x = m) = true → decide (rd L' x = m) = true := fun x hx hp => by
        obtain ⟨x0, x1⟩ := (mem_rng _ _).mp hx
        have e := of_decide_eq_true hp
        have c : Conn E x v := by
          have := h.cn x x0 (by omega)
          rw [e] at this
          exact this.symm.trans H.c
        have a := le x x0 (by omega)
        have b := lo h' x x0 (by omega) c
        exact decide_eq_true (by omega)
      have new : ∀ a b, 0 ≤ b → b < n → 0 ≤ a → a < n → Conn E b a → rd L a = m → ¬ rd L b = m → rd L' b ≤ rd L a → cntM n m L + 1 ≤ cntM n m L' := fun a b b0 b1 a0 a1 c ea eb hle => by
        have ca : Conn E a v := by
          have := h.cn a a0 a1
          rw [ea] at this
          exact this.symm.trans H.c
        have := lo h' b b0 b1 (c.trans ca)
        exact countP_new _ _ _ keep b ((mem_rng _ _).mpr ⟨b0, by omega⟩) (decide_eq_true (by omega)) (decide_eq_false eb)
      obtain ⟨p, s⟩ := ed i i0 i1
      by_cases ea : rd L (rd_T41 E i).f0 = m
      · have eb : ¬ rd L (rd_T41 E i).f1 = m := fun eb => hi ⟨fun _ => eb, fun _ => ea⟩
        exact new _ _ re.b0 re.b1 re.a0 re.a1 ce.symm ea eb s
      · have eb : rd L (rd_T41 E i).f1 = m := Classical.byContradiction fun eb => hi ⟨fun h => absurd h ea, fun h => absurd h eb⟩
        exact new _ _ re.a0 re.a1 re.b0 re.b1 ce eb ea p

theorem rounds_l1 (n : Int) (E : List S41) (hR : Right n E) (q : Nat) : ∀ (x : Int) (L : List Int), 0 ≤ x → x + q = n → Lab n E L →
    ∃ L', Lab n E L' ∧ (∀ v m, LeastOf n E v m → (AllM n E v m L → AllM n E v m L') ∧ (AllM n E v m L' ∨ cntM n m L + q ≤ cntM n m L')) ∧
      ∀ r, Evl (fun k => (compassref04_Numbered.f k L').bind fun t => some (t, (0 : Int))) r → Evl (fun k => compassref04_Parts.l1 k L x n E) r := by
  have n1 := hR.n1
  induction q with
  | zero =>
    intro x L x0 hx h
    exact ⟨L, h, fun v m H => ⟨id, Or.inr (by omega)⟩, fun r H => H.step fun k => by rw [compassref04_Parts.l1, if_neg (by omega)]⟩
  | succ q ih =>
    intro x L x0 hx h
    have w := w1 (i := x) (by omega) (by omega)
    obtain ⟨L1, h1, le, ed, R1⟩ := round_l2 n E hR x E.length 0 L (Int.le_refl 0) (by omega) h
    obtain ⟨L', h', C, R⟩ := ih (x + 1) L1 (by omega) (by omega) h1
    rw [w] at R1
    refine ⟨L', h', fun v m H => ?_, fun r J => (R1 r (R r J)).step fun k => by rw [compassref04_Parts.l1, if_pos (by omega)]⟩
    obtain ⟨k1, k2⟩ := round_one hR h h1 le (fun j a b => ed j a b) H
    obtain ⟨c1, c2⟩ := C v m H
    refine ⟨fun A => c1 (k1 A), ?_⟩
    rcases k2 with B | B
    · exact Or.inl (c1 (k1 B))
    · rcases c2 with A | A
      · exact Or.inl A
      · exact Or.inr (by omega)

theorem init_l0 (n : Int) (E : List S41) (n0 : 0 ≤ n) (n1 : n ≤ 1000000) (q : Nat) : ∀ (v : Int) (L : List Int), 0 ≤ v → v + q = n → (L.length : Int) = n → (∀ u, 0 ≤ u → u < v → rd L u = u) →
    ∃ L', (L'.length : Int) = n ∧ (∀ u, 0 ≤ u → u < n → rd L' u = u) ∧ ∀ r, Evl (fun k => compassref04_Parts.l1 k L' 0 n E) r → Evl (fun k => compassref04_Parts.l0 k L v n E) r := by
  induction q with
  | zero =>
    intro v L v0 hv hl h
    exact ⟨L, hl, fun u a b => h u a (by omega), fun r H => H.step fun k => by rw [compassref04_Parts.l0, if_neg (by omega)]⟩
  | succ q ih =>
    intro v L v0 hv hl h
    have w := w1 (i := v) (by omega) (by omega)
    have rs : ∀ u, 0 ≤ u → rd (L.set v.toNat v) u = if u = v then v else rd L u := fun u u0 => rd_set _ _ _ _ v0 (by omega) u0
    obtain ⟨L', l', h', R⟩ := ih (v + 1) (L.set v.toNat v) (by omega) (by omega) (by rw [List.length_set]; exact hl) (fun u a b => by
      rw [rs u a]
      split
      · rename_i e; exact e.symm
      · exact h u a (by omega))
    exact ⟨L', l', h', fun r H => (R r H).step fun k => by rw [compassref04_Parts.l0, if_pos (by omega), if_pos v0, if_pos (by omega), w]⟩

/-- Numbered: by the order of the roots. -/
theorem numbered_f (n : Int) (T : List Int) (n0 : 0 ≤ n) (n1 : n ≤ 1000000) (hl : (T.length : Int) = n) (lo : ∀ v, 0 ≤ v → v < n → 0 ≤ rd T v ∧ rd T v ≤ v) (id2 : ∀ v, 0 ≤ v → v < n → rd T (rd T v) = rd T v) :
    ∃ P, Evl (fun k => compassref04_Numbered.f k T) P ∧ (P.length : Int) = n ∧ (∀ u v, 0 ≤ u → u < n → 0 ≤ v → v < n → (rd P u = rd P v ↔ rd T u = rd T v)) ∧ (∀ v, 0 ≤ v → v < n → Rg P v) := by
  have loop : ∀ (q : Nat) (v c : Int) (O : List Int), 0 ≤ v → v + q = n → 0 ≤ c → c ≤ v → (O.length : Int) = n → (∀ u, 0 ≤ u → u < v → rd O u = rd O (rd T u)) → (∀ u, 0 ≤ u → u < v → rd T u = u → rd O u < c) → (∀ u u', 0 ≤ u → u < u' → u' < v → rd T u = u → rd T u' = u' → rd O u < rd O u') → (∀ x, 0 ≤ x → x < c → ∃ u, 0 ≤ u ∧ u < v ∧ rd O u = x) → (∀ u, 0 ≤ u → u < v → 0 ≤ rd O u ∧ rd O u < c ∧ Rg O u) →
      ∃ P, Evl (fun k => compassref04_Numbered.l0 k T O c v) P ∧ (P.length : Int) = n ∧ (∀ u, 0 ≤ u → u < n → rd P u = rd P (rd T u)) ∧ (∀ u u', 0 ≤ u → u < u' → u' < n → rd T u = u → rd T u' = u' → rd P u < rd P u') ∧ (∀ v, 0 ≤ v → v < n → Rg P v) := by
    intro q
    induction q with
    | zero =>
      intro v c O v0 hv c0 cv hO h1 h2 h3 wit rg
      obtain rfl : v = n := by omega
      exact ⟨O, Evl.here fun k => by rw [compassref04_Numbered.l0, if_neg (by omega)], hO, h1, h3, fun v a b => (rg v a b).2.2⟩
    | succ q ih =>
      intro v c O v0 hv c0 cv hO h1 h2 h3 wit rg
      have wv := w1 (i := v) (by omega) (by omega)
      have wc := w1 (i := c) (by omega) (by omega)
      have lv := lo v v0 (by omega)
      have rs : ∀ y, ∀ u, 0 ≤ u → rd (O.set v.toNat y) u = if u = v then y else rd O u := fun y u u0 => rd_set _ _ _ _ v0 (by omega) u0
      by_cases e : rd T v = v
      · obtain ⟨P, H, r⟩ := ih (v + 1) (c + 1) (O.set v.toNat c) (by omega) (by omega) (by omega) (by omega) (by rw [List.length_set]; exact hO) (fun u a b => by
            have lu := lo u a (by omega)
            rw [rs c u a, rs c _ lu.1]
            by_cases q : u = v
            · rw [if_pos q, q, e, if_pos rfl]
            · rw [if_neg q, if_neg (by omega)]; exact h1 u a (by omega))
          (fun u a b g => by
            rw [rs c u a]
            split
            · omega
            · have := h2 u a (by omega) g; omega)
          (fun u u' a b d g g' => by
            rw [rs c u a, rs c u' (by omega)]
            by_cases q : u' = v
            · rw [if_pos q, if_neg (by omega)]; exact h2 u a (by omega) g
            · rw [if_neg q, if_neg (by omega)]; exact h3 u u' a b (by omega) g g')
          (fun x a b => by
            by_cases q : x = c
            · exact ⟨v, v0, by omega, by rw [rs c v v0, if_pos rfl, q]⟩
            · obtain ⟨u, u0, u1, e'⟩ := wit x a (by omega)
              exact ⟨u, u0, by omega, by rw [rs c u u0, if_neg (by omega)]; exact e'⟩)
          (fun u a b => by
            by_cases q : u = v
            · rw [q, rs c v v0, if_pos rfl]
              refine ⟨c0, by omega, rg_new c0 (by rw [rs c v v0, if_pos rfl]) (fun w w0 w1 => by rw [rs c w w0, if_neg (by omega)]; exact (rg w w0 w1).2.1) fun x x0 x1 => ?_⟩
              obtain ⟨w, w0, w1, e'⟩ := wit x x0 x1
              exact ⟨w, w0, w1, by rw [rs c w w0, if_neg (by omega)]; exact e'⟩
            · have g := rg u a (by omega)
              rw [rs c u a, if_neg q]
              exact ⟨g.1, by omega, g.2.2.of a fun w w0 w1 => by rw [rs c w w0, if_neg (by omega)]⟩)
        exact ⟨P, H.step fun k => by rw [compassref04_Numbered.l0, if_pos (by omega), if_pos v0, if_pos e, if_pos (by omega), wv, wc], r⟩
      · obtain ⟨P, H, r⟩ := ih (v + 1) c (O.set v.toNat (rd O (rd T v))) (by omega) (by omega) c0 (by omega) (by rw [List.length_set]; exact hO) (fun u a b => by
            have lu := lo u a (by omega)
            rw [rs _ u a, rs _ _ lu.1]
            by_cases q : u = v
            · rw [if_pos q, q, if_neg (by omega)]
            · rw [if_neg q, if_neg (by omega)]; exact h1 u a (by omega))
          (fun u a b g => by
            have nv : u ≠ v := fun q => e (by rw [q] at g; exact g)
            rw [rs _ u a, if_neg nv]; exact h2 u a (by omega) g)
          (fun u u' a b d g g' => by
            have q : u' ≠ v := fun q => e (by rw [q] at g'; exact g')
            rw [rs _ u a, rs _ u' (by omega), if_neg q, if_neg (by omega)]; exact h3 u u' a b (by omega) g g')
          (fun x a b => by
            obtain ⟨u, u0, u1, e'⟩ := wit x a b
            exact ⟨u, u0, by omega, by rw [rs _ u u0, if_neg (by omega)]; exact e'⟩)
          (fun u a b => by
            by_cases q : u = v
            · have g := rg (rd T v) lv.1 (by omega)
              rw [q, rs _ v v0, if_pos rfl]
              exact ⟨g.1, g.2.1, rg_old lv.1 (by omega) (by rw [rs _ v v0, if_pos rfl]; exact g.1) (by rw [rs _ v v0, if_pos rfl, rs _ _ lv.1, if_neg (by omega)])⟩
            · have g := rg u a (by omega)
              rw [rs _ u a, if_neg q]
              exact ⟨g.1, g.2.1, g.2.2.of a fun w w0 w1 => by rw [rs _ w w0, if_neg (by omega)]⟩)
        exact ⟨P, H.step fun k => by rw [compassref04_Numbered.l0, if_pos (by omega), if_pos v0, if_neg e, if_pos lv.1, if_pos (by omega), if_pos (by omega), wv], r⟩
  obtain ⟨P, H, hP, h1, h3, rg⟩ := loop n.toNat 0 0 (List.replicate n.toNat 0) (Int.le_refl 0) (by omega) (Int.le_refl 0) (Int.le_refl 0) (by rw [List.length_replicate]; omega) (fun u a b => by omega) (fun u a b => by omega) (fun u u' a b d => by omega) (fun x a b => by omega) (fun u a b => by omega)
  refine ⟨P, H.congr fun k => ?_, hP, fun u v u0 u1 v0 v1 => ⟨fun h => ?_, fun h => by rw [h1 u u0 u1, h1 v v0 v1, h]⟩, rg⟩
  · have e : T.length = n.toNat := by omega
    show (if 0 ≤ (T.length : Int) then (if ((T.length : Int) : Int).toNat ≤ 35184372088832 then (compassref04_Numbered.l0 k T (List.replicate ((T.length : Int) : Int).toNat 0) 0 0) else none) else none) = _
    rw [if_pos (by omega), if_pos (by omega), Int.toNat_natCast, e]
  · rw [h1 u u0 u1, h1 v v0 v1] at h
    have lu := lo u u0 u1
    have lv := lo v v0 v1
    by_cases a : rd T u < rd T v
    · have := h3 _ _ lu.1 a (by omega) (id2 u u0 u1) (id2 v v0 v1); omega
    · by_cases b : rd T v < rd T u
      · have := h3 _ _ lv.1 b (by omega) (id2 v v0 v1) (id2 u u0 u1); omega
      · omega

/-- The document's Parts of a right graph. -/
theorem parts04_f (n : Int) (E : List S41) (hR : Right n E) : ∃ P, Evl (fun k => compassref04_Parts.f k n E) (P, 0) ∧ (P.length : Int) = n ∧ (∀ u v, 0 ≤ u → u < n → 0 ≤ v → v < n → (rd P u = rd P v ↔ Conn E u v)) ∧ (∀ v, 0 ≤ v → v < n → Rg P v) := by
  have n0 := hR.n0
  have n1 := hR.n1
  obtain ⟨c, a, -, C2, -, -, hz⟩ := check_f n E
  obtain rfl := hz hR
  obtain ⟨L0, l0, i0, R0⟩ := init_l0 n E n0 (by omega) n.toNat 0 (List.replicate n.toNat 0) (Int.le_refl 0) (by omega) (by rw [List.length_replicate]; omega) (fun u a b => by omega)
  have h0 : Lab n E L0 := ⟨l0, fun v a b => by rw [i0 v a b]; omega, fun v a b => by rw [i0 v a b]; exact Conn.refl E v⟩
  obtain ⟨T, hT, C, R⟩ := rounds_l1 n E hR n.toNat 0 L0 (Int.le_refl 0) (by omega) h0
  have all : ∀ v m, LeastOf n E v m → AllM n E v m T := fun v m H => by
    rcases (C v m H).2 with A | A
    · exact A
    · have a1 : cntM n m T ≤ n.toNat := by
        have := List.countP_le_length (p := fun v => decide (rd T v = m)) (l := rng n.toNat)
        rw [len_rng] at this
        exact this
      have a2 : 0 < cntM n m L0 := List.countP_pos_iff.mpr ⟨m, (mem_rng _ _).mpr ⟨H.m0, by have := H.m1; omega⟩, decide_eq_true (i0 m H.m0 H.m1)⟩
      omega
  have same : ∀ u v, 0 ≤ u → u < n → 0 ≤ v → v < n → (rd T u = rd T v ↔ Conn E u v) := fun u v u0 u1 v0 v1 => by
    constructor
    · intro e
      have a := hT.cn u u0 u1
      have b := hT.cn v v0 v1
      rw [e] at a
      exact a.symm.trans b
    · intro c
      obtain ⟨m, H⟩ := least_of n E v v0 v1
      rw [all v m H u u0 u1 c, all v m H v v0 v1 (Conn.refl E v)]
  obtain ⟨P, HP, hP, hs, rg⟩ := numbered_f n T n0 (by omega) hT.len hT.lo (fun v v0 v1 => by
    have lv := hT.lo v v0 v1
    exact (same _ v lv.1 (by omega) v0 v1).mpr (hT.cn v v0 v1))
  refine ⟨P, ?_, hP, fun u v u0 u1 v0 v1 => (hs u v u0 u1 v0 v1).trans (same u v u0 u1 v0 v1), rg⟩
  have J := R0 _ (R _ (Evl.bind HP (h := fun k t => some (t, (0 : Int))) Evl.pure))
  refine (Evl.bind C2 (h := fun k bt356 => (if bt356.1 = 0 then (if 0 ≤ n then (if (n : Int).toNat ≤ 35184372088832 then (compassref04_Parts.l0 k (List.replicate (n : Int).toNat 0) 0 n E) else (none)) else (none)) else (some (([] : List Int), bt356.1)))) ?_).congr fun k => rfl
  exact J.congr fun k => by rw [if_pos rfl, if_pos n0, if_pos (by omega)]
end Go.Proofs.Ytacklfnnpiobgaa.G
namespace Go.Proofs.Ytacklfnnpiobgaa.G
open Go.RowKit Go.Proofs.Ytacklfnnpiobgaa.Q Go.Proofs.YtacklfnnpiobgaaW.PrintWords Go.Proofs.YtacklfnnpiobgaaW.PrintLast
set_option linter.unusedVariables false
/-- The same numbers are told to be the same. -/
theorem ints_same (l : List Int) (hl : (l.length : Int) ≤ 1000000000000) : Evl (fun k => compasslaw04_ints.f k l l) true := by
  have loop : ∀ (d : Nat) (i : Int), 0 ≤ i → i + d = (l.length : Int) → Evl (fun k => compasslaw04_ints.l0 k l l (l.length : Int) i) true := by
    intro d
    induction d with
    | zero => intro i h0 hi; exact Evl.here fun k => by rw [compasslaw04_ints.l0, if_neg (by omega)]
    | succ d ih =>
      intro i h0 hi
      refine (ih (i + 1) (by omega) (by omega)).step fun k => ?_
      rw [compasslaw04_ints.l0, if_pos (by omega), if_pos h0, if_pos (by omega), if_pos (by omega), if_pos rfl, w1 (by omega) (by omega)]
  exact (loop l.length 0 (by omega) (by omega)).congr fun k => by rw [compasslaw04_ints.f, if_pos rfl]

end Go.Proofs.Ytacklfnnpiobgaa.G
namespace Go.Proofs.Ytacklfnnpiobgaa.Pure
open Go.RowKit Go.Proofs.Ytacklfnnpiobgaa.Q Go.Proofs.Ytacklfnnpiobgaa.G Go.Proofs.YtacklfnnpiobgaaW.PrintWords Go.Proofs.YtacklfnnpiobgaaW.PrintLast
set_option linter.unusedVariables false

/-- Parts, of every graph: the program's and the document's. -/
theorem parts_all (n : Int) (E : List S41) : ∃ P c, Evl (fun k => walk_Parts.f k n E) (P, c) ∧ Evl (fun k => compassref04_Parts.f k n E) (P, c) ∧ (P.length : Int) ≤ 1000000000000 ∧ (c = 0 → Right n E ∧ (P.length : Int) = n ∧ ∀ u v, 0 ≤ u → u < n → 0 ≤ v → v < n → (rd P u = rd P v ↔ Conn E u v)) ∧ (c ≠ 0 → P = []) ∧ ∃ a, Evl (fun k => graph_Check.f k n E) (c, a) := by
  obtain ⟨c, a, C1, C2, hz, -, -⟩ := check_f n E
  by_cases e : c = 0
  · obtain ⟨-, R⟩ := hz e
    subst e
    have n1 := R.n1
    obtain ⟨P, H1, pl, p0, p1, p2, p3⟩ := parts_f n E R
    obtain ⟨P', H2, pl', q1, q2⟩ := parts04_f n E R
    have same : ∀ u v, 0 ≤ u → u < n → 0 ≤ v → v < n → (rd P u = rd P v ↔ Conn E u v) := fun u v u0 u1 v0 v1 => by
      constructor
      · intro h X hX; exact p1 X hX u v u0 u1 v0 v1 h
      · intro h
        exact ((h (fun x => rd P x = rd P v) (fun i i0 i1 => by have := p2 i i0 i1; constructor <;> intro g <;> omega)).mpr rfl)
    obtain rfl : P = P' := rgs_eq pl pl' p3 q2 (fun u v u0 u1 v0 v1 => (same u v u0 u1 v0 v1).trans (q1 u v u0 u1 v0 v1).symm)
    exact ⟨P, 0, H1, H2, by omega, fun _ => ⟨R, pl, same⟩, fun h => absurd rfl h, a, C1⟩
  · refine ⟨[], c, ?_, ?_, by simp, fun h => absurd h e, fun _ => rfl, a, C1⟩
    · exact (Evl.bind C1 (h := fun k bt => if bt.1 = 0 then (if 0 ≤ n then (if n.toNat ≤ 11728124029610 then walk_Parts.l0 k (List.replicate n.toNat []) E (E.length : Int) 0 n E else none) else none) else some (([] : List Int), bt.1)) (Evl.pure.congr fun k => by rw [if_neg e])).congr fun k => rfl
    · exact (Evl.bind C2 (h := fun k bt356 => (if bt356.1 = 0 then (if 0 ≤ n then (if (n : Int).toNat ≤ 35184372088832 then (compassref04_Parts.l0 k (List.replicate (n : Int).toNat 0) 0 n E) else (none)) else (none)) else (some (([] : List Int), bt356.1)))) (Evl.pure.congr fun k => by rw [if_neg e])).congr fun k => rfl
end Go.Proofs.Ytacklfnnpiobgaa.Pure
namespace Go.Proofs.Ytacklfnnpiobgaa.G
open Go.RowKit Go.Proofs.Ytacklfnnpiobgaa.Q Go.Proofs.YtacklfnnpiobgaaW.PrintWords Go.Proofs.YtacklfnnpiobgaaW.PrintLast
set_option linter.unusedVariables false

/-- A node that can be come to along the edges. -/
inductive Rch (E : List S41) (s : Int) : Int → Prop
  | refl : Rch E s s
  | step {i : Int} : 0 ≤ i → i < (E.length : Int) → Rch E s (rd_T41 E i).f0 → Rch E s (rd_T41 E i).f1
theorem Rch.trans {E : List S41} {s t v : Int} (a : Rch E s t) (b : Rch E t v) : Rch E s v := by
  induction b with
  | refl => exact a
  | step i0 i1 _ ih => exact Rch.step i0 i1 ih

/-- What is left of the visit of v behind i edges, from the times P, Q, c to those behind it. -/
inductive Rest (E : List S41) : Nat → Int → List Int → List Int → Int → List Int → List Int → Int → Prop
  | leave {v P Q c} : Rest E E.length v P Q c P (Q.set v.toNat c) (c + 1)
  | skip {i : Nat} {v P Q c P' Q' c'} : i < E.length → ¬ ((rd_T41 E i).f0 = v ∧ rd P (rd_T41 E i).f1 < 0) → Rest E (i + 1) v P Q c P' Q' c' → Rest E i v P Q c P' Q' c'
  | go {i : Nat} {v P Q c P1 Q1 c1 P' Q' c'} : i < E.length → (rd_T41 E i).f0 = v → rd P (rd_T41 E i).f1 < 0 → Rest E 0 (rd_T41 E i).f1 (P.set (rd_T41 E i).f1.toNat c) Q (c + 1) P1 Q1 c1 → Rest E (i + 1) v P1 Q1 c1 P' Q' c' → Rest E i v P Q c P' Q' c'

/-- What holds of the times, st being the nodes that were come to and not left, the last one first. -/
structure Inv (n : Int) (E : List S41) (st P Q : List Int) (c : Int) : Prop where
  pl : (P.length : Int) = n
  ql : (Q.length : Int) = n
  cnt : c = 2 * n - negs P - negs Q
  stl : (st.length : Int) = negs Q - negs P
  inn : ∀ u ∈ st, 0 ≤ u ∧ u < n
  kind : ∀ u, 0 ≤ u → u < n → (rd P u < 0 ∧ rd Q u < 0 ∧ u ∉ st) ∨ (0 ≤ rd P u ∧ rd P u < c ∧ rd Q u < 0 ∧ u ∈ st) ∨ (0 ≤ rd P u ∧ rd P u < rd Q u ∧ rd Q u < c ∧ u ∉ st)
  dpp : ∀ u w, 0 ≤ u → u < n → 0 ≤ w → w < n → u ≠ w → 0 ≤ rd P u → rd P u ≠ rd P w
  dqq : ∀ u w, 0 ≤ u → u < n → 0 ≤ w → w < n → u ≠ w → 0 ≤ rd Q u → rd Q u ≠ rd Q w
  dpq : ∀ u w, 0 ≤ u → u < n → 0 ≤ w → w < n → 0 ≤ rd P u → rd P u ≠ rd Q w
  srt : st.Pairwise (fun a b => rd P b < rd P a)
  nest : ∀ u w, 0 ≤ u → u < n → 0 ≤ w → w < n → 0 ≤ rd P u → rd P u < rd P w → 0 ≤ rd Q u → rd Q u < rd P w ∨ (0 ≤ rd Q w ∧ rd Q w < rd Q u)
  out : ∀ i : Int, 0 ≤ i → i < (E.length : Int) → 0 ≤ rd Q (rd_T41 E i).f0 → 0 ≤ rd P (rd_T41 E i).f1 ∧ rd P (rd_T41 E i).f1 < rd Q (rd_T41 E i).f0
  anc : ∀ w u, 0 ≤ w → w < n → 0 ≤ u → u < n → 0 ≤ rd P w → rd P w ≤ rd P u → (rd Q w < 0 ∨ rd P u < rd Q w) → Rch E w u

section
variable {n : Int} {E : List S41} {st P Q : List Int} {c : Int}
theorem Inv.lt (I : Inv n E st P Q c) {u : Int} (u0 : 0 ≤ u) (u1 : u < n) (c0 : 0 ≤ c) : rd P u < c ∧ rd Q u < c := by
  rcases I.kind u u0 u1 with h | h | h <;> omega
theorem Inv.c0 (I : Inv n E st P Q c) : 0 ≤ c ∧ c ≤ 2 * n := by
  have a := negs_le P
  have b := negs_le Q
  have d := negs_nonneg P
  have e := negs_nonneg Q
  have f := I.pl
  have g := I.ql
  have h := I.cnt
  omega
theorem Inv.room (I : Inv n E st P Q c) {v : Int} (v0 : 0 ≤ v) (v1 : v < n) (h : rd Q v < 0) : c < 2 * n := by
  have a := negs_nonneg P
  have b := negs_set Q v 0 v0 (by have := I.ql; omega) h (Int.le_refl 0)
  have d := negs_nonneg (Q.set v.toNat 0)
  have h := I.cnt
  omega
theorem Inv.start (n0 : 0 ≤ n) {P Q : List Int} (pl : (P.length : Int) = n) (ql : (Q.length : Int) = n) (hP : ∀ u, 0 ≤ u → u < n → rd P u < 0) (hQ : ∀ u, 0 ≤ u → u < n → rd Q u < 0) (np : negs P = n) (nq : negs Q = n) (R : Right n E) : Inv n E [] P Q 0 :=
  ⟨pl, ql, by omega, by rw [np, nq]; simp, fun u h => by simp at h, fun u u0 u1 => .inl ⟨hP u u0 u1, hQ u u0 u1, by simp⟩, fun u w u0 u1 _ _ _ h => by have := hP u u0 u1; omega, fun u w u0 u1 _ _ _ h => by have := hQ u u0 u1; omega,
   fun u w u0 u1 _ _ h => by have := hP u u0 u1; omega, List.Pairwise.nil, fun u w u0 u1 _ _ h => by have := hP u u0 u1; omega, fun i i0 i1 h => by have e := R.e i i0 i1; have := hQ _ e.a0 e.a1; omega, fun w u w0 w1 _ _ h => by have := hP w w0 w1; omega⟩
/-- A node is come to. -/
theorem Inv.enter (I : Inv n E st P Q c) (R : Right n E) {y : Int} (y0 : 0 ≤ y) (y1 : y < n) (hy : rd P y < 0) (hd : ∀ v, st.head? = some v → ∃ i : Int, 0 ≤ i ∧ i < (E.length : Int) ∧ (rd_T41 E i).f0 = v ∧ (rd_T41 E i).f1 = y) : Inv n E (y :: st) (P.set y.toNat c) Q (c + 1) := by
  have pl := I.pl
  have cc := I.c0
  have rp : ∀ u, 0 ≤ u → rd (P.set y.toNat c) u = if u = y then c else rd P u := fun u u0 => rd_set _ _ _ _ y0 (by omega) u0
  have lt := fun u u0 u1 => I.lt (u := u) u0 u1 cc.1
  have ky := I.kind y y0 y1
  have qy : rd Q y < 0 := by omega
  have sy : y ∉ st := by rcases ky with h | h | h <;> first | exact h.2.2 | omega
  have ns := negs_set P y c y0 (by omega) hy cc.1
  refine ⟨by rw [List.length_set]; exact pl, I.ql, by have := I.cnt; omega, by rw [List.length_cons]; have := I.stl; push_cast; omega, ?_, ?_, ?_, I.dqq, ?_, ?_, ?_, ?_, ?_⟩
  · intro u hu
    rcases List.mem_cons.mp hu with h | h
    · omega
    · exact I.inn u h
  · intro u u0 u1
    rw [rp u u0, List.mem_cons]
    by_cases q : u = y
    · rw [if_pos q]; right; left
      exact ⟨cc.1, by omega, by rw [q]; exact qy, .inl q⟩
    · rw [if_neg q]
      rcases I.kind u u0 u1 with h | h | h
      · exact .inl ⟨h.1, h.2.1, fun m => m.elim q h.2.2⟩
      · exact .inr (.inl ⟨h.1, by omega, h.2.2.1, .inr h.2.2.2⟩)
      · exact .inr (.inr ⟨h.1, h.2.1, by omega, fun m => m.elim q h.2.2.2⟩)
  · intro u w u0 u1 w0 w1 ne hu
    rw [rp u u0] at hu ⊢
    rw [rp w w0]
    have a := lt u u0 u1
    have b := lt w w0 w1
    by_cases q : u = y
    · rw [if_pos q, if_neg (by omega)]; omega
    · rw [if_neg q] at hu ⊢
      by_cases q2 : w = y
      · rw [if_pos q2]; omega
      · rw [if_neg q2]; exact I.dpp u w u0 u1 w0 w1 ne hu
  · intro u w u0 u1 w0 w1 hu
    rw [rp u u0] at hu ⊢
    have b := lt w w0 w1
    by_cases q : u = y
    · rw [if_pos q]; omega
    · rw [if_neg q] at hu ⊢; exact I.dpq u w u0 u1 w0 w1 hu
  · rw [List.pairwise_cons]
    refine ⟨fun b hb => ?_, ?_⟩
    · have ib := I.inn b hb
      rw [rp b ib.1, rp y y0, if_pos rfl, if_neg (fun e : b = y => sy (e ▸ hb))]
      exact (lt b ib.1 ib.2).1
    · refine List.Pairwise.imp_of_mem ?_ I.srt
      intro a b ha hb h
      have ia := I.inn a ha
      have ib := I.inn b hb
      rw [rp a ia.1, rp b ib.1, if_neg (fun e : a = y => sy (e ▸ ha)), if_neg (fun e : b = y => sy (e ▸ hb))]
      exact h
  · intro u w u0 u1 w0 w1 hu hlt hq
    rw [rp u u0] at hu hlt
    rw [rp w w0] at hlt ⊢
    have a := lt u u0 u1
    have b := lt w w0 w1
    by_cases q : u = y
    · rw [q] at hq; omega
    · rw [if_neg q] at hu hlt
      by_cases q2 : w = y
      · rw [if_pos q2]; left; exact a.2
      · rw [if_neg q2] at hlt ⊢; exact I.nest u w u0 u1 w0 w1 hu hlt hq
  · intro i i0 i1 h
    have e := R.e i i0 i1
    have o := I.out i i0 i1 h
    rw [rp _ e.b0, if_neg (by intro q; rw [q] at o; omega)]
    exact o
  · intro w u w0 w1 u0 u1 hw hle hor
    rw [rp w w0] at hw hle
    rw [rp u u0] at hle hor
    have a := lt w w0 w1
    have b := lt u u0 u1
    by_cases q : u = y
    · rw [if_pos q] at hle hor
      by_cases q2 : w = y
      · rw [q, q2]; exact Rch.refl
      · rw [if_neg q2] at hw hle
        have gw : w ∈ st := by rcases I.kind w w0 w1 with h | h | h <;> first | exact h.2.2.2 | omega
        have hq : rd Q w < 0 := by omega
        obtain ⟨v, t, rfl⟩ : ∃ v t, st = v :: t := by
          cases st with
          | nil => simp at gw
          | cons v t => exact ⟨v, t, rfl⟩
        obtain ⟨i, i0, i1, f0, f1⟩ := hd v rfl
        have iv := I.inn v (by simp)
        have wv : Rch E w v := by
          rcases List.mem_cons.mp gw with h | h
          · rw [h]; exact Rch.refl
          · have := (List.pairwise_cons.mp I.srt).1 w h
            exact I.anc w v w0 w1 iv.1 iv.2 hw (by omega) (.inl hq)
        rw [q, ← f1]
        exact Rch.step i0 i1 (f0 ▸ wv)
    · rw [if_neg q] at hle hor
      by_cases q2 : w = y
      · rw [if_pos q2] at hle; omega
      · rw [if_neg q2] at hw hle; exact I.anc w u w0 w1 u0 u1 hw hle hor
/-- A node is left. -/
theorem Inv.leave {v : Int} (I : Inv n E (v :: st) P Q c) (R : Right n E) (h : ∀ j : Int, 0 ≤ j → j < (E.length : Int) → (rd_T41 E j).f0 = v → 0 ≤ rd P (rd_T41 E j).f1) : Inv n E st P (Q.set v.toNat c) (c + 1) := by
  have ql := I.ql
  have cc := I.c0
  have iv := I.inn v (by simp)
  have rq : ∀ u, 0 ≤ u → rd (Q.set v.toNat c) u = if u = v then c else rd Q u := fun u u0 => rd_set _ _ _ _ iv.1 (by omega) u0
  have lt := fun u u0 u1 => I.lt (u := u) u0 u1 cc.1
  have kv : 0 ≤ rd P v ∧ rd P v < c ∧ rd Q v < 0 := by rcases I.kind v iv.1 iv.2 with k | k | k <;> first | exact absurd (List.mem_cons_self) k.2.2 | exact absurd (List.mem_cons_self) k.2.2.2 | omega
  have srt := List.pairwise_cons.mp I.srt
  have sv : v ∉ st := fun m => by have := srt.1 v m; omega
  have ns := negs_set Q v c iv.1 (by omega) kv.2.2 cc.1
  refine ⟨I.pl, by rw [List.length_set]; exact ql, by have := I.cnt; omega, by have := I.stl; rw [List.length_cons] at this; push_cast at this; omega, fun u hu => I.inn u (List.mem_cons_of_mem _ hu), ?_, I.dpp, ?_, ?_, srt.2, ?_, ?_, ?_⟩
  · intro u u0 u1
    rw [rq u u0]
    by_cases q : u = v
    · rw [if_pos q, q]; exact .inr (.inr ⟨kv.1, kv.2.1, by omega, sv⟩)
    · rw [if_neg q]
      rcases I.kind u u0 u1 with k | k | k
      · exact .inl ⟨k.1, k.2.1, fun m => k.2.2 (List.mem_cons_of_mem _ m)⟩
      · exact .inr (.inl ⟨k.1, by omega, k.2.2.1, (List.mem_cons.mp k.2.2.2).resolve_left q⟩)
      · exact .inr (.inr ⟨k.1, k.2.1, by omega, fun m => k.2.2.2 (List.mem_cons_of_mem _ m)⟩)
  · intro u w u0 u1 w0 w1 ne hu
    rw [rq u u0] at hu ⊢
    rw [rq w w0]
    have a := lt u u0 u1
    have b := lt w w0 w1
    by_cases q : u = v
    · rw [if_pos q, if_neg (by omega)]; omega
    · rw [if_neg q] at hu ⊢
      by_cases q2 : w = v
      · rw [if_pos q2]; omega
      · rw [if_neg q2]; exact I.dqq u w u0 u1 w0 w1 ne hu
  · intro u w u0 u1 w0 w1 hu
    rw [rq w w0]
    have a := lt u u0 u1
    by_cases q : w = v
    · rw [if_pos q]; omega
    · rw [if_neg q]; exact I.dpq u w u0 u1 w0 w1 hu
  · intro u w u0 u1 w0 w1 hu hlt hq
    rw [rq u u0] at hq ⊢
    rw [rq w w0]
    have a := lt u u0 u1
    have b := lt w w0 w1
    by_cases q : u = v
    · rw [if_pos q] at hq ⊢
      rw [q] at hlt
      by_cases q2 : w = v
      · rw [q2] at hlt; omega
      · rw [if_neg q2]
        rcases I.kind w w0 w1 with k | k | k
        · omega
        · have := srt.1 w ((List.mem_cons.mp k.2.2.2).resolve_left q2); omega
        · right; omega
    · rw [if_neg q] at hq ⊢
      have o := I.nest u w u0 u1 w0 w1 hu hlt hq
      by_cases q2 : w = v
      · rw [q2] at o ⊢; rw [if_pos rfl]; left; omega
      · rw [if_neg q2]; exact o
  · intro i i0 i1 hq
    have e := R.e i i0 i1
    rw [rq _ e.a0] at hq ⊢
    by_cases q : (rd_T41 E i).f0 = v
    · rw [if_pos q]; exact ⟨h i i0 i1 q, (lt _ e.b0 e.b1).1⟩
    · rw [if_neg q] at hq ⊢; exact I.out i i0 i1 hq
  · intro w u w0 w1 u0 u1 hw hle hor
    rw [rq w w0] at hor
    by_cases q : w = v
    · exact I.anc w u w0 w1 u0 u1 hw hle (.inl (by rw [q]; exact kv.2.2))
    · rw [if_neg q] at hor; exact I.anc w u w0 w1 u0 u1 hw hle hor
end
/-- What a visit leaves. -/
theorem Rest.inv {n : Int} {E : List S41} (R : Right n E) {i : Nat} {v : Int} {P Q : List Int} {c : Int} {P' Q' : List Int} {c' : Int} (h : Rest E i v P Q c P' Q' c') : ∀ st, Inv n E (v :: st) P Q c → (∀ j : Int, 0 ≤ j → j < (i : Int) → (rd_T41 E j).f0 = v → 0 ≤ rd P (rd_T41 E j).f1) →
    Inv n E st P' Q' c' ∧ (∀ u, 0 ≤ u → u < n → 0 ≤ rd P u → 0 ≤ rd P' u) ∧ negs P' ≤ negs P := by
  induction h with
  | leave => intro st I hj; exact ⟨I.leave R hj, fun u _ _ h => h, Int.le_refl _⟩
  | @skip i v P Q c P' Q' c' i1 no _ ih =>
    intro st I hj
    refine ih st I fun j j0 j1 hf => ?_
    by_cases q : j = i
    · rw [q]; exact Int.not_lt.mp fun a => no ⟨q ▸ hf, a⟩
    · exact hj j j0 (by omega) hf
  | @go i v P Q c P1 Q1 c1 P' Q' c' i1 hf hp _ _ ih1 ih2 =>
    intro st I hj
    have e := R.e i (by omega) (by omega)
    have pl := I.pl
    have cc := I.c0
    have rp : ∀ u, 0 ≤ u → rd (P.set (rd_T41 E i).f1.toNat c) u = if u = (rd_T41 E i).f1 then c else rd P u := fun u u0 => rd_set _ _ _ _ e.b0 (by have := e.b1; omega) u0
    have I1 := I.enter R e.b0 e.b1 hp (fun x hx => ⟨i, by omega, by omega, by simp at hx; rw [hf, hx], rfl⟩)
    obtain ⟨a, b, d⟩ := ih1 (v :: st) I1 (fun j j0 j1 _ => by omega)
    have b' : ∀ u, 0 ≤ u → u < n → 0 ≤ rd P u → 0 ≤ rd P1 u := fun u u0 u1 hu => b u u0 u1 (by rw [rp u u0]; split <;> omega)
    obtain ⟨x, y, z⟩ := ih2 st a (fun j j0 j1 hjf => by
      have ej := R.e j j0 (by omega)
      by_cases q : j = i
      · rw [q]; exact b _ e.b0 e.b1 (by rw [rp _ e.b0, if_pos rfl]; exact cc.1)
      · exact b' _ ej.b0 ej.b1 (hj j j0 (by omega) hjf))
    have ns := negs_set P (rd_T41 E i).f1 c e.b0 (by have := e.b1; omega) hp cc.1
    exact ⟨x, fun u u0 u1 hu => y u u0 u1 (b' u u0 u1 hu), by omega⟩
/-- A visit comes to its end. -/
theorem Rest.ex {n : Int} {E : List S41} (R : Right n E) (N : Nat) : ∀ (d i : Nat) (v : Int) (st P Q : List Int) (c : Int), i + d = E.length → negs P ≤ (N : Int) → Inv n E (v :: st) P Q c → (∀ j : Int, 0 ≤ j → j < (i : Int) → (rd_T41 E j).f0 = v → 0 ≤ rd P (rd_T41 E j).f1) →
    ∃ P' Q' c', Rest E i v P Q c P' Q' c' := by
  induction N with
  | zero =>
    intro d
    induction d with
    | zero => intro i v st P Q c hi hN I hj; obtain rfl : i = E.length := (by omega); exact ⟨_, _, _, Rest.leave⟩
    | succ d ih =>
      intro i v st P Q c hi hN I hj
      have e := R.e i (by omega) (by omega)
      have pl := I.pl
      have no : ¬ rd P (rd_T41 E i).f1 < 0 := fun hp => by
        have ns := negs_set P (rd_T41 E i).f1 0 e.b0 (by have := e.b1; omega) hp (Int.le_refl 0)
        have := negs_nonneg (P.set (rd_T41 E i).f1.toNat 0); omega
      obtain ⟨P', Q', c', r⟩ := ih (i + 1) v st P Q c (by omega) hN I (fun j j0 j1 hf => by
        by_cases q : j = i
        · rw [q]; omega
        · exact hj j j0 (by omega) hf)
      exact ⟨P', Q', c', Rest.skip (by omega) (fun h => no h.2) r⟩
  | succ N ihN =>
    intro d
    induction d with
    | zero => intro i v st P Q c hi hN I hj; obtain rfl : i = E.length := (by omega); exact ⟨_, _, _, Rest.leave⟩
    | succ d ih =>
      intro i v st P Q c hi hN I hj
      have e := R.e i (by omega) (by omega)
      have pl := I.pl
      have cc := I.c0
      by_cases hg : (rd_T41 E i).f0 = v ∧ rd P (rd_T41 E i).f1 < 0
      · obtain ⟨hf, hp⟩ := hg
        have ns := negs_set P (rd_T41 E i).f1 c e.b0 (by have := e.b1; omega) hp cc.1
        have rp : ∀ u, 0 ≤ u → rd (P.set (rd_T41 E i).f1.toNat c) u = if u = (rd_T41 E i).f1 then c else rd P u := fun u u0 => rd_set _ _ _ _ e.b0 (by have := e.b1; omega) u0
        have I1 := I.enter R e.b0 e.b1 hp (fun x hx => ⟨i, by omega, by omega, by simp at hx; rw [hf, hx], rfl⟩)
        obtain ⟨P1, Q1, c1, r1⟩ := ihN E.length 0 _ (v :: st) _ Q (c + 1) (by omega) (by omega) I1 (fun j j0 j1 _ => by omega)
        obtain ⟨a, b, z⟩ := r1.inv R (v :: st) I1 (fun j j0 j1 _ => by omega)
        obtain ⟨P', Q', c', r2⟩ := ihN d (i + 1) v st P1 Q1 c1 (by omega) (by omega) a (fun j j0 j1 hjf => by
          have ej := R.e j j0 (by omega)
          by_cases q : j = i
          · rw [q]; exact b _ e.b0 e.b1 (by rw [rp _ e.b0, if_pos rfl]; exact cc.1)
          · exact b _ ej.b0 ej.b1 (by rw [rp _ ej.b0]; have := hj j j0 (by omega) hjf; split <;> omega))
        exact ⟨P', Q', c', Rest.go (by omega) hf hp r1 r2⟩
      · obtain ⟨P', Q', c', r⟩ := ih (i + 1) v st P Q c (by omega) hN I (fun j j0 j1 hf => by
          by_cases q : j = i
          · rw [q]; exact Int.not_lt.mp fun a => hg ⟨q ▸ hf, a⟩
          · exact hj j j0 (by omega) hf)
        exact ⟨P', Q', c', Rest.skip (by omega) hg r⟩
end Go.Proofs.Ytacklfnnpiobgaa.G
namespace Go.Proofs.Ytacklfnnpiobgaa.G
open Go.RowKit Go.Proofs.Ytacklfnnpiobgaa.Q Go.Proofs.YtacklfnnpiobgaaW.PrintWords Go.Proofs.YtacklfnnpiobgaaW.PrintLast
set_option linter.unusedVariables false

section
variable {n : Int} {E : List S41}
theorem wi (R : Right n E) {i : Nat} (h : i < E.length) : wrap64 ((i : Int) + 1) = ((i + 1 : Nat) : Int) := by
  have := R.m1
  rw [w1 (by omega) (by omega)]; rfl
theorem ref_rest (R : Right n E) {i : Nat} {v : Int} {P Q : List Int} {c : Int} {P' Q' : List Int} {c' : Int} (h : Rest E i v P Q c P' Q' c') : ∀ st, Inv n E (v :: st) P Q c → (∀ j : Int, 0 ≤ j → j < (i : Int) → (rd_T41 E j).f0 = v → 0 ≤ rd P (rd_T41 E j).f1) →
    Evl (fun k => compassref04_visit.l0 k v i n E P Q c) (P', Q', c') := by
  have n1 := R.n1
  induction h with
  | @leave v P Q c =>
    intro st I hj
    have iv := I.inn v (by simp)
    have ql := I.ql
    have cc := I.c0
    exact Evl.here fun k => by rw [compassref04_visit.l0, if_neg (by omega), if_pos iv.1, if_pos (by omega), w1 (by omega) (by omega)]
  | @skip i v P Q c P' Q' c' i1 no r ih =>
    intro st I hj
    have e := R.e i (by omega) (by omega)
    have pl := I.pl
    have w := wi R i1
    refine (ih st I fun j j0 j1 hf => ?_).step fun k => ?_
    · by_cases q : j = i
      · rw [q]; exact Int.not_lt.mp fun a => no ⟨q ▸ hf, a⟩
      · exact hj j j0 (by omega) hf
    · rw [compassref04_visit.l0, if_pos (by omega), if_pos (by omega), w]
      by_cases q : (rd_T41 E i).f0 = v
      · rw [if_pos q, if_pos e.b0, if_pos (by have := e.b1; omega), if_neg (fun a => no ⟨q, a⟩)]
      · rw [if_neg q]
  | @go i v P Q c P1 Q1 c1 P' Q' c' i1 hf hp r1 r2 ih1 ih2 =>
    intro st I hj
    have e := R.e i (by omega) (by omega)
    have pl := I.pl
    have cc := I.c0
    have w := wi R i1
    have rp : ∀ u, 0 ≤ u → rd (P.set (rd_T41 E i).f1.toNat c) u = if u = (rd_T41 E i).f1 then c else rd P u := fun u u0 => rd_set _ _ _ _ e.b0 (by have := e.b1; omega) u0
    have I1 := I.enter R e.b0 e.b1 hp (fun x hx => ⟨i, by omega, by omega, by simp at hx; rw [hf, hx], rfl⟩)
    obtain ⟨a, b, z⟩ := r1.inv R (v :: st) I1 (fun j j0 j1 _ => by omega)
    have f1 : Evl (fun k => compassref04_visit.f k n E P Q c (rd_T41 E i).f1) (P1, Q1, c1) := (ih1 (v :: st) I1 (fun j j0 j1 _ => by omega)).step fun k => by
      rw [compassref04_visit.f, if_pos e.b0, if_pos (by have := e.b1; omega), w1 (by omega) (by omega)]; rfl
    have f2 := ih2 st a (fun j j0 j1 hjf => by
      have ej := R.e j j0 (by omega)
      by_cases q : j = i
      · rw [q]; exact b _ e.b0 e.b1 (by rw [rp _ e.b0, if_pos rfl]; exact cc.1)
      · exact b _ ej.b0 ej.b1 (by rw [rp _ ej.b0]; have := hj j j0 (by omega) hjf; split <;> omega))
    refine (Evl.bind (h := fun k (bt : List Int × List Int × Int) => compassref04_visit.l0 k v ((i + 1 : Nat) : Int) n E bt.1 bt.2.1 bt.2.2) f1 f2).step fun k => ?_
    rw [compassref04_visit.l0, if_pos (by omega), if_pos (by omega), if_pos hf, if_pos e.b0, if_pos (by have := e.b1; omega), if_pos hp, w]

theorem outL_at (E : List S41) (v : Int) {i : Nat} (hf : (rd_T41 E (i : Int)).f0 = v) : ∀ d : Nat, (outL E i v).length < (outL E (i + 1 + d) v).length ∧ rd (outL E (i + 1 + d) v) ((outL E i v).length : Int) = (i : Int) ∧ (outL E (i + 1) v).length = (outL E i v).length + 1
  | 0 => by
    rw [Nat.add_zero, outL_succ, if_pos hf]
    refine ⟨by simp, ?_, by simp⟩
    rw [rd_append _ _ _ (by omega), if_neg (by omega)]
    simp [rd]
  | d + 1 => by
    obtain ⟨a, b, c⟩ := outL_at E v hf d
    rw [show i + 1 + (d + 1) = (i + 1 + d) + 1 by omega, outL_succ]
    split
    · refine ⟨by rw [List.length_append]; omega, ?_, c⟩
      rw [rd_append _ _ _ (by omega), if_pos (by omega)]; exact b
    · exact ⟨a, b, c⟩
theorem fr_top (S : List Fr) (f : Fr) : rd_Fr (S ++ [f]) (((S ++ [f]).length : Int) - 1) = f := by
  unfold rd_Fr
  rw [getD_append, if_neg (by rw [List.length_append, List.length_singleton]; omega), show (((S ++ [f]).length : Int) - 1).toNat - S.length = 0 by rw [List.length_append, List.length_singleton]; omega]; rfl
theorem fr_set (S : List Fr) (f g : Fr) : (S ++ [f]).set (((S ++ [f]).length : Int) - 1).toNat g = S ++ [g] := by
  rw [show (((S ++ [f]).length : Int) - 1).toNat = S.length by rw [List.length_append, List.length_singleton]; omega, List.set_append_right _ _ (Nat.le_refl _), Nat.sub_self]; rfl
theorem fr_take (S : List Fr) (f : Fr) : (S ++ [f]).take ((S ++ [f]).length - 1) = S := by
  rw [show (S ++ [f]).length - 1 = S.length by rw [List.length_append, List.length_singleton]; omega, List.take_left']; rfl
theorem Inv.stack {st P Q : List Int} {c : Int} (I : Inv n E st P Q c) : (st.length : Int) ≤ n := by
  have a := I.stl
  have b := negs_le Q
  have d := negs_nonneg P
  have e := I.ql
  omega

theorem prog_rest (R : Right n E) {O : List (List Int)} (ol : (O.length : Int) = n) (ho : ∀ v : Int, 0 ≤ v → v < n → rd_L2 O v = outL E E.length v) (s : Int) {i : Nat} {v : Int} {P Q : List Int} {c : Int} {P' Q' : List Int} {c' : Int} (h : Rest E i v P Q c P' Q' c') : ∀ st (S : List Fr), S.length = st.length → Inv n E (v :: st) P Q c → (∀ j : Int, 0 ≤ j → j < (i : Int) → (rd_T41 E j).f0 = v → 0 ≤ rd P (rd_T41 E j).f1) →
    ∀ z, Evl (fun k => walk_Visit.l1 k n E O s P' Q' c' S) z → Evl (fun k => walk_Visit.l2 k n E O s P Q c (S ++ [⟨v, ((outL E i v).length : Int)⟩])) z := by
  have n1 := R.n1
  have m1 := R.m1
  -- one round's head
  have head : ∀ {v : Int} {st P Q : List Int} {c : Int} (S : List Fr) (x : Nat), S.length = st.length → Inv n E (v :: st) P Q c → x ≤ E.length → (rd_L2 O v = outL E E.length v) ∧
      ((0 ≤ v ∧ v < (O.length : Int) ∧ v < (Q.length : Int) ∧ 0 ≤ (x : Int) ∧ (x : Int) ≤ 100000) ∧ 0 ≤ c ∧ c ≤ 100000 ∧ 0 < ((S ++ [(⟨v, x⟩ : Fr)]).length : Int) ∧ ((S ++ [(⟨v, x⟩ : Fr)]).length : Int) ≤ 100000) := fun {v st P Q c} S x hS I hx => by
    have iv := I.inn v (by simp)
    have sl := I.stack
    have cc := I.c0
    have ql := I.ql
    rw [List.length_cons] at sl
    rw [List.length_append, List.length_singleton]
    exact ⟨ho v iv.1 iv.2, ⟨iv.1, by omega, by omega, by omega, by omega⟩, cc.1, by omega, by omega, by omega⟩
  induction h with
  | @leave v P Q c =>
    intro st S hS I hj z hz
    obtain ⟨hr, hg⟩ := head S (outL E E.length v).length hS I (outL_len _ _ _)
    refine hz.step fun k => ?_
    rw [walk_Visit.l2, fr_top, fr_take]; dsimp only; rw [if_pos hg, hr, if_neg (by omega)]
  | @skip i v P Q c P' Q' c' i1 no r ih =>
    intro st S hS I hj z hz
    have e := R.e i (by omega) (by omega)
    have pl := I.pl
    have nx := ih st S hS I (fun j j0 j1 hf => by
      by_cases q : j = i
      · rw [q]; exact Int.not_lt.mp fun a => no ⟨q ▸ hf, a⟩
      · exact hj j j0 (by omega) hf) z hz
    by_cases q : (rd_T41 E i).f0 = v
    · obtain ⟨hr, hg⟩ := head S (outL E i v).length hS I (by have := outL_len E i v; omega)
      have at_ := outL_at E v q (E.length - (i + 1))
      rw [show i + 1 + (E.length - (i + 1)) = E.length by omega] at at_
      rw [at_.2.2] at nx
      refine nx.step fun k => ?_
      rw [walk_Visit.l2, fr_top, fr_set]; dsimp only; rw [if_pos hg, hr, if_pos (by have := at_.1; omega), at_.2.1, if_pos ⟨⟨by omega, by omega⟩, e.b0, by have := e.b1; omega⟩, if_neg (fun a => no ⟨q, a⟩)]
      rfl
    · rw [outL_succ, if_neg q] at nx; exact nx
  | @go i v P Q c P1 Q1 c1 P' Q' c' i1 hf hp r1 r2 ih1 ih2 =>
    intro st S hS I hj z hz
    have e := R.e i (by omega) (by omega)
    have pl := I.pl
    have cc := I.c0
    have rp : ∀ u, 0 ≤ u → rd (P.set (rd_T41 E i).f1.toNat c) u = if u = (rd_T41 E i).f1 then c else rd P u := fun u u0 => rd_set _ _ _ _ e.b0 (by have := e.b1; omega) u0
    have I1 := I.enter R e.b0 e.b1 hp (fun x hx => ⟨i, by omega, by omega, by simp at hx; rw [hf, hx], rfl⟩)
    obtain ⟨a, b, _⟩ := r1.inv R (v :: st) I1 (fun j j0 j1 _ => by omega)
    have f2 := ih2 st S hS a (fun j j0 j1 hjf => by
      have ej := R.e j j0 (by omega)
      by_cases q : j = i
      · rw [q]; exact b _ e.b0 e.b1 (by rw [rp _ e.b0, if_pos rfl]; exact cc.1)
      · exact b _ ej.b0 ej.b1 (by rw [rp _ ej.b0]; have := hj j j0 (by omega) hjf; split <;> omega)) z hz
    obtain ⟨hr, hg⟩ := head S (outL E i v).length hS I (by have := outL_len E i v; omega)
    have at_ := outL_at E v hf (E.length - (i + 1))
    rw [show i + 1 + (E.length - (i + 1)) = E.length by omega] at at_
    rw [at_.2.2] at f2
    have as_ := a.stack
    have ac := a.c0
    rw [List.length_cons] at as_
    -- the round of the stack behind the inner visit
    have f3 : Evl (fun k => walk_Visit.l1 k n E O s P1 Q1 c1 (S ++ [⟨v, ((outL E i v).length : Int) + 1⟩])) z := Evl.step f2 fun k => by
      rw [walk_Visit.l1, if_pos (by rw [List.length_append, List.length_singleton]; omega), if_pos ⟨ac.1, by omega, by rw [List.length_append, List.length_singleton]; omega⟩]; rfl
    have f4 := ih1 (v :: st) (S ++ [⟨v, ((outL E i v).length : Int) + 1⟩]) (by rw [List.length_append, List.length_singleton, List.length_cons, hS]) I1 (fun j j0 j1 _ => by omega) z f3
    have s1 := I1.stack
    have c1' := I1.c0
    rw [List.length_cons, List.length_cons] at s1
    have f5 : Evl (fun k => walk_Visit.l1 k n E O s (P.set (rd_T41 E i).f1.toNat c) Q (c + 1) (S ++ [⟨v, ((outL E i v).length : Int) + 1⟩] ++ [⟨(rd_T41 E i).f1, 0⟩])) z := Evl.step f4 fun k => by
      rw [walk_Visit.l1, if_pos (by rw [List.length_append, List.length_singleton]; omega), if_pos ⟨c1'.1, by omega, by rw [List.length_append, List.length_append, List.length_singleton, List.length_singleton]; omega⟩]; rfl
    refine f5.step fun k => ?_
    rw [walk_Visit.l2, fr_top, fr_set]; dsimp only; rw [if_pos hg, hr, if_pos (by have := at_.1; omega), at_.2.1, if_pos ⟨⟨by omega, by omega⟩, e.b0, by have := e.b1; omega⟩, if_pos hp]
end
end Go.Proofs.Ytacklfnnpiobgaa.G
namespace Go.Proofs.Ytacklfnnpiobgaa.G
open Go.RowKit Go.Proofs.Ytacklfnnpiobgaa.Q Go.Proofs.YtacklfnnpiobgaaW.PrintWords Go.Proofs.YtacklfnnpiobgaaW.PrintLast
set_option linter.unusedVariables false

theorem negs_replicate (m : Nat) : negs (List.replicate m (-1)) = (m : Int) := by
  unfold negs; rw [List.countP_replicate]; rfl
section
variable {n : Int} {E : List S41}
theorem visit_outer (R : Right n E) {O : List (List Int)} (ol : (O.length : Int) = n) (ho : ∀ v : Int, 0 ≤ v → v < n → rd_L2 O v = outL E E.length v) (d : Nat) : ∀ (s : Int) (P Q : List Int) (c : Int), 0 ≤ s → s + d = n → Inv n E [] P Q c → (∀ u, 0 ≤ u → u < s → 0 ≤ rd P u) →
    ∃ P' Q' c', Inv n E [] P' Q' c' ∧ (∀ u, 0 ≤ u → u < n → 0 ≤ rd P' u) ∧ Evl (fun k => walk_Visit.l0 k n E O s P Q c []) (P', Q', 0) ∧ Evl (fun k => compassref04_Visit.l1 k s n E P Q c) (P', Q', 0) := by
  have n1 := R.n1
  induction d with
  | zero =>
    intro s P Q c s0 hs I hP
    refine ⟨P, Q, c, I, fun u u0 u1 => hP u u0 (by omega), Evl.here fun k => ?_, Evl.here fun k => ?_⟩
    · rw [walk_Visit.l0, if_neg (by omega)]
    · rw [compassref04_Visit.l1, if_neg (by omega)]
  | succ d ih =>
    intro s P Q c s0 hs I hP
    have pl := I.pl
    have cc := I.c0
    have w := w1 (i := s) (by omega) (by omega)
    have hg : 0 ≤ s ∧ s < (P.length : Int) ∧ 0 ≤ c ∧ c ≤ 100000 ∧ (([] : List Fr).length : Int) ≤ 100000 := ⟨s0, by omega, cc.1, by omega, by simp⟩
    by_cases q : 0 ≤ rd P s
    · obtain ⟨P', Q', c', a, b, e, f⟩ := ih (s + 1) P Q c (by omega) (by omega) I (fun u u0 u1 => by
        by_cases r : u = s
        · rw [r]; exact q
        · exact hP u u0 (by omega))
      refine ⟨P', Q', c', a, b, e.step fun k => ?_, f.step fun k => ?_⟩
      · rw [walk_Visit.l0, if_pos (by omega), if_pos hg, if_pos q]
      · rw [compassref04_Visit.l1, if_pos (by omega), if_pos s0, if_pos (by omega), if_neg (by omega), w]
    · have I1 := I.enter R s0 (by omega) (by omega) (fun v hv => by simp at hv)
      obtain ⟨P1, Q1, c1, r⟩ := Rest.ex R P.length E.length 0 s [] (P.set s.toNat c) Q (c + 1) (by omega) (by have := negs_le (P.set s.toNat c); rw [List.length_set] at this; exact this) I1 (fun j j0 j1 _ => by omega)
      obtain ⟨I2, mono, _⟩ := r.inv R [] I1 (fun j j0 j1 _ => by omega)
      have rp : ∀ u, 0 ≤ u → rd (P.set s.toNat c) u = if u = s then c else rd P u := fun u u0 => rd_set _ _ _ _ s0 (by omega) u0
      obtain ⟨P', Q', c', a, b, e, f⟩ := ih (s + 1) P1 Q1 c1 (by omega) (by omega) I2 (fun u u0 u1 => mono u u0 (by omega) (by
        rw [rp u u0]; split
        · exact cc.1
        · exact hP u u0 (by omega)))
      have rv := ref_rest R r [] I1 (fun j j0 j1 _ => by omega)
      have fv : Evl (fun k => compassref04_visit.f k n E P Q c s) (P1, Q1, c1) := rv.step fun k => by
        rw [compassref04_visit.f, if_pos s0, if_pos (by omega), w1 (by omega) (by omega)]; rfl
      have i2 := I2.c0
      have b1 := prog_rest R ol ho s r [] [] rfl I1 (fun j j0 j1 _ => by omega) (P', Q', 0) (e.step fun k => by
        rw [walk_Visit.l1, if_neg (by simp)])
      have i1 := I1.c0
      have b2 : Evl (fun k => walk_Visit.l1 k n E O s (P.set s.toNat c) Q (c + 1) ([] ++ [⟨s, 0⟩])) (P', Q', 0) := Evl.step b1 fun k => by
        rw [walk_Visit.l1, if_pos (by simp), if_pos ⟨i1.1, by omega, by simp⟩]; rfl
      refine ⟨P', Q', c', a, b, b2.step fun k => ?_, (Evl.bind (h := fun k (bt : List Int × List Int × Int) => compassref04_Visit.l1 k (wrap64 (s + 1)) n E bt.1 bt.2.1 bt.2.2) fv (f.congr fun k => by rw [w])).step fun k => ?_⟩
      · rw [walk_Visit.l0, if_pos (by omega), if_pos hg, if_neg (by omega)]
      · rw [compassref04_Visit.l1, if_pos (by omega), if_pos s0, if_pos (by omega), if_pos (by omega)]
theorem visit_fill (n1 : n ≤ 1024) (c : Int) (d : Nat) : ∀ (v : Int) (P Q : List Int), 0 ≤ v → v + d = n → (P.length : Int) = n → (Q.length : Int) = n → (∀ u, 0 ≤ u → u < v → rd P u = -1) → (∀ u, 0 ≤ u → u < v → rd Q u = -1) → ∀ z,
    Evl (fun k => compassref04_Visit.l1 k 0 n E (List.replicate n.toNat (-1)) (List.replicate n.toNat (-1)) c) z → Evl (fun k => compassref04_Visit.l0 k v n E P Q c) z := by
  induction d with
  | zero =>
    intro v P Q v0 hv pl ql hP hQ z hz
    have e1 : P = List.replicate n.toNat (-1) := ext_rd _ _ (by rw [List.length_replicate]; omega) fun j j0 j1 => by rw [rd_replicate _ _ _ j0 (by omega)]; exact hP j j0 (by omega)
    have e2 : Q = List.replicate n.toNat (-1) := ext_rd _ _ (by rw [List.length_replicate]; omega) fun j j0 j1 => by rw [rd_replicate _ _ _ j0 (by omega)]; exact hQ j j0 (by omega)
    subst e1 e2
    exact hz.step fun k => by rw [compassref04_Visit.l0, if_neg (by omega)]
  | succ d ih =>
    intro v P Q v0 hv pl ql hP hQ z hz
    refine (ih (v + 1) (P.set v.toNat (-1)) (Q.set v.toNat (-1)) (by omega) (by omega) (by rw [List.length_set]; exact pl) (by rw [List.length_set]; exact ql) (fun u u0 u1 => ?_) (fun u u0 u1 => ?_) z hz).step fun k => ?_
    · rw [rd_set _ _ _ _ v0 (by omega) u0]; split
      · rfl
      · exact hP u u0 (by omega)
    · rw [rd_set _ _ _ _ v0 (by omega) u0]; split
      · rfl
      · exact hQ u u0 (by omega)
    · rw [compassref04_Visit.l0, if_pos (by omega), if_pos v0, if_pos (by omega), if_pos (by omega), w1 (by omega) (by omega)]
/-- Every visit. -/
theorem visits_f (n : Int) (E : List S41) : ∃ P Q c, Evl (fun k => walk_Visit.f k n E) (P, Q, c) ∧ Evl (fun k => compassref04_Visit.f k n E) (P, Q, c) ∧
    (c = 0 → Right n E ∧ (∃ t, Inv n E [] P Q t) ∧ ∀ u, 0 ≤ u → u < n → 0 ≤ rd P u) ∧ (c ≠ 0 → P = [] ∧ Q = []) ∧ ∃ a, Evl (fun k => graph_Check.f k n E) (c, a) := by
  obtain ⟨c, a, H1, H2, hz, hc, hr⟩ := check_f n E
  by_cases e : c = 0
  · obtain ⟨-, R⟩ := hz e
    subst e
    have n0 := R.n0
    have n1 := R.n1
    obtain ⟨O, o1, o2, o3⟩ := outs_f n E R
    have fl := filled_f n (-1) n0 (by omega)
    have I : Inv n E [] (List.replicate n.toNat (-1)) (List.replicate n.toNat (-1)) 0 := Inv.start n0 (by rw [List.length_replicate]; omega) (by rw [List.length_replicate]; omega) (fun u u0 u1 => by rw [rd_replicate _ _ _ u0 (by omega)]; omega) (fun u u0 u1 => by rw [rd_replicate _ _ _ u0 (by omega)]; omega) (by rw [negs_replicate]; omega) (by rw [negs_replicate]; omega) R
    obtain ⟨P, Q, t, i1, i2, f1, f2⟩ := visit_outer R o2 o3 n.toNat 0 _ _ 0 (Int.le_refl 0) (by omega) I (fun u u0 u1 => by omega)
    refine ⟨P, Q, 0, ?_, ?_, fun _ => ⟨R, ⟨t, i1⟩, i2⟩, fun h => absurd rfl h, a, H1⟩
    · refine Evl.bind (h := fun k (bt : Int × Int) => if bt.1 = 0 then (if 0 ≤ n ∧ n ≤ 100000 then ((walk_outs.f k n E).bind fun O => ((walk_filled.f k n (-1)).bind fun P => walk_Visit.l0 k n E O 0 P P 0 [])) else none) else some (([] : List Int), ([] : List Int), bt.1)) H1 ?_
      refine Evl.congr (Evl.bind o1 (h := fun k O => (walk_filled.f k n (-1)).bind fun P => walk_Visit.l0 k n E O 0 P P 0 []) (Evl.bind fl (h := fun k P => walk_Visit.l0 k n E O 0 P P 0 []) f1)) fun k => by rw [if_pos rfl, if_pos ⟨n0, by omega⟩]
    · refine Evl.bind (h := fun k (bt : Int × Int) => if bt.1 = 0 then (if 0 ≤ n then (if (n : Int).toNat ≤ 35184372088832 then (compassref04_Visit.l0 k 0 n E (List.replicate (n : Int).toNat 0) (List.replicate (n : Int).toNat 0) 0) else (none)) else (none)) else (some (([] : List Int), ([] : List Int), bt.1))) H2 ?_
      refine Evl.congr (visit_fill n1 0 n.toNat 0 (List.replicate n.toNat 0) (List.replicate n.toNat 0) (Int.le_refl 0) (by omega) (by rw [List.length_replicate]; omega) (by rw [List.length_replicate]; omega) (fun u u0 u1 => by omega) (fun u u0 u1 => by omega) _ f2) fun k => by rw [if_pos rfl, if_pos n0, if_pos (by omega)]
  · refine ⟨[], [], c, ?_, ?_, fun h => absurd h e, fun _ => ⟨rfl, rfl⟩, a, H1⟩
    · exact Evl.bind (h := fun k (bt : Int × Int) => if bt.1 = 0 then (if 0 ≤ n ∧ n ≤ 100000 then ((walk_outs.f k n E).bind fun O => ((walk_filled.f k n (-1)).bind fun P => walk_Visit.l0 k n E O 0 P P 0 [])) else none) else some (([] : List Int), ([] : List Int), bt.1)) H1 (Evl.pure.congr fun k => by rw [if_neg e])
    · exact Evl.bind (h := fun k (bt : Int × Int) => if bt.1 = 0 then (if 0 ≤ n then (if (n : Int).toNat ≤ 35184372088832 then (compassref04_Visit.l0 k 0 n E (List.replicate (n : Int).toNat 0) (List.replicate (n : Int).toNat 0) 0) else (none)) else (none)) else (some (([] : List Int), ([] : List Int), bt.1))) H2 (Evl.pure.congr fun k => by rw [if_neg e])
end
end Go.Proofs.Ytacklfnnpiobgaa.G
namespace Go.Proofs.Ytacklfnnpiobgaa.G
open Go.RowKit Go.Proofs.Ytacklfnnpiobgaa.Q Go.Proofs.YtacklfnnpiobgaaW.PrintWords Go.Proofs.YtacklfnnpiobgaaW.PrintLast
set_option linter.unusedVariables false

/-- Each can be come to from the other. -/
def Mut (E : List S41) (u v : Int) : Prop := Rch E u v ∧ Rch E v u
theorem Mut.symm {E : List S41} {u v : Int} (h : Mut E u v) : Mut E v u := ⟨h.2, h.1⟩
theorem Mut.trans {E : List S41} {u v w : Int} (a : Mut E u v) (b : Mut E v w) : Mut E u w := ⟨a.1.trans b.1, b.2.trans a.2⟩
theorem Mut.refl (E : List S41) (v : Int) : Mut E v v := ⟨Rch.refl, Rch.refl⟩
/-- What leads to s along nodes that have no part yet. -/
inductive Up (E : List S41) (L0 : List Int) (s : Int) : Int → Prop
  | refl : Up E L0 s s
  | step {i : Int} : 0 ≤ i → i < (E.length : Int) → Up E L0 s (rd_T41 E i).f1 → rd L0 (rd_T41 E i).f0 < 0 → Up E L0 s (rd_T41 E i).f0
theorem Up.rch {E : List S41} {L0 : List Int} {s v : Int} (h : Up E L0 s v) : Rch E v s := by
  induction h with
  | refl => exact Rch.refl
  | step i0 i1 _ _ ih => exact (Rch.step i0 i1 Rch.refl).trans ih
theorem Up.of {E : List S41} {L0 : List Int} {s w v : Int} (h : Rch E w v) (no : ∀ x, Rch E w x → Rch E x s → rd L0 x < 0) : Rch E v s → Up E L0 s v → Up E L0 s w := by
  induction h with
  | refl => intro _ u; exact u
  | @step i i0 i1 hw ih =>
    intro hs u
    have r : Rch E (rd_T41 E i).f0 s := (Rch.step i0 i1 Rch.refl).trans hs
    exact ih r (Up.step i0 i1 u (no _ hw r))
/-- What leads to s was come to and left within s. -/
theorem Up.inside {n : Int} {E : List S41} (R : Right n E) {P Q : List Int} {t : Int} (I : Inv n E [] P Q t) (vp : ∀ u, 0 ≤ u → u < n → 0 ≤ rd P u) (bl : ∀ u, 0 ≤ u → u < n → 0 ≤ rd Q u) {L0 : List Int} {s v : Int} (s0 : 0 ≤ s) (s1 : s < n)
    (hi : ∀ u, 0 ≤ u → u < n → rd L0 u < 0 → rd Q u ≤ rd Q s) (h : Up E L0 s v) : 0 ≤ v ∧ v < n ∧ rd P s ≤ rd P v ∧ rd P v < rd Q s := by
  induction h with
  | refl =>
    refine ⟨s0, s1, Int.le_refl _, ?_⟩
    have a := vp s s0 s1
    have b := bl s s0 s1
    rcases I.kind s s0 s1 with k | k | k
    · omega
    · omega
    · omega
  | @step i i0 i1 _ hn ih =>
    obtain ⟨a0, a1, a2, a3⟩ := ih
    have e := R.e i i0 i1
    have q := hi _ e.a0 e.a1 hn
    have o := I.out i i0 i1 (bl _ e.a0 e.a1)
    have p := vp _ e.a0 e.a1
    have kx : rd P (rd_T41 E i).f0 < rd Q (rd_T41 E i).f0 := by
      have b := bl _ e.a0 e.a1
      rcases I.kind _ e.a0 e.a1 with k | k | k
      · omega
      · omega
      · exact k.2.1
    refine ⟨e.a0, e.a1, ?_, by omega⟩
    by_cases c : rd P (rd_T41 E i).f0 < rd P s
    · have := I.nest _ s e.a0 e.a1 s0 s1 p c (bl _ e.a0 e.a1)
      omega
    · omega

theorem swp_rd (E : List S41) (i : Int) (i0 : 0 ≤ i) (i1 : i < (E.length : Int)) : rd_T41 (E.map swp) i = swp (rd_T41 E i) := by
  unfold rd_T41
  rw [List.getD_eq_getElem?_getD, List.getD_eq_getElem?_getD, List.getElem?_map, List.getElem?_eq_getElem (by omega)]
  rfl
theorem swp_right {n : Int} {E : List S41} (R : Right n E) : Right n (E.map swp) := by
  refine ⟨R.n0, R.n1, by rw [List.length_map]; exact R.m1, fun i i0 i1 => ?_⟩
  rw [List.length_map] at i1
  have e := R.e i i0 i1
  rw [swp_rd E i i0 i1]
  exact ⟨e.b0, e.b1, e.a0, e.a1, e.c0, e.c1, e.d0, e.d1⟩

section
variable {n : Int} {E : List S41}
/-- A search for what leads to s: L0 was told before, L is told now, S waits, x is looked at. -/
structure SI (n : Int) (E : List S41) (L0 : List Int) (s : Int) (L S : List Int) (x : Int) : Prop where
  len : (L.length : Int) = n
  old : ∀ v, 0 ≤ v → v < n → 0 ≤ rd L0 v → rd L v = rd L0 v
  new : ∀ v, 0 ≤ v → v < n → rd L0 v < 0 → rd L v < 0 ∨ (rd L v = s ∧ Up E L0 s v)
  st : ∀ v ∈ S, 0 ≤ v ∧ v < n ∧ rd L0 v < 0 ∧ 0 ≤ rd L v
  bnd : (S.length : Int) + negs L ≤ n
  dn : ∀ v, 0 ≤ v → v < n → rd L0 v < 0 → 0 ≤ rd L v → v ∈ S ∨ v = x ∨ ∀ i : Int, 0 ≤ i → i < (E.length : Int) → (rd_T41 E i).f1 = v → 0 ≤ rd L (rd_T41 E i).f0

theorem strong_l3 (R : Right n E) {L0 : List Int} (B : List Int) (O : List (List Int)) (ti : Int) {s v : Int} (s0 : 0 ≤ s) (v0 : 0 ≤ v) (v1 : v < n) (hv : Up E L0 s v) (hv0 : rd L0 v < 0) (d : Nat) : ∀ (j : Int) (L S : List Int), 0 ≤ j → j + d = ((outL (E.map swp) E.length v).length : Int) → SI n E L0 s L S v → 0 ≤ rd L v →
    (∀ i : Int, i ∈ (outL (E.map swp) E.length v).take j.toNat → 0 ≤ rd L (rd_T41 E i).f0) →
    ∃ L' S', SI n E L0 s L' S' (-1) ∧ (S'.length : Int) + negs L' = S.length + negs L ∧ (0 ≤ rd L s → 0 ≤ rd L' s) ∧ ∀ z, Evl (fun k => walk_Strong.l2 k B O L' ti s S' n (E.map swp)) z →
      Evl (fun k => walk_Strong.l3 k B O L ti s S (outL (E.map swp) E.length v) ((outL (E.map swp) E.length v).length : Int) j n (E.map swp)) z := by
  have n1 := R.n1
  have m1 := R.m1
  induction d with
  | zero =>
    intro j L S j0 hj I hL hd
    refine ⟨L, S, ⟨I.len, I.old, I.new, I.st, I.bnd, fun u u0 u1 h0 h => ?_⟩, rfl, id, fun z hz => hz.step fun k => by rw [walk_Strong.l3, if_neg (by omega)]⟩
    rcases I.dn u u0 u1 h0 h with g | g | g
    · exact .inl g
    · refine .inr (.inr fun i i0 i1 hf => hd i ?_)
      rw [List.take_of_length_le (by omega)]
      refine (mem_outL _ _ _ _).mpr ⟨i0, i1, ?_⟩
      rw [swp_rd E i i0 i1]; show (rd_T41 E i).f1 = v; rw [hf, g]
    · exact .inr (.inr g)
  | succ d ih =>
    intro j L S j0 hj I hL hd
    have hl := outL_len (E.map swp) E.length v
    have wj := w1 (i := j) (by omega) (by omega)
    have jm := rd_mem (outL (E.map swp) E.length v) j j0 (by omega)
    generalize hi : rd (outL (E.map swp) E.length v) j = i at jm
    obtain ⟨i0, i1, hf⟩ := (mem_outL _ _ _ _).mp jm
    rw [swp_rd E i i0 i1] at hf
    have hf' : (rd_T41 E i).f1 = v := hf
    have e := R.e i i0 i1
    have il := I.len
    have tk : (outL (E.map swp) E.length v).take (j + 1).toNat = (outL (E.map swp) E.length v).take j.toNat ++ [i] := by
      have hlt : j.toNat < (outL (E.map swp) E.length v).length := by omega
      rw [show (j + 1).toNat = j.toNat + 1 by omega, List.take_succ_eq_append_getElem hlt]
      congr 2
      rw [← hi]; unfold rd; rw [List.getD_eq_getElem?_getD, List.getElem?_eq_getElem hlt]; rfl
    have er : (rd_T41 (E.map swp) i).f1 = (rd_T41 E i).f0 := by rw [swp_rd E i i0 i1]; rfl
    by_cases c : rd L (rd_T41 E i).f0 < 0
    · have rs : ∀ u, 0 ≤ u → rd (L.set (rd_T41 E i).f0.toNat s) u = if u = (rd_T41 E i).f0 then s else rd L u := fun u u0 => rd_set _ _ _ _ e.a0 (by have := e.a1; omega) u0
      have ng := negs_set L (rd_T41 E i).f0 s e.a0 (by have := e.a1; omega) c s0
      have h0 : rd L0 (rd_T41 E i).f0 < 0 := Int.not_le.mp fun h => by have := I.old _ e.a0 e.a1 h; omega
      have ib := I.bnd
      have np := negs_nonneg (L.set (rd_T41 E i).f0.toNat s)
      have nw : ∀ u, 0 ≤ u → u < n → 0 ≤ rd L u → 0 ≤ rd (L.set (rd_T41 E i).f0.toNat s) u := fun u u0 u1 h => by rw [rs u u0]; split <;> omega
      have I' : SI n E L0 s (L.set (rd_T41 E i).f0.toNat s) (S ++ [(rd_T41 E i).f0]) v := by
        refine ⟨by rw [List.length_set]; exact il, fun u u0 u1 h => ?_, fun u u0 u1 h => ?_, fun u hu => ?_, by rw [List.length_append, List.length_singleton]; push_cast; omega, fun u u0 u1 h h' => ?_⟩
        · rw [rs u u0, if_neg (by intro q; rw [q] at h; omega)]; exact I.old u u0 u1 h
        · rw [rs u u0]
          by_cases q : u = (rd_T41 E i).f0
          · rw [if_pos q]; right; exact ⟨rfl, by rw [q]; exact Up.step i0 i1 (by rw [hf']; exact hv) h0⟩
          · rw [if_neg q]; exact I.new u u0 u1 h
        · rcases List.mem_append.mp hu with g | g
          · obtain ⟨a, b, c', d'⟩ := I.st u g
            exact ⟨a, b, c', nw u a b d'⟩
          · rw [List.mem_singleton] at g
            subst g
            exact ⟨e.a0, e.a1, h0, by rw [rs _ e.a0, if_pos rfl]; exact s0⟩
        · by_cases q : u = (rd_T41 E i).f0
          · left; rw [List.mem_append, List.mem_singleton]; exact .inr q
          · rw [rs u u0, if_neg q] at h'
            rcases I.dn u u0 u1 h h' with g | g | g
            · left; rw [List.mem_append]; exact .inl g
            · exact .inr (.inl g)
            · exact .inr (.inr fun x x0 x1 hx => nw _ (R.e x x0 x1).a0 (R.e x x0 x1).a1 (g x x0 x1 hx))
      obtain ⟨L', S', a, b, b', z⟩ := ih (j + 1) (L.set (rd_T41 E i).f0.toNat s) (S ++ [(rd_T41 E i).f0]) (by omega) (by omega) I' (nw v v0 v1 hL) (fun x hx => by
        rw [tk, List.mem_append, List.mem_singleton] at hx
        rcases hx with g | g
        · have mx := (mem_outL _ _ _ _).mp (List.mem_of_mem_take g)
          exact nw _ (R.e x mx.1 mx.2.1).a0 (R.e x mx.1 mx.2.1).a1 (hd x g)
        · rw [g, rs _ e.a0, if_pos rfl]; exact s0)
      refine ⟨L', S', a, by rw [b, List.length_append, List.length_singleton]; push_cast; omega, fun h => b' (by rw [rs s s0]; split <;> omega), fun r hr => (z r hr).step fun k => ?_⟩
      rw [walk_Strong.l3, if_pos (by omega), if_pos j0, if_pos (by omega), hi, if_pos i0, if_pos (by rw [List.length_map]; omega), er, if_pos e.a0, if_pos (by have := e.a1; omega), if_pos c, if_pos (by omega), wj]
    · obtain ⟨L', S', a, b, b', z⟩ := ih (j + 1) L S (by omega) (by omega) I hL (fun x hx => by
        rw [tk, List.mem_append, List.mem_singleton] at hx
        rcases hx with g | g
        · exact hd x g
        · rw [g]; omega)
      refine ⟨L', S', a, b, b', fun r hr => (z r hr).step fun k => ?_⟩
      rw [walk_Strong.l3, if_pos (by omega), if_pos j0, if_pos (by omega), hi, if_pos i0, if_pos (by rw [List.length_map]; omega), er, if_pos e.a0, if_pos (by have := e.a1; omega), if_neg c, wj]

theorem strong_l2 (R : Right n E) {L0 : List Int} (B : List Int) {O : List (List Int)} (ol : (O.length : Int) = n) (ho : ∀ v : Int, 0 ≤ v → v < n → rd_L2 O v = outL (E.map swp) E.length v) (ti : Int) {s : Int} (s0 : 0 ≤ s) (m : Nat) : ∀ (L S : List Int), (S.length : Int) + negs L = m → SI n E L0 s L S (-1) →
    ∃ L', SI n E L0 s L' [] (-1) ∧ (0 ≤ rd L s → 0 ≤ rd L' s) ∧ ∀ z, Evl (fun k => walk_Strong.l1 k B O L' (wrap64 (ti - 1)) n (E.map swp)) z → Evl (fun k => walk_Strong.l2 k B O L ti s S n (E.map swp)) z := by
  have n1 := R.n1
  induction m with
  | zero =>
    intro L S hm I
    have hng := negs_nonneg L
    cases S with
    | nil => exact ⟨L, I, id, fun r H => H.step fun k => by rw [walk_Strong.l2, if_neg (by simp)]⟩
    | cons a t => simp only [List.length_cons] at hm; omega
  | succ m ih =>
    intro L S hm I
    have hng := negs_nonneg L
    by_cases h0 : (S.length : Int) > 0
    · have hbn := I.bnd
      have wm' := wm (i := (S.length : Int)) (by omega) (by omega)
      have hmem := rd_mem S ((S.length : Int) - 1) (by omega) (by omega)
      generalize hv : rd S ((S.length : Int) - 1) = v at hmem
      obtain ⟨v0, v1, vn, vc⟩ := I.st v hmem
      have tl : ((S.take ((S.length : Int) - 1).toNat).length : Int) = S.length - 1 := by rw [List.length_take]; omega
      have hS : S = S.take ((S.length : Int) - 1).toNat ++ [v] := by
        have hlt : ((S.length : Int) - 1).toNat < S.length := by omega
        have e1 : S[((S.length : Int) - 1).toNat] = v := by
          rw [← hv]; unfold rd; rw [List.getD_eq_getElem?_getD, List.getElem?_eq_getElem hlt]; rfl
        conv => lhs; rw [← List.take_append_drop ((S.length : Int) - 1).toNat S, List.drop_eq_getElem_cons hlt, e1, List.drop_eq_nil_of_le (by omega)]
      have uv : Up E L0 s v := by
        rcases I.new v v0 v1 vn with g | g
        · omega
        · exact g.2
      have It : SI n E L0 s L (S.take ((S.length : Int) - 1).toNat) v := ⟨I.len, I.old, I.new, fun x hx => I.st x (List.mem_of_mem_take hx), by omega, fun u a b h h' => by
        rcases I.dn u a b h h' with g | g | g
        · rw [hS] at g
          rcases List.mem_append.mp g with g | g
          · exact .inl g
          · exact .inr (.inl (List.mem_singleton.mp g))
        · omega
        · exact .inr (.inr g)⟩
      obtain ⟨L1, S1, I1, ms, kp, R1⟩ := strong_l3 R B O ti s0 v0 v1 uv vn (outL (E.map swp) E.length v).length 0 L _ (Int.le_refl 0) (by omega) It vc (fun i hi => by simp at hi)
      obtain ⟨L', I', kp', R'⟩ := ih L1 S1 (by omega) I1
      refine ⟨L', I', fun h => kp' (kp h), fun r H => (R1 r (R' r H)).step fun k => ?_⟩
      rw [walk_Strong.l2, if_pos h0, wm', if_pos (by omega), if_pos (by omega), if_pos (by omega), hv, if_pos v0, if_pos (by omega), ho v v0 v1]
    · have : S = [] := List.length_eq_zero_iff.mp (by omega)
      subst this
      exact ⟨L, I, id, fun r H => H.step fun k => by rw [walk_Strong.l2, if_neg (by simp)]⟩
end
end Go.Proofs.Ytacklfnnpiobgaa.G
namespace Go.Proofs.Ytacklfnnpiobgaa.G
open Go.RowKit Go.Proofs.Ytacklfnnpiobgaa.Q Go.Proofs.YtacklfnnpiobgaaW.PrintWords Go.Proofs.YtacklfnnpiobgaaW.PrintLast
set_option linter.unusedVariables false
section
variable {n : Int} {E : List S41}
/-- The parts told so far. -/
structure KI (n : Int) (E : List S41) (Q L : List Int) (t : Int) : Prop where
  len : (L.length : Int) = n
  a : ∀ v, 0 ≤ v → v < n → 0 ≤ rd L v → rd L v < n ∧ Mut E v (rd L v)
  b : ∀ v w, 0 ≤ v → v < n → 0 ≤ w → w < n → 0 ≤ rd L v → Mut E v w → rd L w = rd L v
  c : ∀ v, 0 ≤ v → v < n → t < rd Q v → 0 ≤ rd L v
theorem strong_l1 (R : Right n E) {P Q : List Int} {tt : Int} (I : Inv n E [] P Q tt) (vp : ∀ u, 0 ≤ u → u < n → 0 ≤ rd P u) (bl : ∀ u, 0 ≤ u → u < n → 0 ≤ rd Q u) {B : List Int} (lb : (B.length : Int) = 2 * n) (hb1 : ∀ v, 0 ≤ v → v < n → rd B (rd Q v) = v + 1)
    (hb2 : ∀ t, 0 ≤ t → t < 2 * n → rd B t = 0 ∨ ∃ v, 0 ≤ v ∧ v < n ∧ rd Q v = t ∧ rd B t = v + 1) {O : List (List Int)} (ol : (O.length : Int) = n) (ho : ∀ v : Int, 0 ≤ v → v < n → rd_L2 O v = outL (E.map swp) E.length v) (d : Nat) : ∀ (t : Int) (L : List Int), t + 1 = d → t < 2 * n → KI n E Q L t →
    ∃ L', KI n E Q L' (-1) ∧ ∀ z, Evl (fun k => (walk_numbered.f k L').bind fun t361 => (some (t361, (0 : Int)))) z → Evl (fun k => walk_Strong.l1 k B O L t n (E.map swp)) z := by
  have n0 := R.n0
  have n1 := R.n1
  induction d with
  | zero =>
    intro t L ht t2 K
    exact ⟨L, by rw [show (-1 : Int) = t by omega]; exact K, fun z hz => hz.step fun k => by rw [walk_Strong.l1, if_neg (by omega)]⟩
  | succ d ih =>
    intro t L ht t2 K
    have t0 : 0 ≤ t := by omega
    have kl := K.len
    have wt := wm (i := t) (by omega) (by omega)
    rcases hb2 t t0 t2 with hz | ⟨s, s0, s1, hs, hv⟩
    · have w0 : wrap64 (rd B t - 1) = -1 := by rw [hz, wm (by omega) (by omega)]; rfl
      have no : ∀ v, 0 ≤ v → v < n → rd Q v ≠ t := fun v a b h => by have := hb1 v a b; rw [h, hz] at this; omega
      obtain ⟨L', K', z⟩ := ih (t - 1) L (by omega) (by omega) ⟨K.len, K.a, K.b, fun v a b h => K.c v a b (by have := no v a b; omega)⟩
      refine ⟨L', K', fun r hr => Evl.step (h := fun k => walk_Strong.j2 k B O L t (-1) true n (E.map swp)) ((z r hr).step fun k => by rw [walk_Strong.j2, if_pos rfl, wt]) fun k => ?_⟩
      rw [walk_Strong.l1, if_pos (by omega), if_pos t0, if_pos (by omega), w0, if_pos (by omega)]
    · have w0 : wrap64 (rd B t - 1) = s := by rw [hv, show s + 1 - 1 = s by omega]; unfold wrap64; omega
      by_cases c : 0 ≤ rd L s
      · obtain ⟨L', K', z⟩ := ih (t - 1) L (by omega) (by omega) ⟨K.len, K.a, K.b, fun v a b h => by
          by_cases q : v = s
          · rw [q]; exact c
          · exact K.c v a b (by have := I.dqq v s a b s0 s1 q (bl v a b); omega)⟩
        have dt : decide (rd L s ≥ 0) = true := decide_eq_true c
        refine ⟨L', K', fun r hr => Evl.step (h := fun k => walk_Strong.j2 k B O L t s true n (E.map swp)) ((z r hr).step fun k => by rw [walk_Strong.j2, if_pos rfl, wt]) fun k => ?_⟩
        rw [walk_Strong.l1, if_pos (by omega), if_pos t0, if_pos (by omega), w0, if_neg (by omega), if_pos s0, if_pos (by omega), dt]
      · have rs : ∀ u, 0 ≤ u → rd (L.set s.toNat s) u = if u = s then s else rd L u := fun u u0 => rd_set _ _ _ _ s0 (by omega) u0
        have ng := negs_set L s s s0 (by omega) (by omega) s0
        have nl := negs_le L
        have SI0 : SI n E L s (L.set s.toNat s) [s] (-1) := ⟨by rw [List.length_set]; exact kl, fun v a b h => by rw [rs v a, if_neg (by intro q; rw [q] at h; omega)], fun v a b h => by
            rw [rs v a]
            by_cases q : v = s
            · rw [if_pos q, q]; exact .inr ⟨rfl, Up.refl⟩
            · rw [if_neg q]; exact .inl h, fun v hv => by
            rw [List.mem_singleton] at hv; subst hv; exact ⟨s0, s1, by omega, by rw [rs v s0, if_pos rfl]; exact s0⟩, by rw [List.length_singleton]; omega, fun v a b h h' => by
            rw [rs v a] at h'
            by_cases q : v = s
            · left; rw [q]; simp
            · rw [if_neg q] at h'; omega⟩
        obtain ⟨L1, S1, kp, z1⟩ := strong_l2 R B ol ho t s0 (1 + negs (L.set s.toNat s)).toNat (L.set s.toNat s) [s] (by have := negs_nonneg (L.set s.toNat s); rw [List.length_singleton]; omega) SI0
        have ls : 0 ≤ rd L1 s := kp (by rw [rs s s0, if_pos rfl]; exact s0)
        -- nodes that have no part were left no later than s
        have hi : ∀ u, 0 ≤ u → u < n → rd L u < 0 → rd Q u ≤ rd Q s := fun u a b h => by
          refine Int.not_lt.mp fun g => ?_
          have := K.c u a b (by omega); omega
        have ins := fun {v : Int} (h : Up E L s v) => Up.inside R I vp bl s0 s1 hi h
        have mu : ∀ {v : Int}, Up E L s v → Mut E v s := fun {v} h => by
          obtain ⟨a, b, c', d'⟩ := ins h
          exact ⟨h.rch, I.anc s v s0 s1 a b (vp s s0 s1) c' (.inr d')⟩
        have closed : ∀ v, Up E L s v → 0 ≤ rd L1 v := fun v h => by
          induction h with
          | refl => exact ls
          | @step i i0 i1 hu hn ihu =>
            have e := R.e i i0 i1
            by_cases q : 0 ≤ rd L (rd_T41 E i).f1
            · -- it had a part: so would its mates
              have m1 := mu hu
              have := K.b _ s e.b0 e.b1 s0 s1 q m1
              omega
            · rcases S1.dn _ e.b0 e.b1 (by omega) ihu with g | g | g
              · simp at g
              · have := e.b0; omega
              · exact g i i0 i1 rfl
        have un : ∀ w, 0 ≤ w → w < n → Mut E w s → rd L w < 0 := fun w a b m => Int.not_le.mp fun h => by
          have := K.b w s a b s0 s1 h m; omega
        have upm : ∀ w, 0 ≤ w → w < n → Mut E w s → Up E L s w := fun w a b m => Up.of m.1 (fun x h1 h2 => by
          have hx : 0 ≤ x ∧ x < n := by
            cases h1 with
            | refl => exact ⟨a, b⟩
            | @step i i0 i1 _ => exact ⟨(R.e i i0 i1).b0, (R.e i i0 i1).b1⟩
          exact un x hx.1 hx.2 ⟨h2, m.2.trans h1⟩) Rch.refl Up.refl
        have K1 : KI n E Q L1 (t - 1) := by
          refine ⟨S1.len, fun v a b h => ?_, fun v w a b a' b' h m => ?_, fun v a b h => ?_⟩
          · by_cases q : 0 ≤ rd L v
            · rw [S1.old v a b q]; exact K.a v a b q
            · rcases S1.new v a b (by omega) with g | g
              · omega
              · rw [g.1]; exact ⟨s1, mu g.2⟩
          · by_cases q : 0 ≤ rd L v
            · have e := K.b v w a b a' b' q m
              rw [S1.old v a b q, S1.old w a' b' (by omega)]; exact e
            · rcases S1.new v a b (by omega) with g | g
              · omega
              · have mw : Mut E w s := m.symm.trans (mu g.2)
                have cw := closed w (upm w a' b' mw)
                rcases S1.new w a' b' (un w a' b' mw) with g' | g'
                · omega
                · rw [g.1, g'.1]
          · by_cases q : v = s
            · rw [q]; exact ls
            · have := K.c v a b (by have := I.dqq v s a b s0 s1 q (bl v a b); omega)
              rw [S1.old v a b this]; exact this
        obtain ⟨L', K', z⟩ := ih (t - 1) L1 (by omega) (by omega) K1
        have df : decide (rd L s ≥ 0) = false := decide_eq_false (by omega)
        refine ⟨L', K', fun r hr => Evl.step (h := fun k => walk_Strong.j2 k B O L t s false n (E.map swp)) ((z1 r ((z r hr).congr fun k => by rw [wt])).step fun k => by rw [walk_Strong.j2, if_neg (by decide), if_pos s0, if_pos (by omega)]) fun k => ?_⟩
        rw [walk_Strong.l1, if_pos (by omega), if_pos t0, if_pos (by omega), w0, if_neg (by omega), if_pos s0, if_pos (by omega), df]

/-- numbered: by the first nodes. -/
theorem wnumbered_f (n : Int) (T : List Int) (n0 : 0 ≤ n) (n1 : n ≤ 1000000) (hl : (T.length : Int) = n) (rng : ∀ v, 0 ≤ v → v < n → 0 ≤ rd T v ∧ rd T v < n) :
    ∃ P, Evl (fun k => walk_numbered.f k T) P ∧ (P.length : Int) = n ∧ (∀ u v, 0 ≤ u → u < n → 0 ≤ v → v < n → (rd P u = rd P v ↔ rd T u = rd T v)) ∧ (∀ v, 0 ≤ v → v < n → Rg P v) := by
  have loop : ∀ (q : Nat) (v c : Int) (N O : List Int), 0 ≤ v → v + q = n → 0 ≤ c → c ≤ v → (N.length : Int) = n → (O.length : Int) = n →
      (∀ u, 0 ≤ u → u < v → rd O u = rd N (rd T u) ∧ 0 ≤ rd O u ∧ rd O u < c ∧ Rg O u) → (∀ y, 0 ≤ y → y < n → 0 ≤ rd N y → rd N y < c) → (∀ y y', 0 ≤ y → y < n → 0 ≤ y' → y' < n → 0 ≤ rd N y → rd N y = rd N y' → y = y') →
      (∀ y, 0 ≤ y → y < n → 0 ≤ rd N y → ∃ u, 0 ≤ u ∧ u < v ∧ rd T u = y) → (∀ x, 0 ≤ x → x < c → ∃ u, 0 ≤ u ∧ u < v ∧ rd O u = x) →
      ∃ P, Evl (fun k => walk_numbered.l0 k N O c T (T.length : Int) v) P ∧ (P.length : Int) = n ∧ (∀ u v, 0 ≤ u → u < n → 0 ≤ v → v < n → (rd P u = rd P v ↔ rd T u = rd T v)) ∧ (∀ v, 0 ≤ v → v < n → Rg P v) := by
    intro q
    induction q with
    | zero =>
      intro v c N O v0 hv c0 cv hN hO h1 h2 h3 h4 h5
      obtain rfl : v = n := by omega
      refine ⟨O, Evl.here fun k => by rw [walk_numbered.l0, if_neg (by omega)], hO, fun u w a b a' b' => ?_, fun u a b => (h1 u a b).2.2.2⟩
      have x := h1 u a b
      have y := h1 w a' b'
      refine ⟨fun h => h3 _ _ (rng u a b).1 (rng u a b).2 (rng w a' b').1 (rng w a' b').2 (by omega) (by omega), fun h => ?_⟩
      rw [x.1, y.1, h]
    | succ q ih =>
      intro v c N O v0 hv c0 cv hN hO h1 h2 h3 h4 h5
      have v1 : v < n := by omega
      have wv := w1 (i := v) (by omega) (by omega)
      have wc := w1 (i := c) (by omega) (by omega)
      have rt := rng v v0 v1
      have rs : ∀ y, ∀ u, 0 ≤ u → rd (O.set v.toNat y) u = if u = v then y else rd O u := fun y u u0 => rd_set _ _ _ _ v0 (by omega) u0
      by_cases e : rd N (rd T v) < 0
      · have rn : ∀ u, 0 ≤ u → rd (N.set (rd T v).toNat c) u = if u = rd T v then c else rd N u := fun u u0 => rd_set _ _ _ _ rt.1 (by omega) u0
        have nt : rd (N.set (rd T v).toNat c) (rd T v) = c := by rw [rn _ rt.1, if_pos rfl]
        have fresh : ∀ u, 0 ≤ u → u < v → rd T u ≠ rd T v := fun u a b h => by have := h1 u a b; rw [h] at this; omega
        obtain ⟨P, H, r⟩ := ih (v + 1) (c + 1) (N.set (rd T v).toNat c) (O.set v.toNat c) (by omega) (by omega) (by omega) (by omega) (by rw [List.length_set]; exact hN) (by rw [List.length_set]; exact hO)
          (fun u a b => by
            by_cases q : u = v
            · rw [q, rs c v v0, if_pos rfl, nt]
              refine ⟨rfl, c0, by omega, rg_new c0 (by rw [rs c v v0, if_pos rfl]) (fun w w0 w1 => by rw [rs c w w0, if_neg (by omega)]; exact (h1 w w0 w1).2.2.1) fun x x0 x1 => ?_⟩
              obtain ⟨w, w0, w1, e'⟩ := h5 x x0 x1
              exact ⟨w, w0, w1, by rw [rs c w w0, if_neg (by omega)]; exact e'⟩
            · have g := h1 u a (by omega)
              have ru := rng u a (by omega)
              rw [rs c u a, if_neg q, rn _ ru.1, if_neg (fresh u a (by omega))]
              exact ⟨g.1, g.2.1, by omega, g.2.2.2.of a fun w w0 w1 => by rw [rs c w w0, if_neg (by omega)]⟩)
          (fun y a b h => by
            rw [rn y a] at h ⊢
            split
            · omega
            · rename_i g; rw [if_neg g] at h; have := h2 y a b h; omega)
          (fun y y' a b a' b' h g => by
            rw [rn y a] at h g
            rw [rn y' a'] at g
            by_cases q : y = rd T v
            · by_cases q' : y' = rd T v
              · rw [q, q']
              · rw [if_pos q, if_neg q'] at g; have := h2 y' a' b' (by omega); omega
            · rw [if_neg q] at h g
              by_cases q' : y' = rd T v
              · rw [if_pos q'] at g; have := h2 y a b h; omega
              · rw [if_neg q'] at g; exact h3 y y' a b a' b' h g)
          (fun y a b h => by
            rw [rn y a] at h
            by_cases q : y = rd T v
            · exact ⟨v, v0, by omega, q.symm⟩
            · rw [if_neg q] at h
              obtain ⟨u, u0, u1, g⟩ := h4 y a b h
              exact ⟨u, u0, by omega, g⟩)
          (fun x a b => by
            by_cases q : x = c
            · exact ⟨v, v0, by omega, by rw [rs c v v0, if_pos rfl, q]⟩
            · obtain ⟨u, u0, u1, g⟩ := h5 x a (by omega)
              exact ⟨u, u0, by omega, by rw [rs c u u0, if_neg (by omega)]; exact g⟩)
        refine ⟨P, H.step fun k => ?_, r⟩
        rw [walk_numbered.l0, if_pos (by omega), if_pos v0, if_pos (by omega), if_pos rt.1, if_pos (by omega), if_pos e, Option.bind_some, if_pos (by omega), nt, wv, wc]
      · obtain ⟨P, H, r⟩ := ih (v + 1) c N (O.set v.toNat (rd N (rd T v))) (by omega) (by omega) c0 (by omega) hN (by rw [List.length_set]; exact hO)
          (fun u a b => by
            by_cases q : u = v
            · rw [q, rs _ v v0, if_pos rfl]
              obtain ⟨w, w0, w1, g⟩ := h4 (rd T v) rt.1 rt.2 (by omega)
              refine ⟨rfl, by omega, h2 _ rt.1 rt.2 (by omega), rg_old w0 w1 (by rw [rs _ v v0, if_pos rfl]; omega) (by rw [rs _ v v0, if_pos rfl, rs _ w w0, if_neg (by omega), (h1 w w0 w1).1, g])⟩
            · have g := h1 u a (by omega)
              rw [rs _ u a, if_neg q]
              exact ⟨g.1, g.2.1, g.2.2.1, g.2.2.2.of a fun w w0 w1 => by rw [rs _ w w0, if_neg (by omega)]⟩)
          h2 h3 (fun y a b h => by
            obtain ⟨u, u0, u1, g⟩ := h4 y a b h
            exact ⟨u, u0, by omega, g⟩)
          (fun x a b => by
            obtain ⟨u, u0, u1, g⟩ := h5 x a b
            exact ⟨u, u0, by omega, by rw [rs _ u u0, if_neg (by omega)]; exact g⟩)
        refine ⟨P, H.step fun k => ?_, r⟩
        rw [walk_numbered.l0, if_pos (by omega), if_pos v0, if_pos (by omega), if_pos rt.1, if_pos (by omega), if_neg e, if_pos (by omega), wv]
  obtain ⟨P, H, r⟩ := loop n.toNat 0 0 (List.replicate n.toNat (-1)) (List.replicate n.toNat 0) (Int.le_refl 0) (by omega) (Int.le_refl 0) (Int.le_refl 0) (by rw [List.length_replicate]; omega) (by rw [List.length_replicate]; omega) (fun u a b => by omega)
    (fun y a b h => by rw [rd_replicate _ _ _ a (by omega)] at h; omega) (fun y y' a b _ _ h => by rw [rd_replicate _ _ _ a (by omega)] at h; omega) (fun y a b h => by rw [rd_replicate _ _ _ a (by omega)] at h; omega) (fun x a b => by omega)
  refine ⟨P, ?_, r⟩
  have e : T.length = n.toNat := by omega
  refine (Evl.bind (filled_f (T.length : Int) (-1) (by omega) (by omega)) (h := fun k t324 => if 0 ≤ (T.length : Int) then (if ((T.length : Int) : Int).toNat ≤ 35184372088832 then (walk_numbered.l0 k t324 (List.replicate ((T.length : Int) : Int).toNat 0) 0 T (T.length : Int) 0) else (none)) else (none)) (H.congr fun k => ?_)).congr fun k => rfl
  rw [if_pos (by omega), if_pos (by omega), Int.toNat_natCast, e]

/-- The program's strong parts of a right graph. -/
theorem wstrong_f (n : Int) (E : List S41) : ∃ P c, Evl (fun k => walk_Strong.f k n E) (P, c) ∧ (c = 0 → Right n E ∧ (P.length : Int) = n ∧ (∀ u v, 0 ≤ u → u < n → 0 ≤ v → v < n → (rd P u = rd P v ↔ Mut E u v)) ∧ (∀ v, 0 ≤ v → v < n → Rg P v)) ∧ (c ≠ 0 → P = []) ∧ ∃ a, Evl (fun k => graph_Check.f k n E) (c, a) := by
  obtain ⟨P, Q, c', H1, -, vz, vn, a, C1⟩ := visits_f n E
  by_cases e : c' = 0
  · subst e
    obtain ⟨R, ⟨t, I⟩, vp⟩ := vz rfl
    have n0 := R.n0
    have n1 := R.n1
    have ql := I.ql
    have cb := I.c0
    have bl : ∀ u, 0 ≤ u → u < n → 0 ≤ rd Q u := fun u u0 u1 => by
      have := vp u u0 u1
      rcases I.kind u u0 u1 with h | h | h
      · omega
      · exact absurd h.2.2.2 (by simp)
      · omega
    have up : ∀ u, 0 ≤ u → u < n → rd Q u < 2 * n := fun u u0 u1 => by have := (I.lt u0 u1 cb.1).2; omega
    have loop : ∀ (d : Nat) (v : Int) (B : List Int), 0 ≤ v → v + d = n → (B.length : Int) = 2 * n → (∀ u, 0 ≤ u → u < v → rd B (rd Q u) = u + 1) → (∀ t, 0 ≤ t → t < 2 * n → rd B t = 0 ∨ ∃ u, 0 ≤ u ∧ u < v ∧ rd Q u = t ∧ rd B t = u + 1) →
        ∃ B', (B'.length : Int) = 2 * n ∧ (∀ u, 0 ≤ u → u < n → rd B' (rd Q u) = u + 1) ∧ (∀ t, 0 ≤ t → t < 2 * n → rd B' t = 0 ∨ ∃ u, 0 ≤ u ∧ u < n ∧ rd Q u = t ∧ rd B' t = u + 1) ∧
          ∀ z, Evl (fun k => walk_Strong.l0 k B' Q (Q.length : Int) n n E) z → Evl (fun k => walk_Strong.l0 k B Q (Q.length : Int) v n E) z := by
      intro d
      induction d with
      | zero =>
        intro v B v0 hv hB h1 h2
        obtain rfl : v = n := by omega
        exact ⟨B, hB, h1, h2, fun z hz => hz⟩
      | succ d ih =>
        intro v B v0 hv hB h1 h2
        have v1 : v < n := by omega
        have w := w1 (i := v) (by omega) (by omega)
        have q0 := bl v v0 v1
        have q1 := up v v0 v1
        have rs : ∀ u, 0 ≤ u → rd (B.set (rd Q v).toNat (v + 1)) u = if u = rd Q v then v + 1 else rd B u := fun u u0 => rd_set _ _ _ _ q0 (by omega) u0
        obtain ⟨B', a, b, c, z⟩ := ih (v + 1) (B.set (rd Q v).toNat (v + 1)) (by omega) (by omega) (by rw [List.length_set]; exact hB) (fun u a b => by
          by_cases q : u = v
          · rw [q, rs _ q0, if_pos rfl]
          · rw [rs _ (bl u a (by omega)), if_neg (I.dqq u v a (by omega) v0 v1 q (bl u a (by omega)))]; exact h1 u a (by omega)) (fun t a b => by
          rw [rs t a]
          by_cases q : t = rd Q v
          · rw [if_pos q]; exact .inr ⟨v, v0, by omega, q.symm, rfl⟩
          · rw [if_neg q]
            rcases h2 t a b with g | ⟨u, u0, u1, g, g'⟩
            · exact .inl g
            · exact .inr ⟨u, u0, by omega, g, g'⟩)
        refine ⟨B', a, b, c, fun r hr => (z r hr).step fun k => ?_⟩
        rw [walk_Strong.l0, if_pos (by omega), if_pos v0, if_pos (by omega), if_pos q0, if_pos (by omega), w]
    obtain ⟨B, lb, hb1, hb2, zb⟩ := loop n.toNat 0 (List.replicate (2 * n).toNat 0) (Int.le_refl 0) (by omega) (by rw [List.length_replicate]; omega) (fun u a b => by omega) (fun t a b => .inl (by rw [rd_replicate _ _ _ a (by omega)]))
    have RS := swp_right R
    obtain ⟨O, o1, o2, o3⟩ := outs_f n (E.map swp) RS
    rw [List.length_map] at o3
    have fl := filled_f n (-1) n0 (by omega)
    have nn : ∀ v, 0 ≤ v → v < n → rd (List.replicate n.toNat (-1 : Int)) v < 0 := fun v a b => by rw [rd_replicate _ _ _ a (by omega)]; omega
    obtain ⟨L, K, zl⟩ := strong_l1 R I vp bl lb hb1 hb2 o2 o3 (2 * n).toNat (2 * n - 1) (List.replicate n.toNat (-1)) (by omega) (by omega) ⟨by rw [List.length_replicate]; omega, fun v a b h => by have := nn v a b; omega, fun v w a b _ _ h => by have := nn v a b; omega, fun v a b h => by have := up v a b; omega⟩
    have all : ∀ v, 0 ≤ v → v < n → 0 ≤ rd L v := fun v a b => K.c v a b (by have := bl v a b; omega)
    obtain ⟨N, f1, f2, f3, f4⟩ := wnumbered_f n L n0 (by omega) K.len (fun v a b => ⟨all v a b, (K.a v a b (all v a b)).1⟩)
    refine ⟨N, 0, ?_, fun _ => ⟨R, f2, fun u v u0 u1 v0 v1 => (f3 u v u0 u1 v0 v1).trans ⟨fun h => ?_, fun m => (K.b u v u0 u1 v0 v1 (all u u0 u1) m).symm⟩, f4⟩, fun h => absurd rfl h, a, C1⟩
    · have w2 : wrap64 (2 * n) = 2 * n := by unfold wrap64; omega
      have wl : wrap64 ((B.length : Int) - 1) = 2 * n - 1 := by rw [lb]; unfold wrap64; omega
      have rf : ∀ k, graph_Reverse.f k n E = some (n, E.map swp) := fun k => by unfold graph_Reverse.f; rw [if_pos (by have := R.m1; omega)]
      have last : Evl (fun k => walk_Strong.l0 k B Q (Q.length : Int) n n E) (N, 0) := by
        refine Evl.step (h := fun k => (graph_Reverse.f k n E).bind fun bt350 => ((walk_outs.f k bt350.1 bt350.2).bind fun t355 => ((walk_filled.f k n (-1)).bind fun t358 => (walk_Strong.l1 k B t355 t358 (wrap64 ((B.length : Int) - 1)) bt350.1 bt350.2)))) ?_ fun k => by rw [walk_Strong.l0, if_neg (by omega)]
        refine Evl.congr (h := fun k => (walk_outs.f k n (E.map swp)).bind fun t355 => ((walk_filled.f k n (-1)).bind fun t358 => (walk_Strong.l1 k B t355 t358 (2 * n - 1) n (E.map swp)))) ?_ fun k => by rw [rf, Option.bind_some, wl]
        refine Evl.bind o1 (h := fun k t355 => (walk_filled.f k n (-1)).bind fun t358 => (walk_Strong.l1 k B t355 t358 (2 * n - 1) n (E.map swp))) (Evl.bind fl (h := fun k t358 => walk_Strong.l1 k B O t358 (2 * n - 1) n (E.map swp)) (zl _ ?_))
        exact Evl.bind f1 (h := fun k t361 => some (t361, (0 : Int))) Evl.pure
      refine (Evl.bind H1 (h := fun k (bt338 : List Int × List Int × Int) => if bt338.2.2 = 0 then (if 0 ≤ (wrap64 (2 * n)) then (if (wrap64 (2 * n) : Int).toNat ≤ 35184372088832 then (walk_Strong.l0 k (List.replicate (wrap64 (2 * n) : Int).toNat 0) bt338.2.1 (bt338.2.1.length : Int) 0 n E) else (none)) else (none)) else (some (([] : List Int), bt338.2.2))) ?_).congr fun k => rfl
      exact (zb _ last).congr fun k => by rw [if_pos rfl, w2, if_pos (by omega), if_pos (by omega)]
    · have x := (K.a u u0 u1 (all u u0 u1)).2
      have y := (K.a v v0 v1 (all v v0 v1)).2
      rw [← h] at y
      exact x.trans y.symm
  · refine ⟨[], c', ?_, fun h => absurd h e, fun _ => rfl, a, C1⟩
    exact (Evl.bind H1 (h := fun k (bt338 : List Int × List Int × Int) => if bt338.2.2 = 0 then (if 0 ≤ (wrap64 (2 * n)) then (if (wrap64 (2 * n) : Int).toNat ≤ 35184372088832 then (walk_Strong.l0 k (List.replicate (wrap64 (2 * n) : Int).toNat 0) bt338.2.1 (bt338.2.1.length : Int) 0 n E) else (none)) else (none)) else (some (([] : List Int), bt338.2.2))) (Evl.pure.congr fun k => by rw [if_neg e])).congr fun k => rfl
end
end Go.Proofs.Ytacklfnnpiobgaa.G
namespace Go.Proofs.Ytacklfnnpiobgaa.GC
open Go.Proofs.Ytacklfnnpiobgaa.G Go.RowKit Go.Proofs.Ytacklfnnpiobgaa.Q Go.Proofs.YtacklfnnpiobgaaW.PrintWords Go.Proofs.YtacklfnnpiobgaaW.PrintLast
set_option linter.unusedVariables false

theorem nodup_len (m : Nat) : ∀ l : List Int, l.Nodup → (∀ x ∈ l, 0 ≤ x ∧ x < (m : Int)) → l.length ≤ m := by
  induction m with
  | zero =>
    intro l _ h
    cases l with
    | nil => exact Nat.le_refl _
    | cons a t => have := h a (by simp); omega
  | succ m ih =>
    intro l hl h
    have := ih (l.erase (m : Int)) (hl.erase _) (fun x hx => by
      rw [hl.mem_erase_iff] at hx
      have := h x hx.2
      have := hx.1
      omega)
    rw [List.length_erase] at this
    split at this <;> omega

/-- These edges make a circle. -/
structure IsCircle (n : Int) (E : List S41) (l : List Int) : Prop where
  pos : 0 < (l.length : Int)
  len : (l.length : Int) ≤ (E.length : Int)
  rng : ∀ k, 0 ≤ k → k < (l.length : Int) → 0 ≤ rd l k ∧ rd l k < (E.length : Int)
  on : ∀ k, 0 ≤ k → k + 1 < (l.length : Int) → (rd_T41 E (rd l k)).f1 = (rd_T41 E (rd l (k + 1))).f0
  back : (rd_T41 E (rd l (l.length - 1))).f1 = (rd_T41 E (rd l 0)).f0
  once : ∀ j k, 0 ≤ j → j < k → k < (l.length : Int) → (rd_T41 E (rd l j)).f1 ≠ (rd_T41 E (rd l k)).f1

theorem tmod_next {k len : Int} (h0 : 0 ≤ k) (h1 : k < len) : Int.tmod (k + 1) len = if k + 1 < len then k + 1 else 0 := by
  rw [Int.tmod_eq_emod_of_nonneg (by omega)]
  by_cases h : k + 1 < len
  · rw [if_pos h, Int.emod_eq_of_lt (by omega) h]
  · rw [if_neg h, show k + 1 = len by omega, Int.emod_self]

/-- Nodes that are not done, each with an edge from another such one. -/
structure Stuck (n : Int) (E : List S41) (B : List Bool) : Prop where
  len : (B.length : Int) = n
  some : ∃ v, 0 ≤ v ∧ v < n ∧ rdOf false B v = false
  into : ∀ v, 0 ≤ v → v < n → rdOf false B v = false → ∃ i, 0 ≤ i ∧ i < (E.length : Int) ∧ (rd_T41 E i).f1 = v ∧ rdOf false B (rd_T41 E i).f0 = false

/-- The edge into each node that is not done. -/
def Into (n : Int) (E : List S41) (B : List Bool) (I : List Int) : Prop := (I.length : Int) = n ∧ ∀ v, 0 ≤ v → v < n → rdOf false B v = false →
  0 ≤ rd I v ∧ rd I v < (E.length : Int) ∧ (rd_T41 E (rd I v)).f1 = v ∧ rdOf false B (rd_T41 E (rd I v)).f0 = false

/-- The way back: edges, and when each node was come to. -/
structure Way (n : Int) (E : List S41) (B : List Bool) (I S K : List Int) (at_ : Int) : Prop where
  slen : (S.length : Int) = n
  a0 : 0 ≤ at_
  a1 : at_ < n
  und : rdOf false B at_ = false
  rng : ∀ k, 0 ≤ k → k < (K.length : Int) → 0 ≤ rd K k ∧ rd K k < (E.length : Int)
  mark : ∀ k, 0 ≤ k → k < (K.length : Int) → rd S (rd_T41 E (rd K k)).f1 = k
  seen : ∀ v, 0 ≤ v → v < n → 0 ≤ rd S v → rd S v < (K.length : Int) ∧ (rd_T41 E (rd K (rd S v))).f1 = v
  on : ∀ k, 0 ≤ k → k + 1 < (K.length : Int) → (rd_T41 E (rd K k)).f0 = (rd_T41 E (rd K (k + 1))).f1
  last : 0 < (K.length : Int) → (rd_T41 E (rd K (K.length - 1))).f0 = at_
  bnd : (K.length : Int) + negs S = n

theorem round_l3 (at_ : Int) (S K : List Int) (a0 : 0 ≤ at_) (a1 : at_ < (S.length : Int)) (s0 : 0 ≤ rd S at_) (hK : (K.length : Int) ≤ 5000) (m : Nat) : ∀ (k : Int) (C : List Int), k < (K.length : Int) → k + 1 - rd S at_ = m → (C.length : Int) + (k + 1) = (K.length : Int) →
    (∀ j, 0 ≤ j → j < (C.length : Int) → rd C j = rd K (K.length - 1 - j)) → ∃ C' : List Int, Evl (fun q => walk_round.l3 q at_ S K C k) C' ∧ (C'.length : Int) = K.length - rd S at_ ∧ ∀ j, 0 ≤ j → j < (C'.length : Int) → rd C' j = rd K (K.length - 1 - j) := by
  induction m with
  | zero =>
    intro k C hk hm hC hc
    exact ⟨C, Evl.here fun q => by rw [walk_round.l3, if_pos a0, if_pos a1, if_neg (by omega)], by omega, hc⟩
  | succ m ih =>
    intro k C hk hm hC hc
    have hl : ((C ++ [rd K k]).length : Int) = C.length + 1 := by simp
    obtain ⟨C', H, l', c'⟩ := ih (k - 1) (C ++ [rd K k]) (by omega) (by omega) (by omega) (fun j j0 j1 => by
      rw [rd_append _ _ _ j0]
      by_cases e : j < (C.length : Int)
      · rw [if_pos e]; exact hc j j0 e
      · rw [if_neg e, show j - (C.length : Int) = 0 by omega, show (K.length : Int) - 1 - j = k by omega]; rfl)
    refine ⟨C', H.step fun q => ?_, l', c'⟩
    rw [walk_round.l3, if_pos a0, if_pos a1, if_pos (by omega), if_pos (by omega), if_pos hk, if_pos (by omega), wm (by omega) (by omega)]

theorem way_circle {n : Int} {E : List S41} (hR : Right n E) {B : List Bool} {I S K : List Int} {at_ : Int} (W : Way n E B I S K at_) (h : 0 ≤ rd S at_) {C : List Int} (lc : (C.length : Int) = K.length - rd S at_)
    (hc : ∀ j, 0 ≤ j → j < (C.length : Int) → rd C j = rd K (K.length - 1 - j)) : IsCircle n E C := by
  obtain ⟨t0, t1⟩ := W.seen at_ W.a0 W.a1 h
  have lst := W.last (by omega)
  refine ⟨by omega, ?_, fun k k0 k1 => ?_, fun k k0 k1 => ?_, ?_, fun j k j0 j1 k1 e => ?_⟩
  · have nd : C.Nodup := by
      refine List.pairwise_iff_getElem.mpr fun i j hi hj hij e => ?_
      have e1 : rd C (i : Int) = rd C (j : Int) := by
        unfold rd
        simp only [Int.toNat_natCast, List.getD_eq_getElem?_getD, List.getElem?_eq_getElem hi, List.getElem?_eq_getElem hj, e]
      rw [hc i (by omega) (by omega), hc j (by omega) (by omega)] at e1
      have g1 := W.mark (K.length - 1 - (i : Int)) (by omega) (by omega)
      have g2 := W.mark (K.length - 1 - (j : Int)) (by omega) (by omega)
      rw [e1] at g1; omega
    have := nodup_len E.length C nd (fun x hx => by
      obtain ⟨k, k0, k1, ek⟩ := mem_rd hx
      rw [hc k k0 k1] at ek
      have := W.rng (K.length - 1 - k) (by omega) (by omega)
      rw [ek] at this; exact this)
    omega
  · rw [hc k k0 k1]; exact W.rng _ (by omega) (by omega)
  · rw [hc k k0 (by omega), hc (k + 1) (by omega) k1]
    have := W.on ((K.length : Int) - 1 - (k + 1)) (by omega) (by omega)
    rw [this, show (K.length : Int) - 1 - (k + 1) + 1 = K.length - 1 - k by omega]
  · rw [hc _ (by omega) (by omega), hc 0 (Int.le_refl 0) (by omega), show (K.length : Int) - 1 - (C.length - 1) = rd S at_ by omega, show (K.length : Int) - 1 - 0 = K.length - 1 by omega, t1, lst]
  · rw [hc j j0 (by omega), hc k (by omega) k1] at e
    have g1 := W.mark ((K.length : Int) - 1 - j) (by omega) (by omega)
    have g2 := W.mark ((K.length : Int) - 1 - k) (by omega) (by omega)
    rw [e] at g1; omega

theorem round_l2 (n : Int) (E : List S41) (hR : Right n E) (B : List Bool) (I : List Int) (hI : Into n E B I) (m : Nat) : ∀ (S K : List Int) (at_ : Int), negs S = m → Way n E B I S K at_ →
    ∃ C, Evl (fun q => walk_round.l2 q I at_ S K n E) C ∧ IsCircle n E C := by
  have n1 := hR.n1
  have m1 := hR.m1
  induction m with
  | zero =>
    intro S K at_ hm W
    have hs := W.slen
    have hb := W.bnd
    have : 0 ≤ rd S at_ := by
      by_cases h : rd S at_ < 0
      · have ng := negs_set S at_ 0 W.a0 (by have := W.a1; omega) h (Int.le_refl 0)
        have := negs_nonneg (S.set at_.toNat 0); omega
      · omega
    have a1 := W.a1
    obtain ⟨t0, t1⟩ := W.seen at_ W.a0 W.a1 this
    obtain ⟨C, H, lc, hc⟩ := round_l3 at_ S K W.a0 (by omega) this (by omega) ((K.length : Int) - rd S at_).toNat (K.length - 1) [] (by omega) (by omega) (by simp) (fun j a b => by simp at b; omega)
    refine ⟨C, H.step fun q => ?_, way_circle hR W this lc hc⟩
    rw [walk_round.l2, if_pos W.a0, if_pos (by omega), if_neg (by omega), wm (by omega) (by omega)]
  | succ m ih =>
    intro S K at_ hm W
    have hs := W.slen
    have hb := W.bnd
    have a0 := W.a0
    have a1 := W.a1
    by_cases h : rd S at_ < 0
    · obtain ⟨i0, i1, ei, eu⟩ := hI.2 at_ a0 a1 W.und
      have hIl := hI.1
      obtain ⟨f0, f1, g0, g1, -, -, -, -⟩ := hR.e _ i0 i1
      have ng := negs_set S at_ (K.length : Int) a0 (by omega) h (by omega)
      have hl : ((K ++ [rd I at_]).length : Int) = K.length + 1 := by simp
      have rs : ∀ v, 0 ≤ v → rd (S.set at_.toNat (K.length : Int)) v = if v = at_ then (K.length : Int) else rd S v := fun v v0 => rd_set _ _ _ _ a0 (by omega) v0
      have rk : ∀ k, 0 ≤ k → k < (K.length : Int) → rd (K ++ [rd I at_]) k = rd K k := fun k k0 k1 => by rw [rd_append _ _ _ k0, if_pos k1]
      have rl : rd (K ++ [rd I at_]) (K.length : Int) = rd I at_ := by rw [rd_append _ _ _ (by omega), if_neg (by omega), Int.sub_self]; rfl
      have W' : Way n E B I (S.set at_.toNat (K.length : Int)) (K ++ [rd I at_]) (rd_T41 E (rd I at_)).f0 := by
        refine ⟨by rw [List.length_set]; exact hs, f0, f1, eu, fun k k0 k1 => ?_, fun k k0 k1 => ?_, fun v v0 v1 hv => ?_, fun k k0 k1 => ?_, fun _ => ?_, ?_⟩
        · by_cases e : k < (K.length : Int)
          · rw [rk k k0 e]; exact W.rng k k0 e
          · rw [show k = (K.length : Int) by omega, rl]; exact ⟨i0, i1⟩
        · by_cases e : k < (K.length : Int)
          · rw [rk k k0 e]
            have b := W.mark k k0 e
            obtain ⟨r0, r1⟩ := W.rng k k0 e
            rw [rs _ (hR.e _ r0 r1).b0, if_neg (fun q => by rw [q] at b; omega)]; exact b
          · rw [show k = (K.length : Int) by omega, rl, ei, rs at_ a0, if_pos rfl]
        · rw [rs v v0] at hv ⊢
          by_cases e : v = at_
          · rw [if_pos e]; exact ⟨by omega, by rw [rl, ei, e]⟩
          · rw [if_neg e] at hv ⊢
            obtain ⟨q0, q1⟩ := W.seen v v0 v1 hv
            exact ⟨by omega, by rw [rk _ hv q0]; exact q1⟩
        · by_cases e : k + 1 < (K.length : Int)
          · rw [rk k k0 (by omega), rk (k + 1) (by omega) e]; exact W.on k k0 e
          · have ek : k = (K.length : Int) - 1 := by omega
            rw [show k + 1 = (K.length : Int) by omega, rl, ei, rk k k0 (by omega), ek]
            exact W.last (by omega)
        · rw [hl, show (K.length : Int) + 1 - 1 = K.length by omega, rl]
        · rw [ng]; omega
      obtain ⟨C, H, c⟩ := ih _ _ _ (by omega) W'
      refine ⟨C, H.step fun q => ?_, c⟩
      have hng := negs_nonneg S
      rw [walk_round.l2, if_pos a0, if_pos (by omega), if_pos h, if_pos (by omega), if_pos (by omega), if_pos i0, if_pos i1]
    · have h' : 0 ≤ rd S at_ := by omega
      obtain ⟨t0, t1⟩ := W.seen at_ a0 a1 h'
      have hng := negs_nonneg S
      obtain ⟨C, H, lc, hc⟩ := round_l3 at_ S K a0 (by omega) h' (by omega) ((K.length : Int) - rd S at_).toNat (K.length - 1) [] (by omega) (by omega) (by simp) (fun j a b => by simp at b; omega)
      refine ⟨C, H.step fun q => ?_, way_circle hR W h' lc hc⟩
      rw [walk_round.l2, if_pos a0, if_pos (by omega), if_neg h, wm (by omega) (by omega)]

theorem round_l1 (n : Int) (E : List S41) (hR : Right n E) (B : List Bool) (hB : (B.length : Int) = n) (I : List Int) (hI : Into n E B I) (m : Nat) : ∀ (v at_ : Int), 0 ≤ v → v + m = n →
    ((0 ≤ at_ ∧ at_ < n ∧ rdOf false B at_ = false) ∨ ∃ x, v ≤ x ∧ x < n ∧ rdOf false B x = false) → ∃ C, Evl (fun q => walk_round.l1 q B I at_ n v n E) C ∧ IsCircle n E C := by
  have n0 := hR.n0
  have n1 := hR.n1
  induction m with
  | zero =>
    intro v at_ v0 hv h
    rcases h with ⟨a0, a1, au⟩ | ⟨x, x0, x1, -⟩
    · have F := filled_f n (-1) n0 (by omega)
      have ng : negs (List.replicate n.toNat (-1)) = n := by
        unfold negs
        rw [List.countP_replicate, if_pos (by decide)]; omega
      obtain ⟨C, H, c⟩ := round_l2 n E hR B I hI n.toNat (List.replicate n.toNat (-1)) [] at_ (by omega) ⟨by rw [List.length_replicate]; omega, a0, a1, au, fun k k0 k1 => by simp at k1; omega, fun k k0 k1 => by simp at k1; omega,
        fun v v0 v1 hv => by rw [rd_replicate _ _ _ v0 (by omega)] at hv; omega, fun k k0 k1 => by simp at k1; omega, fun h => by simp at h, by rw [ng]; simp⟩
      refine ⟨C, (Evl.bind F (h := fun q t => walk_round.l2 q I at_ t [] n E) H).step fun q => ?_, c⟩
      rw [walk_round.l1, if_neg (by omega)]
    · omega
  | succ m ih =>
    intro v at_ v0 hv h
    by_cases e : rdOf false B v = true
    · obtain ⟨C, H, c⟩ := ih (v + 1) at_ (by omega) (by omega) (by
        rcases h with h | ⟨x, x0, x1, xu⟩
        · exact Or.inl h
        · refine Or.inr ⟨x, ?_, x1, xu⟩
          by_cases q : x = v
          · rw [q, e] at xu; cases xu
          · omega)
      refine ⟨C, H.step fun q => ?_, c⟩
      rw [walk_round.l1, if_pos (by omega), if_pos v0, if_pos (by omega), if_pos e, w1 (by omega) (by omega)]
    · obtain ⟨C, H, c⟩ := ih (v + 1) v (by omega) (by omega) (Or.inl ⟨v0, by omega, by simpa using e⟩)
      refine ⟨C, H.step fun q => ?_, c⟩
      rw [walk_round.l1, if_pos (by omega), if_pos v0, if_pos (by omega), if_neg e, w1 (by omega) (by omega)]

theorem round_l0 (n : Int) (E : List S41) (hR : Right n E) (B : List Bool) (hS : Stuck n E B) (m : Nat) : ∀ (i : Int) (I : List Int), 0 ≤ i → i + m = (E.length : Int) → (I.length : Int) = n →
    (∀ j, 0 ≤ j → j < i → rdOf false B (rd_T41 E j).f0 = false → rdOf false B (rd_T41 E j).f1 = false → 0 ≤ rd I (rd_T41 E j).f1) →
    (∀ v, 0 ≤ v → v < n → 0 ≤ rd I v → rd I v < (E.length : Int) ∧ (rd_T41 E (rd I v)).f1 = v ∧ rdOf false B (rd_T41 E (rd I v)).f0 = false) →
    ∃ C, Evl (fun q => walk_round.l0 q B I (-1) E (E.length : Int) i n E) C ∧ IsCircle n E C := by
  have m1 := hR.m1
  have n1 := hR.n1
  have n0 := hR.n0
  have hB := hS.len
  induction m with
  | zero =>
    intro i I i0 hi hl h1 h2
    have hI : Into n E B I := ⟨hl, fun v v0 v1 hv => by
      obtain ⟨j, j0, j1, ej, eu⟩ := hS.into v v0 v1 hv
      have := h1 j j0 (by omega) eu (by rw [ej]; exact hv)
      rw [ej] at this
      obtain ⟨a, b, c⟩ := h2 v v0 v1 this
      exact ⟨this, a, b, c⟩⟩
    obtain ⟨C, H, c⟩ := round_l1 n E hR B hB I hI n.toNat 0 (-1) (Int.le_refl 0) (by omega) (Or.inr hS.some)
    exact ⟨C, H.step fun q => by rw [walk_round.l0, if_neg (by omega)], c⟩
  | succ m ih =>
    intro i I i0 hi hl h1 h2
    have i1 : i < (E.length : Int) := by omega
    obtain ⟨a0, a1, b0, b1, -, -, -, -⟩ := hR.e i i0 i1
    have w := w1 (i := i) (by omega) (by omega)
    by_cases c0 : rdOf false B (rd_T41 E i).f0 = true
    · obtain ⟨C, H, c⟩ := ih (i + 1) I (by omega) (by omega) hl (fun j j0 j1 hj hk => by
        by_cases e : j = i
        · rw [e, c0] at hj; cases hj
        · exact h1 j j0 (by omega) hj hk) h2
      refine ⟨C, H.step fun q => ?_, c⟩
      rw [walk_round.l0, if_pos i1, if_pos i0, if_pos i1, if_pos a0, if_pos (by omega), if_pos c0, w]
    · by_cases c1 : rdOf false B (rd_T41 E i).f1 = true
      · obtain ⟨C, H, c⟩ := ih (i + 1) I (by omega) (by omega) hl (fun j j0 j1 hj hk => by
          by_cases e : j = i
          · rw [e, c1] at hk; cases hk
          · exact h1 j j0 (by omega) hj hk) h2
        refine ⟨C, H.step fun q => ?_, c⟩
        rw [walk_round.l0, if_pos i1, if_pos i0, if_pos i1, if_pos a0, if_pos (by omega), if_neg c0, if_pos b0, if_pos (by omega), if_pos c1, w]
      · have rs : ∀ v, 0 ≤ v → rd (I.set (rd_T41 E i).f1.toNat i) v = if v = (rd_T41 E i).f1 then i else rd I v := fun v v0 => rd_set _ _ _ _ b0 (by omega) v0
        obtain ⟨C, H, c⟩ := ih (i + 1) (I.set (rd_T41 E i).f1.toNat i) (by omega) (by omega) (by rw [List.length_set]; exact hl) (fun j j0 j1 hj hk => by
          rw [rs _ (hR.e j j0 (by omega)).b0]
          by_cases e : (rd_T41 E j).f1 = (rd_T41 E i).f1
          · rw [if_pos e]; exact i0
          · rw [if_neg e]
            refine h1 j j0 ?_ hj hk
            by_cases e2 : j = i
            · rw [e2] at e; exact absurd rfl e
            · omega) (fun v v0 v1 hv => by
          rw [rs v v0] at hv ⊢
          by_cases e : v = (rd_T41 E i).f1
          · rw [if_pos e]; exact ⟨i1, e.symm, by simpa using c0⟩
          · rw [if_neg e] at hv ⊢; exact h2 v v0 v1 hv)
        refine ⟨C, H.step fun q => ?_, c⟩
        rw [walk_round.l0, if_pos i1, if_pos i0, if_pos i1, if_pos a0, if_pos (by omega), if_neg c0, if_pos b0, if_pos (by omega), if_neg c1, if_pos (by omega), w]

theorem round_f (n : Int) (E : List S41) (hR : Right n E) (B : List Bool) (hS : Stuck n E B) : ∃ C, Evl (fun q => walk_round.f q n E B) C ∧ IsCircle n E C := by
  have n0 := hR.n0
  have n1 := hR.n1
  obtain ⟨C, H, c⟩ := round_l0 n E hR B hS E.length 0 (List.replicate n.toNat (-1)) (Int.le_refl 0) (by omega) (by rw [List.length_replicate]; omega) (fun j a b => by omega)
    (fun v v0 v1 hv => by rw [rd_replicate _ _ _ v0 (by omega)] at hv; omega)
  exact ⟨C, (Evl.bind (filled_f n (-1) n0 (by omega)) (h := fun q t => walk_round.l0 q B t (-1) E (E.length : Int) 0 n E) H).congr fun q => rfl, c⟩
end Go.Proofs.Ytacklfnnpiobgaa.GC
namespace Go.Proofs.Ytacklfnnpiobgaa.GC
open Go.Proofs.Ytacklfnnpiobgaa.G Go.RowKit Go.Proofs.Ytacklfnnpiobgaa.Q Go.Proofs.YtacklfnnpiobgaaW.PrintWords Go.Proofs.YtacklfnnpiobgaaW.PrintLast
set_option linter.unusedVariables false

theorem countP_setB (p : Bool → Bool) (l : List Bool) : ∀ (i : Nat) (x : Bool), i < l.length → p (l.getD i false) = true → p x = false → (l.set i x).countP p + 1 = l.countP p := by
  induction l with
  | nil => intro i x h; exact absurd h (by simp)
  | cons a t ih =>
    intro i x h hp hx
    cases i with
    | zero => simp at hp; simp [hp, hx]
    | succ i =>
      have := ih i x (by simpa using h) (by simpa using hp) hx
      simp only [List.set_cons_succ, List.countP_cons]
      omega
/-- How many nodes are not done. -/
def undone (B : List Bool) : Int := (B.countP fun b => !b : Nat)
theorem undone_nonneg (B : List Bool) : 0 ≤ undone B := by unfold undone; omega
theorem undone_set (B : List Bool) (i : Int) (h0 : 0 ≤ i) (h : i < (B.length : Int)) (hn : rdOf false B i = false) : undone (B.set i.toNat true) = undone B - 1 := by
  have := countP_setB (fun b => !b) B i.toNat true (by omega) (by unfold rdOf at hn; rw [hn]; rfl) rfl
  unfold undone; omega
theorem undone_none (B : List Bool) (h : undone B = 0) (v : Int) (v0 : 0 ≤ v) (v1 : v < (B.length : Int)) : rdOf false B v = true := by
  have h' : B.countP (fun b => !b) = 0 := by unfold undone at h; omega
  have := List.countP_eq_zero.mp h' (rdOf false B v) (getD_mem B false v.toNat (by omega))
  simpa using this

theorem countP_split {α : Type} (p q r : α → Bool) (l : List α) (h : ∀ x ∈ l, (if p x = true then 1 else 0 : Nat) = (if q x = true then 1 else 0) + (if r x = true then 1 else 0)) : l.countP p = l.countP q + l.countP r := by
  induction l with
  | nil => rfl
  | cons a t ih =>
    have h1 := h a (by simp)
    have h2 := ih fun x hx => h x (by simp [hx])
    simp only [List.countP_cons]; omega

/-- An edge that a node waits for. -/
def blk (E : List S41) (B : List Bool) (v : Int) (i : Nat) : Bool := decide ((rd_T41 E (i : Int)).f1 = v) && !(rdOf false B (rd_T41 E (i : Int)).f0)
/-- How many edges a node waits for. -/
def cnt (E : List S41) (B : List Bool) (v : Int) : Int := ((List.range E.length).countP (blk E B v) : Nat)
def toV (E : List S41) (v i : Int) : Bool := decide ((rd_T41 E i).f1 = v)

theorem cnt_nonneg (E : List S41) (B : List Bool) (v : Int) : 0 ≤ cnt E B v := by unfold cnt; omega
theorem cnt_le (E : List S41) (B : List Bool) (v : Int) : cnt E B v ≤ (E.length : Int) := by
  unfold cnt; have := List.countP_le_length (p := blk E B v) (l := List.range E.length); rw [List.length_range] at this; omega
theorem cnt_zero (E : List S41) (B : List Bool) (v : Int) : cnt E B v = 0 ↔ ∀ i, 0 ≤ i → i < (E.length : Int) → (rd_T41 E i).f1 = v → rdOf false B (rd_T41 E i).f0 = true := by
  constructor
  · intro h i i0 i1 e
    have h' : (List.range E.length).countP (blk E B v) = 0 := by unfold cnt at h; omega
    have := List.countP_eq_zero.mp h' i.toNat (List.mem_range.mpr (by omega))
    unfold blk at this
    rw [show ((i.toNat : Nat) : Int) = i by omega, decide_eq_true e] at this
    simpa using this
  · intro h
    have : (List.range E.length).countP (blk E B v) = 0 := List.countP_eq_zero.mpr fun i hi => by
      rw [List.mem_range] at hi
      unfold blk
      by_cases e : (rd_T41 E (i : Int)).f1 = v
      · rw [h (i : Int) (by omega) (by omega) e]; simp
      · rw [decide_eq_false e]; simp
    unfold cnt; omega
theorem cnt_set (n : Int) (E : List S41) (hR : Right n E) (B : List Bool) (hB : (B.length : Int) = n) (u v : Int) (u0 : 0 ≤ u) (u1 : u < n) (hu : rdOf false B u = false) :
    cnt E (B.set u.toNat true) v = cnt E B v - ((outL E E.length u).countP (toV E v) : Nat) := by
  have h := countP_split (blk E B v) (blk E (B.set u.toNat true) v) (fun i : Nat => toV E v (i : Int) && decide ((rd_T41 E (i : Int)).f0 = u)) (List.range E.length) (fun i hi => by
    rw [List.mem_range] at hi
    have re := hR.e (i : Int) (by omega) (by omega)
    unfold blk toV
    rw [rdOf_set _ _ _ _ _ u0 (by omega) re.a0]
    by_cases e1 : (rd_T41 E (i : Int)).f1 = v
    · by_cases e2 : (rd_T41 E (i : Int)).f0 = u
      · simp [e1, e2, hu]
      · simp [e1, e2]
    · simp [e1])
  have h2 : (outL E E.length u).countP (toV E v) = (List.range E.length).countP (fun i : Nat => toV E v (i : Int) && decide ((rd_T41 E (i : Int)).f0 = u)) := by
    unfold outL
    rw [List.countP_map, List.countP_filter]
    rfl
  unfold cnt
  rw [h2]; omega

/-- The waits of all nodes. -/
def Waits (n : Int) (E : List S41) (B : List Bool) (w : List Int) : Prop := (w.length : Int) = n ∧ ∀ v, 0 ≤ v → v < n → rd w v = cnt E B v

theorem order_l3 (n : Int) (E : List S41) (hR : Right n E) (O : List Int) (B : List Bool) (o : List (List Int)) (x u : Int) (d : Nat) : ∀ (j : Nat) (w : List Int), j + d = (outL E E.length u).length → (w.length : Int) = n →
    (∀ v, 0 ≤ v → v < n → 0 ≤ rd w v + j ∧ rd w v ≤ 5000) →
    ∃ w', (w'.length : Int) = n ∧ (∀ v, 0 ≤ v → v < n → rd w' v = rd w v - (((outL E E.length u).drop j).countP (toV E v) : Nat)) ∧
      ∀ r, Evl (fun k => walk_Order.l1 k O w' B o n (wrap64 (x + 1)) n E) r → Evl (fun k => walk_Order.l3 k O w B o n x (outL E E.length u) ((outL E E.length u).length : Int) (j : Int) n E) r := by
  have hlen := outL_len E E.length u
  have m1 := hR.m1
  induction d with
  | zero =>
    intro j w hj hw hb
    obtain rfl : j = (outL E E.length u).length := by omega
    refine ⟨w, hw, fun v a b => by rw [List.drop_length]; simp, fun r H => H.step fun k => ?_⟩
    rw [walk_Order.l3, if_neg (by omega)]
  | succ d ih =>
    intro j w hj hw hb
    have hj' : j < (outL E E.length u).length := by omega
    have hji : (j : Int) < ((outL E E.length u).length : Int) := by omega
    obtain ⟨i0, i1, -⟩ := (mem_outL E E.length u _).mp (rd_mem _ (j : Int) (by omega) hji)
    have hdrop : (outL E E.length u).drop j = rd (outL E E.length u) (j : Int) :: (outL E E.length u).drop (j + 1) := by
      rw [List.drop_eq_getElem_cons hj']
      unfold rd
      rw [Int.toNat_natCast, List.getD_eq_getElem?_getD, List.getElem?_eq_getElem hj']; rfl
    generalize hi : rd (outL E E.length u) (j : Int) = i at i0 i1 hdrop
    obtain ⟨a0, a1, b0, b1, -, -, -, -⟩ := hR.e i i0 i1
    have bb := hb _ b0 b1
    have wx := wm (i := rd w (rd_T41 E i).f1) (by omega) (by omega)
    have rs : ∀ v, 0 ≤ v → rd (w.set (rd_T41 E i).f1.toNat (rd w (rd_T41 E i).f1 - 1)) v = if v = (rd_T41 E i).f1 then rd w (rd_T41 E i).f1 - 1 else rd w v := fun v v0 => rd_set _ _ _ _ b0 (by omega) v0
    obtain ⟨w', l', c', R⟩ := ih (j + 1) (w.set (rd_T41 E i).f1.toNat (rd w (rd_T41 E i).f1 - 1)) (by omega) (by rw [List.length_set]; exact hw) (fun v v0 v1 => by
      rw [rs v v0]; have := hb v v0 v1; split <;> omega)
    refine ⟨w', l', fun v v0 v1 => ?_, fun r H => (R r H).step fun k => ?_⟩
    · rw [c' v v0 v1, rs v v0, hdrop, List.countP_cons]
      unfold toV
      by_cases e : v = (rd_T41 E i).f1
      · rw [if_pos e, if_pos (decide_eq_true e.symm), e]; omega
      · rw [if_neg e, if_neg (by rw [decide_eq_true_eq]; exact fun a => e a.symm)]; omega
    · rw [walk_Order.l3, if_pos hji, if_pos (by omega), if_pos hji, hi, if_pos i0, if_pos i1, if_pos b0, if_pos (by omega), wx, w1 (by omega) (by omega)]
      rfl

theorem order_l0 (n : Int) (E : List S41) (hR : Right n E) (d : Nat) : ∀ (i : Nat) (w : List Int), i + d = E.length → (w.length : Int) = n → (∀ v, 0 ≤ v → v < n → rd w v = (((List.range i).countP fun j : Nat => toV E v (j : Int) : Nat) : Int)) →
    ∃ w', Waits n E (List.replicate n.toNat false) w' ∧ ∀ r, Evl (fun k => if 0 ≤ n then (if n.toNat ≤ 281474976710656 then ((walk_outs.f k n E).bind fun t189 => walk_Order.l1 k [] w' (List.replicate n.toNat false) t189 n 0 n E) else none) else none) r →
      Evl (fun k => walk_Order.l0 k w E (E.length : Int) (i : Int) n E) r := by
  have m1 := hR.m1
  induction d with
  | zero =>
    intro i w hi hw hc
    obtain rfl : i = E.length := by omega
    refine ⟨w, ⟨hw, fun v v0 v1 => ?_⟩, fun r H => H.step fun k => ?_⟩
    · rw [hc v v0 v1]
      unfold cnt
      rw [List.countP_congr (l := List.range E.length) (p := fun j : Nat => toV E v (j : Int)) (q := blk E (List.replicate n.toNat false) v) fun j hj => by
        rw [List.mem_range] at hj
        have re := hR.e (j : Int) (by omega) (by omega)
        have := re.a1
        unfold blk toV
        rw [rdOf_replicate _ _ _ _ re.a0 (by omega)]; simp]
    · rw [walk_Order.l0, if_neg (by omega)]
  | succ d ih =>
    intro i w hi hw hc
    have hii : (i : Int) < (E.length : Int) := by omega
    obtain ⟨a0, a1, b0, b1, -, -, -, -⟩ := hR.e (i : Int) (by omega) hii
    have hcb := hc _ b0 b1
    have hle := List.countP_le_length (p := fun j : Nat => toV E (rd_T41 E (i : Int)).f1 (j : Int)) (l := List.range i)
    rw [List.length_range] at hle
    have wx := w1 (i := rd w (rd_T41 E (i : Int)).f1) (by omega) (by omega)
    have rs : ∀ v, 0 ≤ v → rd (w.set (rd_T41 E (i : Int)).f1.toNat (rd w (rd_T41 E (i : Int)).f1 + 1)) v = if v = (rd_T41 E (i : Int)).f1 then rd w (rd_T41 E (i : Int)).f1 + 1 else rd w v := fun v v0 => rd_set _ _ _ _ b0 (by omega) v0
    obtain ⟨w', W, R⟩ := ih (i + 1) (w.set (rd_T41 E (i : Int)).f1.toNat (rd w (rd_T41 E (i : Int)).f1 + 1)) (by omega) (by rw [List.length_set]; exact hw) (fun v v0 v1 => by
      rw [rs v v0, List.range_succ, List.countP_append, List.countP_singleton]
      unfold toV at hc ⊢
      by_cases e : v = (rd_T41 E (i : Int)).f1
      · rw [if_pos e, if_pos (decide_eq_true e.symm), ← e, hc v v0 v1]; omega
      · rw [if_neg e, if_neg (by rw [decide_eq_true_eq]; exact fun a => e a.symm), hc v v0 v1]; omega)
    refine ⟨w', W, fun r H => (R r H).step fun k => ?_⟩
    rw [walk_Order.l0, if_pos hii, if_pos (by omega), if_pos hii, if_pos b0, if_pos (by omega), wx, w1 (by omega) (by omega)]
    rfl

/-- An order so far, and the nodes in it. -/
structure St (n : Int) (E : List S41) (O : List Int) (B : List Bool) : Prop where
  len : (B.length : Int) = n
  num : (O.length : Int) + undone B = n
  mem : ∀ k, 0 ≤ k → k < (O.length : Int) → 0 ≤ rd O k ∧ rd O k < n ∧ rdOf false B (rd O k) = true
  cov : ∀ v, 0 ≤ v → v < n → rdOf false B v = true → ∃ k, 0 ≤ k ∧ k < (O.length : Int) ∧ rd O k = v
  dis : ∀ j k, 0 ≤ j → j < k → k < (O.length : Int) → rd O j ≠ rd O k
  fwd : ∀ i, 0 ≤ i → i < (E.length : Int) → ∀ k, 0 ≤ k → k < (O.length : Int) → rd O k = (rd_T41 E i).f1 → ∃ j, 0 ≤ j ∧ j < k ∧ rd O j = (rd_T41 E i).f0

/-- A node that may come next. -/
def Ready (E : List S41) (B : List Bool) (v : Int) : Prop := rdOf false B v = false ∧ ∀ i, 0 ≤ i → i < (E.length : Int) → (rd_T41 E i).f1 = v → rdOf false B (rd_T41 E i).f0 = true

theorem St.start (n : Int) (E : List S41) (n0 : 0 ≤ n) : St n E [] (List.replicate n.toNat false) := by
  refine ⟨by rw [List.length_replicate]; omega, ?_, fun k a b => by simp at b; omega, fun v a b h => by rw [rdOf_replicate _ _ _ _ a (by omega)] at h; simp at h, fun j k a b c => by simp at c; omega, fun i a b k c d => by simp at d; omega⟩
  unfold undone
  rw [List.countP_replicate, if_pos (by decide)]; simp; omega
theorem St.push {n : Int} {E : List S41} {O : List Int} {B : List Bool} (S : St n E O B) (hR : Right n E) {v : Int} (v0 : 0 ≤ v) (v1 : v < n) (hv : Ready E B v) : St n E (O ++ [v]) (B.set v.toNat true) := by
  have hl := S.len
  have hO : ((O ++ [v]).length : Int) = O.length + 1 := by simp
  have rk : ∀ k, 0 ≤ k → k < (O.length : Int) → rd (O ++ [v]) k = rd O k := fun k k0 k1 => by rw [rd_append _ _ _ k0, if_pos k1]
  have rl : ∀ k, k = (O.length : Int) → rd (O ++ [v]) k = v := fun k e => by rw [rd_append _ _ _ (by omega), if_neg (by omega), show k - (O.length : Int) = 0 by omega]; rfl
  have rb : ∀ x, 0 ≤ x → rdOf false (B.set v.toNat true) x = if x = v then true else rdOf false B x := fun x x0 => rdOf_set _ _ _ _ _ v0 (by omega) x0
  refine ⟨by rw [List.length_set]; exact hl, ?_, fun k k0 k1 => ?_, fun x x0 x1 hx => ?_, fun j k j0 j1 k1 => ?_, fun i i0 i1 k k0 k1 e => ?_⟩
  · rw [undone_set B v v0 (by omega) hv.1]; have := S.num; omega
  · by_cases e : k < (O.length : Int)
    · obtain ⟨a, b, c⟩ := S.mem k k0 e
      rw [rk k k0 e, rb _ a]
      exact ⟨a, b, by split; rfl; exact c⟩
    · rw [rl k (by omega), rb v v0, if_pos rfl]; exact ⟨v0, v1, rfl⟩
  · rw [rb x x0] at hx
    by_cases e : x = v
    · exact ⟨O.length, by omega, by omega, by rw [rl _ rfl, e]⟩
    · rw [if_neg e] at hx
      obtain ⟨k, k0, k1, ek⟩ := S.cov x x0 x1 hx
      exact ⟨k, k0, by omega, by rw [rk k k0 k1]; exact ek⟩
  · by_cases e : k < (O.length : Int)
    · rw [rk j j0 (by omega), rk k (by omega) e]; exact S.dis j k j0 j1 e
    · rw [rk j j0 (by omega), rl k (by omega)]
      intro q
      have := (S.mem j j0 (by omega)).2.2
      rw [q, hv.1] at this; cases this
  · by_cases h : k < (O.length : Int)
    · rw [rk k k0 h] at e
      obtain ⟨j, j0, j1, ej⟩ := S.fwd i i0 i1 k k0 h e
      exact ⟨j, j0, j1, by rw [rk j j0 (by omega)]; exact ej⟩
    · rw [rl k (by omega)] at e
      have re := hR.e i i0 i1
      obtain ⟨j, j0, j1, ej⟩ := S.cov _ re.a0 re.a1 (hv.2 i i0 i1 e.symm)
      exact ⟨j, j0, by omega, by rw [rk j j0 j1]; exact ej⟩

/-- The program looks for the least node that may come. -/
theorem order_l2 (n : Int) (E : List S41) (hR : Right n E) (O : List Int) (B : List Bool) (S : St n E O B) (w : List Int) (W : Waits n E B w) (o : List (List Int)) (ho : (o.length : Int) = n)
    (hout : ∀ v : Int, 0 ≤ v → v < n → rd_L2 o v = outL E E.length v) (x : Int) (d : Nat) : ∀ v : Int, 0 ≤ v → v + d = n → (∀ u, 0 ≤ u → u < v → ¬ Ready E B u) →
    (∃ u, 0 ≤ u ∧ u < n ∧ Ready E B u ∧ (∀ y, 0 ≤ y → y < u → ¬ Ready E B y) ∧ ∃ w', Waits n E (B.set u.toNat true) w' ∧ ∀ r, Evl (fun k => walk_Order.l1 k (O ++ [u]) w' (B.set u.toNat true) o n (wrap64 (x + 1)) n E) r → Evl (fun k => walk_Order.l2 k O w B o n x n v n E) r) ∨
    ((∀ u, 0 ≤ u → u < n → ¬ Ready E B u) ∧ ∀ r, Evl (fun k => (walk_round.f k n E B).bind fun t192 => some (([] : List Int), t192, (71 : Int))) r → Evl (fun k => walk_Order.l2 k O w B o n x n v n E) r) := by
  have n1 := hR.n1
  have m1 := hR.m1
  have hB := S.len
  have hw := W.1
  have hnum := S.num
  have hun := undone_nonneg B
  induction d with
  | zero =>
    intro v v0 hv hno
    refine Or.inr ⟨fun u a b => hno u a (by omega), fun r H => H.step fun k => ?_⟩
    rw [walk_Order.l2, if_neg (by omega)]
  | succ d ih =>
    intro v v0 hv hno
    have wv := w1 (i := v) (by omega) (by omega)
    have skip : ¬ Ready E B v → (∀ r, Evl (fun k => walk_Order.l2 k O w B o n x n (v + 1) n E) r → Evl (fun k => walk_Order.l2 k O w B o n x n v n E) r) →
        (∃ u, 0 ≤ u ∧ u < n ∧ Ready E B u ∧ (∀ y, 0 ≤ y → y < u → ¬ Ready E B y) ∧ ∃ w', Waits n E (B.set u.toNat true) w' ∧ ∀ r, Evl (fun k => walk_Order.l1 k (O ++ [u]) w' (B.set u.toNat true) o n (wrap64 (x + 1)) n E) r → Evl (fun k => walk_Order.l2 k O w B o n x n v n E) r) ∨
        ((∀ u, 0 ≤ u → u < n → ¬ Ready E B u) ∧ ∀ r, Evl (fun k => (walk_round.f k n E B).bind fun t192 => some (([] : List Int), t192, (71 : Int))) r → Evl (fun k => walk_Order.l2 k O w B o n x n v n E) r) := by
      intro hn hstep
      rcases ih (v + 1) (by omega) (by omega) (fun u a b => by
        by_cases e : u = v
        · rw [e]; exact hn
        · exact hno u a (by omega)) with ⟨u, u0, u1, hu, hl, w', W', R⟩ | ⟨hall, R⟩
      · exact Or.inl ⟨u, u0, u1, hu, hl, w', W', fun r H => hstep r (R r H)⟩
      · exact Or.inr ⟨hall, fun r H => hstep r (R r H)⟩
    by_cases hd : rdOf false B v = true
    · refine skip (fun h => by rw [h.1] at hd; cases hd) fun r H => ?_
      refine (H.step (g := fun k => walk_Order.j3 k O w B o v n x n v false n E) fun k => ?_).step fun k => ?_
      · rw [walk_Order.j3, if_neg (by simp), wv]
      · rw [walk_Order.l2, if_pos (by omega), if_pos v0, if_pos (by omega), if_pos hd]
    · have hdf : rdOf false B v = false := by simpa using hd
      have wc := W.2 v v0 (by omega)
      by_cases hz : rd w v = 0
      · have hr : Ready E B v := ⟨hdf, (cnt_zero E B v).mp (by rw [← wc]; exact hz)⟩
        obtain ⟨w', l', c', R⟩ := order_l3 n E hR (O ++ [v]) (B.set v.toNat true) o x v (outL E E.length v).length 0 w (by omega) hw (fun y y0 y1 => by
          rw [W.2 y y0 y1]; have := cnt_nonneg E B y; have := cnt_le E B y; omega)
        refine Or.inl ⟨v, v0, by omega, hr, hno, w', ⟨l', fun y y0 y1 => ?_⟩, fun r H => ?_⟩
        · rw [c' y y0 y1, W.2 y y0 y1, cnt_set n E hR B hB v y v0 (by omega) hdf, List.drop_zero]
        · refine ((R r H).step (g := fun k => walk_Order.j3 k O w B o v n x n v true n E) fun k => ?_).step fun k => ?_
          · rw [walk_Order.j3, if_pos rfl, if_pos v0, if_pos (by omega), if_pos (by omega), if_pos (by omega), hout v v0 (by omega)]
            rfl
          · rw [walk_Order.l2, if_pos (by omega), if_pos v0, if_pos (by omega), if_neg hd, if_pos (by omega), hz]
            rfl
      · refine skip (fun h => hz (by rw [wc]; exact (cnt_zero E B v).mpr h.2)) fun r H => ?_
        refine (H.step (g := fun k => walk_Order.j3 k O w B o v n x n v false n E) fun k => ?_).step fun k => ?_
        · rw [walk_Order.j3, if_neg (by simp), wv]
        · have : (rd w v == 0) = false := by simpa using hz
          rw [walk_Order.l2, if_pos (by omega), if_pos v0, if_pos (by omega), if_neg hd, if_pos (by omega), this]

/-- Both go on alike. -/
theorem order_main (n : Int) (E : List S41) (hR : Right n E) (o : List (List Int)) (ho : (o.length : Int) = n) (hout : ∀ v : Int, 0 ≤ v → v < n → rd_L2 o v = outL E E.length v) (d : Nat) :
    ∀ (O : List Int) (B : List Bool) (w : List Int), (O.length : Int) + d = n → St n E O B → Waits n E B w →
    (∃ O' B', Evl (fun k => walk_Order.l1 k O w B o n (O.length : Int) n E) (O', [], 0) ∧ St n E O' B' ∧ (O'.length : Int) = n) ∨
    (∃ C, Evl (fun k => walk_Order.l1 k O w B o n (O.length : Int) n E) ([], C, 71) ∧ IsCircle n E C) := by
  have n1 := hR.n1
  induction d with
  | zero =>
    intro O B w hd S W
    exact Or.inl ⟨O, B, Evl.here fun k => by rw [walk_Order.l1, if_neg (by omega)], S, by omega⟩
  | succ d ih =>
    intro O B w hd S W
    have hB := S.len
    have wn := wm (i := n) (by omega) (by omega)
    rcases order_l2 n E hR O B S w W o ho hout (O.length : Int) n.toNat 0 (Int.le_refl 0) (by omega) (fun u a b => by omega) with ⟨u, u0, u1, hu, hno, w', W', R⟩ | ⟨hall, R⟩
    · have hO : ((O ++ [u]).length : Int) = O.length + 1 := by simp
      rw [w1 (by omega) (by omega), ← hO] at R
      rcases ih (O ++ [u]) (B.set u.toNat true) w' (by omega) (S.push hR u0 u1 hu) W' with ⟨O', B', H1, S', e⟩ | ⟨C, H1, c⟩
      · refine Or.inl ⟨O', B', (R _ H1).step fun k => by rw [walk_Order.l1, if_pos (by omega)], S', e⟩
      · refine Or.inr ⟨C, (R _ H1).step fun k => by rw [walk_Order.l1, if_pos (by omega)], c⟩
    · have hnum := S.num
      have stuck : Stuck n E B := by
        refine ⟨hB, ?_, fun v v0 v1 hv => ?_⟩
        · refine Classical.byContradiction fun h => ?_
          have all : B.countP (fun b => !b) = 0 := List.countP_eq_zero.mpr fun b hb => by
            obtain ⟨j, hj, e⟩ := List.mem_iff_getElem.mp hb
            by_cases q : rdOf false B (j : Int) = false
            · exact absurd ⟨(j : Int), by omega, by omega, q⟩ h
            · unfold rdOf at q
              rw [Int.toNat_natCast, List.getD_eq_getElem?_getD, List.getElem?_eq_getElem hj] at q
              rw [← e]; simpa using q
          have : undone B = 0 := by unfold undone; omega
          omega
        · refine Classical.byContradiction fun h => hall v v0 v1 ⟨hv, fun i i0 i1 e => ?_⟩
          by_cases q : rdOf false B (rd_T41 E i).f0 = true
          · exact q
          · exact absurd ⟨i, i0, i1, e, by simpa using q⟩ h
      obtain ⟨C, H, c⟩ := round_f n E hR B stuck
      refine Or.inr ⟨C, (R _ (Evl.bind H (h := fun k t => some (([] : List Int), t, (71 : Int))) Evl.pure)).step fun k => by rw [walk_Order.l1, if_pos (by omega)], c⟩

/-- Order: the program's and the document's answer. -/
theorem order_f (n : Int) (E : List S41) : ∃ O C c, Evl (fun k => walk_Order.f k n E) (O, C, c) ∧ (O.length : Int) ≤ 5000 ∧
    ((c = 71 ∧ O = [] ∧ Right n E ∧ IsCircle n E C) ∨ (c = 0 ∧ C = [] ∧ Right n E ∧ (O.length : Int) = n ∧ ∃ B, St n E O B) ∨ (c ≠ 0 ∧ c ≠ 71 ∧ O = [] ∧ C = [])) := by
  obtain ⟨c, a, C1, C2, hz, ho, -⟩ := check_f n E
  by_cases hc : c = 0
  · obtain ⟨-, hR⟩ := hz hc
    subst hc
    have n0 := hR.n0
    have n1 := hR.n1
    obtain ⟨o, Ho, lo, hout⟩ := outs_f n E hR
    obtain ⟨w, W, R⟩ := order_l0 n E hR E.length 0 (List.replicate n.toNat 0) (by omega) (by rw [List.length_replicate]; omega) (fun v v0 v1 => by rw [rd_replicate _ _ _ v0 (by omega)]; rfl)
    have key : ∀ r, Evl (fun k => walk_Order.l1 k [] w (List.replicate n.toNat false) o n 0 n E) r → Evl (fun k => walk_Order.f k n E) r := fun r H => by
      refine (Evl.bind C1 (h := fun k bt => if bt.1 = 0 then (if 0 ≤ n then (if n.toNat ≤ 35184372088832 then walk_Order.l0 k (List.replicate n.toNat 0) E (E.length : Int) 0 n E else none) else none) else some (([] : List Int), ([] : List Int), bt.1)) ?_).congr fun k => rfl
      refine Evl.congr (R r ?_) (fun k => by rw [if_pos rfl, if_pos n0, if_pos (by omega)]; rfl)
      exact (Evl.bind Ho (h := fun k t => walk_Order.l1 k [] w (List.replicate n.toNat false) t n 0 n E) H).congr fun k => by rw [if_pos n0, if_pos (by omega)]
    rcases order_main n E hR o lo hout n.toNat [] (List.replicate n.toNat false) w (by simp; omega) (St.start n E n0) W with ⟨O, B, H1, S, e⟩ | ⟨C, H1, cc⟩
    · exact ⟨O, [], 0, key _ H1, by omega, Or.inr (Or.inl ⟨rfl, rfl, hR, e, B, S⟩)⟩
    · exact ⟨[], C, 71, key _ H1, by simp, Or.inl ⟨rfl, rfl, hR, cc⟩⟩
  · refine ⟨[], [], c, ?_, by simp, Or.inr (Or.inr ⟨hc, by omega, rfl, rfl⟩)⟩
    · refine (Evl.bind C1 (h := fun k bt => if bt.1 = 0 then (if 0 ≤ n then (if n.toNat ≤ 35184372088832 then walk_Order.l0 k (List.replicate n.toNat 0) E (E.length : Int) 0 n E else none) else none) else some (([] : List Int), ([] : List Int), bt.1)) ?_).congr fun k => rfl
      exact Evl.pure.congr fun k => by rw [if_neg hc]
end Go.Proofs.Ytacklfnnpiobgaa.GC
namespace Go.Proofs.Ytacklfnnpiobgaa.G
open Go.RowKit Go.Proofs.Ytacklfnnpiobgaa.Q Go.Proofs.YtacklfnnpiobgaaW.PrintWords Go.Proofs.YtacklfnnpiobgaaW.PrintLast
set_option linter.unusedVariables false

structure Grow (n : Int) (E : List S41) (s : Int) (L : List Int) : Prop where
  len : (L.length : Int) = n
  src : rd L s = 0
  low : ∀ v, 0 ≤ v → v < n → -1 ≤ rd L v
  cap : ∀ v, 0 ≤ v → v < n → rd L v + negs L ≤ n - 1
  back : ∀ v, 0 ≤ v → v < n → 0 < rd L v → ∃ i, 0 ≤ i ∧ i < (E.length : Int) ∧ (rd_T41 E i).f1 = v ∧ 0 ≤ rd L (rd_T41 E i).f0 ∧ rd L (rd_T41 E i).f0 + 1 = rd L v
  zero : ∀ v, 0 ≤ v → v < n → rd L v = 0 → v = s

theorem Grow.start {n : Int} {E : List S41} {s : Int} (h0 : 0 ≤ s) (h1 : s < n) : Grow n E s ((List.replicate n.toNat (-1)).set s.toNat 0) := by
  have len : ((List.replicate n.toNat (-1 : Int)).length : Int) = n := by rw [List.length_replicate]; omega
  have rdr : ∀ v, 0 ≤ v → v < n → rd ((List.replicate n.toNat (-1)).set s.toNat 0) v = if v = s then 0 else -1 := fun v a b => by
    rw [rd_set _ _ _ _ h0 (by omega) a, rd_replicate _ _ _ a (by omega)]
  have ng : negs ((List.replicate n.toNat (-1)).set s.toNat 0) = n - 1 := by
    rw [negs_set _ _ _ h0 (by omega) (by rw [rd_replicate _ _ _ h0 (by omega)]; decide) (Int.le_refl 0)]
    have : negs (List.replicate n.toNat (-1)) = n := by
      unfold negs
      rw [List.countP_replicate, if_pos (by decide)]; omega
    omega
  refine ⟨by rw [List.length_set]; exact len, by rw [rdr s h0 h1, if_pos rfl], fun v a b => ?_, fun v a b => ?_, fun v a b h => ?_, fun v a b h => ?_⟩
  · rw [rdr v a b]; split <;> omega
  · rw [rdr v a b, ng]; split <;> omega
  · rw [rdr v a b] at h; split at h <;> omega
  · rw [rdr v a b] at h
    by_cases e : v = s
    · exact e
    · rw [if_neg e] at h; omega

theorem Grow.push {n : Int} {E : List S41} {s : Int} {L : List Int} (G : Grow n E s L) (hR : Right n E) (hs0 : 0 ≤ s) {i : Int} (i0 : 0 ≤ i) (i1 : i < (E.length : Int))
    (ha : 0 ≤ rd L (rd_T41 E i).f0) (hb : rd L (rd_T41 E i).f1 < 0) : Grow n E s (L.set (rd_T41 E i).f1.toNat (rd L (rd_T41 E i).f0 + 1)) ∧
    (∀ v, 0 ≤ v → rd (L.set (rd_T41 E i).f1.toNat (rd L (rd_T41 E i).f0 + 1)) v = if v = (rd_T41 E i).f1 then rd L (rd_T41 E i).f0 + 1 else rd L v) ∧
    negs (L.set (rd_T41 E i).f1.toNat (rd L (rd_T41 E i).f0 + 1)) = negs L - 1 := by
  obtain ⟨a0, a1, b0, b1, -, -, -, -⟩ := hR.e i i0 i1
  have hl := G.len
  have rdr : ∀ v, 0 ≤ v → rd (L.set (rd_T41 E i).f1.toNat (rd L (rd_T41 E i).f0 + 1)) v = if v = (rd_T41 E i).f1 then rd L (rd_T41 E i).f0 + 1 else rd L v := fun v a => rd_set _ _ _ _ b0 (by omega) a
  have ng := negs_set L (rd_T41 E i).f1 (rd L (rd_T41 E i).f0 + 1) b0 (by omega) hb (by omega)
  have nab : (rd_T41 E i).f0 ≠ (rd_T41 E i).f1 := fun e => by rw [e] at ha; omega
  refine ⟨⟨by rw [List.length_set]; exact hl, ?_, fun v a b => ?_, fun v a b => ?_, fun v a b h => ?_, fun v a b h => ?_⟩, rdr, ng⟩
  · rw [rdr s hs0, if_neg (fun e => by have := G.src; rw [e] at this; omega)]; exact G.src
  · rw [rdr v a]
    have := G.low v a b
    split <;> omega
  · rw [rdr v a, ng]
    have h1 := G.cap v a b
    have h2 := G.cap _ a0 a1
    split <;> omega
  · rw [rdr v a] at h
    by_cases e : v = (rd_T41 E i).f1
    · refine ⟨i, i0, i1, e.symm, ?_, ?_⟩
      · rw [rdr _ a0, if_neg nab]; exact ha
      · rw [rdr _ a0, if_neg nab, rdr v a, if_pos e]
    · rw [if_neg e] at h
      obtain ⟨j, j0, j1, ej, g0, g1⟩ := G.back v a b h
      have u0 := (hR.e j j0 j1).a0
      refine ⟨j, j0, j1, ej, ?_, ?_⟩
      · rw [rdr _ u0, if_neg (fun e => by rw [e] at g0; omega)]; exact g0
      · rw [rdr _ u0, if_neg (fun e => by rw [e] at g0; omega), rdr v a, if_neg e]; exact g1
  · rw [rdr v a] at h
    by_cases e : v = (rd_T41 E i).f1
    · rw [if_pos e] at h; omega
    · rw [if_neg e] at h; exact G.zero v a b h

/-- The distances from s. -/
structure Dist (n : Int) (E : List S41) (s : Int) (L : List Int) : Prop where
  g : Grow n E s L
  fwd : ∀ i, 0 ≤ i → i < (E.length : Int) → 0 ≤ rd L (rd_T41 E i).f0 → 0 ≤ rd L (rd_T41 E i).f1 ∧ rd L (rd_T41 E i).f1 ≤ rd L (rd_T41 E i).f0 + 1

theorem Dist.le {n : Int} {E : List S41} {s : Int} {L M : List Int} (hR : Right n E) (D : Dist n E s L) (F : Dist n E s M) : ∀ (d : Nat) (v : Int), 0 ≤ v → v < n → rd L v = (d : Int) → 0 ≤ rd M v ∧ rd M v ≤ (d : Int) := by
  intro d
  induction d with
  | zero =>
    intro v a b h
    have := D.g.zero v a b (by simpa using h)
    have := F.g.src
    subst v; omega
  | succ d ih =>
    intro v a b h
    obtain ⟨i, i0, i1, e, g0, g1⟩ := D.g.back v a b (by omega)
    have r := hR.e i i0 i1
    obtain ⟨h0, h1⟩ := ih (rd_T41 E i).f0 r.a0 r.a1 (by omega)
    have := F.fwd i i0 i1 h0
    rw [e] at this; omega
theorem Dist.eq {n : Int} {E : List S41} {s : Int} {L M : List Int} (hR : Right n E) (D : Dist n E s L) (F : Dist n E s M) : L = M := by
  have l1 := D.g.len
  have l2 := F.g.len
  refine ext_rd L M (by omega) fun v a b => ?_
  have lo1 := D.g.low v a (by omega)
  have lo2 := F.g.low v a (by omega)
  by_cases h : 0 ≤ rd L v
  · have h1 := D.le hR F (rd L v).toNat v a (by omega) (by omega)
    have h2 := F.le hR D (rd M v).toNat v a (by omega) (by omega)
    omega
  · by_cases h' : 0 ≤ rd M v
    · have h2 := F.le hR D (rd M v).toNat v a (by omega) (by omega)
      omega
    · omega

/-- While node v is looked at. -/
structure Inn (n : Int) (E : List S41) (s v : Int) (L q : List Int) : Prop where
  g : Grow n E s L
  v0 : 0 ≤ v
  v1 : v < n
  vl : 0 ≤ rd L v
  qin : ∀ x ∈ q, 0 ≤ x ∧ x < n ∧ rd L v ≤ rd L x
  srt : q.Pairwise fun x y => rd L x ≤ rd L y
  top : ∀ x, 0 ≤ x → x < n → rd L x ≤ rd L v + 1
  old : ∀ i, 0 ≤ i → i < (E.length : Int) → 0 ≤ rd L (rd_T41 E i).f0 → (rd_T41 E i).f0 ∉ q → (rd_T41 E i).f0 ≠ v → 0 ≤ rd L (rd_T41 E i).f1 ∧ rd L (rd_T41 E i).f1 ≤ rd L (rd_T41 E i).f0 + 1
  bnd : (q.length : Int) + negs L ≤ n

theorem Inn.push {n : Int} {E : List S41} {s v : Int} {L q : List Int} (I : Inn n E s v L q) (hR : Right n E) (hs0 : 0 ≤ s) {i : Int} (i0 : 0 ≤ i) (i1 : i < (E.length : Int))
    (ev : (rd_T41 E i).f0 = v) (hb : rd L (rd_T41 E i).f1 < 0) : Inn n E s v (L.set (rd_T41 E i).f1.toNat (rd L v + 1)) (q ++ [(rd_T41 E i).f1]) ∧
    (∀ x, 0 ≤ x → rd (L.set (rd_T41 E i).f1.toNat (rd L v + 1)) x = if x = (rd_T41 E i).f1 then rd L v + 1 else rd L x) ∧
    negs (L.set (rd_T41 E i).f1.toNat (rd L v + 1)) = negs L - 1 := by
  obtain ⟨G, rdr, ng⟩ := I.g.push hR hs0 i0 i1 (by rw [ev]; exact I.vl) hb
  rw [ev] at G rdr ng
  obtain ⟨a0, a1, b0, b1, -, -, -, -⟩ := hR.e i i0 i1
  have hvw : v ≠ (rd_T41 E i).f1 := fun e => by have := I.vl; rw [e] at this; omega
  have hv : rd (L.set (rd_T41 E i).f1.toNat (rd L v + 1)) v = rd L v := by rw [rdr v I.v0, if_neg hvw]
  have keep : ∀ x, 0 ≤ x → 0 ≤ rd L x → rd (L.set (rd_T41 E i).f1.toNat (rd L v + 1)) x = rd L x := fun x a h => by rw [rdr x a, if_neg (fun e => by rw [e] at h; omega)]
  have hvl := I.vl
  refine ⟨⟨G, I.v0, I.v1, by rw [hv]; exact I.vl, fun x hx => ?_, ?_, fun x a b => ?_, fun j j0 j1 h hq hne => ?_, ?_⟩, rdr, ng⟩
  · rcases List.mem_append.mp hx with hx | hx
    · obtain ⟨x0, x1, x2⟩ := I.qin x hx
      exact ⟨x0, x1, by rw [hv, keep x x0 (by omega)]; exact x2⟩
    · rw [List.mem_singleton] at hx
      subst hx
      exact ⟨b0, b1, by rw [hv, rdr _ b0, if_pos rfl]; omega⟩
  · rw [List.pairwise_append]
    refine ⟨?_, List.pairwise_singleton _ _, fun x hx y hy => ?_⟩
    · refine List.Pairwise.imp_of_mem (fun {x y} hx hy h => ?_) I.srt
      obtain ⟨x0, x1, x2⟩ := I.qin x hx
      obtain ⟨y0, y1, y2⟩ := I.qin y hy
      rw [keep x x0 (by omega), keep y y0 (by omega)]; exact h
    · rw [List.mem_singleton] at hy
      obtain ⟨x0, x1, x2⟩ := I.qin x hx
      rw [hy, rdr _ b0, if_pos rfl, keep x x0 (by omega)]
      exact I.top x x0 x1
  · rw [hv, rdr x a]
    have := I.top x a b
    split <;> omega
  · have hj := hR.e j j0 j1
    rw [List.mem_append, not_or, List.mem_singleton] at hq
    rw [rdr _ hj.a0, if_neg hq.2] at h ⊢
    obtain ⟨c0, c1⟩ := I.old j j0 j1 h hq.1 hne
    rw [keep _ hj.b0 c0]; exact ⟨c0, c1⟩
  · rw [List.length_append, List.length_singleton, ng]
    have := I.bnd; omega

theorem inner (n : Int) (E : List S41) (hR : Right n E) (s : Int) (hs0 : 0 ≤ s) (o : List (List Int)) (v : Int) (d : Nat) : ∀ (j : Int) (L q : List Int), 0 ≤ j → j + d = ((outL E E.length v).length : Int) → Inn n E s v L q →
    (∀ k, 0 ≤ k → k < j → 0 ≤ rd L (rd_T41 E (rd (outL E E.length v) k)).f1) →
    ∃ L' q', Inn n E s v L' q' ∧ (∀ k, 0 ≤ k → k < ((outL E E.length v).length : Int) → 0 ≤ rd L' (rd_T41 E (rd (outL E E.length v) k)).f1) ∧ (q'.length : Int) + negs L' = q.length + negs L ∧
      ∀ r, Evl (fun k => walk_Levels.l0 k o L' q' n E) r → Evl (fun k => walk_Levels.l1 k o L q v (outL E E.length v) ((outL E E.length v).length : Int) j n E) r := by
  induction d with
  | zero =>
    intro j L q j0 jd I done
    refine ⟨L, q, I, fun k a b => done k a (by omega), rfl, fun r H => H.step fun k => ?_⟩
    rw [walk_Levels.l1, if_neg (by omega)]
  | succ d ih =>
    intro j L q j0 jd I done
    have jlt : j < ((outL E E.length v).length : Int) := by omega
    have hlen := outL_len E E.length v
    have m1 := hR.m1
    have n1 := hR.n1
    obtain ⟨i0, i1, ev⟩ := (mem_outL E E.length v _).mp (rd_mem _ j j0 jlt)
    generalize hi : rd (outL E E.length v) j = i at i0 i1 ev
    have re := hR.e i i0 i1
    have hl := I.g.len
    have w := w1 (i := j) (by omega) (by omega)
    have hv1 := I.v1
    have hvl := I.vl
    have hcap := I.g.cap v I.v0 I.v1
    have hng := negs_nonneg L
    have hb := I.bnd
    by_cases hneg : rd L (rd_T41 E i).f1 < 0
    · obtain ⟨I', rdr, ng⟩ := I.push hR hs0 i0 i1 ev hneg
      obtain ⟨L', q', I2, dn, ms, R⟩ := ih (j + 1) _ _ (by omega) (by omega) I' (fun k a b => by
        have b0 : ∀ k, 0 ≤ k → k < ((outL E E.length v).length : Int) → 0 ≤ (rd_T41 E (rd (outL E E.length v) k)).f1 := fun k a b => by
          obtain ⟨x0, x1, -⟩ := (mem_outL E E.length v _).mp (rd_mem _ k a b)
          exact (hR.e _ x0 x1).b0
        rw [rdr _ (b0 k a (by omega))]
        by_cases e : (rd_T41 E (rd (outL E E.length v) k)).f1 = (rd_T41 E i).f1
        · rw [if_pos e]; omega
        · rw [if_neg e]
          refine done k a ?_
          by_cases e2 : k = j
          · rw [e2, hi] at e; exact absurd rfl e
          · omega)
      refine ⟨L', q', I2, dn, by rw [ms, ng, List.length_append, List.length_singleton]; omega, fun r H => (R r H).step fun k => ?_⟩
      rw [walk_Levels.l1, if_pos jlt, if_pos j0, if_pos jlt, hi, if_pos i0, if_pos i1, if_pos re.b0, if_pos (by have := re.b1; omega), if_pos hneg, if_pos I.v0, if_pos (by omega), if_pos (by omega), w,
        w1 (by omega) (by omega)]
    · obtain ⟨L', q', I2, dn, ms, R⟩ := ih (j + 1) L q (by omega) (by omega) I (fun k a b => by
        by_cases e2 : k = j
        · rw [e2, hi]; omega
        · exact done k a (by omega))
      refine ⟨L', q', I2, dn, ms, fun r H => (R r H).step fun k => ?_⟩
      rw [walk_Levels.l1, if_pos jlt, if_pos j0, if_pos jlt, hi, if_pos i0, if_pos i1, if_pos re.b0, if_pos (by have := re.b1; omega), if_neg hneg, w]

/-- Between two nodes that are looked at. -/
structure Out (n : Int) (E : List S41) (s : Int) (L q : List Int) : Prop where
  g : Grow n E s L
  qin : ∀ x ∈ q, 0 ≤ x ∧ x < n ∧ 0 ≤ rd L x
  srt : q.Pairwise fun x y => rd L x ≤ rd L y
  top : ∀ h t, q = h :: t → ∀ x, 0 ≤ x → x < n → rd L x ≤ rd L h + 1
  old : ∀ i, 0 ≤ i → i < (E.length : Int) → 0 ≤ rd L (rd_T41 E i).f0 → (rd_T41 E i).f0 ∉ q → 0 ≤ rd L (rd_T41 E i).f1 ∧ rd L (rd_T41 E i).f1 ≤ rd L (rd_T41 E i).f0 + 1
  bnd : (q.length : Int) + negs L ≤ n

theorem outer (n : Int) (E : List S41) (hR : Right n E) (s : Int) (hs0 : 0 ≤ s) (o : List (List Int)) (ho : (o.length : Int) = n) (hout : ∀ v : Int, 0 ≤ v → v < n → rd_L2 o v = outL E E.length v) (m : Nat) :
    ∀ (L q : List Int), (q.length : Int) + negs L = m → Out n E s L q → ∃ L', Evl (fun k => walk_Levels.l0 k o L q n E) (L', 0) ∧ Dist n E s L' := by
  induction m with
  | zero =>
    intro L q hm O
    have hng := negs_nonneg L
    cases q with
    | nil => exact ⟨L, Evl.here fun k => by rw [walk_Levels.l0, if_neg (by simp)], ⟨O.g, fun i a b h => O.old i a b h (by simp)⟩⟩
    | cons v t => simp only [List.length_cons] at hm; omega
  | succ m ih =>
    intro L q hm O
    have hng := negs_nonneg L
    cases q with
    | nil => exact ⟨L, Evl.here fun k => by rw [walk_Levels.l0, if_neg (by simp)], ⟨O.g, fun i a b h => O.old i a b h (by simp)⟩⟩
    | cons v t =>
      obtain ⟨v0, v1, vl⟩ := O.qin v (by simp)
      have srt := List.pairwise_cons.mp O.srt
      have hbnd := O.bnd
      simp only [List.length_cons] at hbnd hm
      have I : Inn n E s v L t := ⟨O.g, v0, v1, vl, fun x hx => by obtain ⟨a, b, c⟩ := O.qin x (by simp [hx]); exact ⟨a, b, srt.1 x hx⟩, srt.2, O.top v t rfl,
        fun i a b h hq hne => O.old i a b h (by simp [hq, hne]), by omega⟩
      obtain ⟨L', q', I', dn, ms, R⟩ := inner n E hR s hs0 o v (outL E E.length v).length 0 L t (Int.le_refl 0) (by omega) I (fun k a b => by omega)
      have O' : Out n E s L' q' := ⟨I'.g, fun x hx => by obtain ⟨a, b, c⟩ := I'.qin x hx; have := I'.vl; exact ⟨a, b, by omega⟩, I'.srt,
        fun h t' e x a b => by have := I'.top x a b; have := (I'.qin h (by simp [e])).2.2; omega,
        fun i a b h hq => by
          by_cases e : (rd_T41 E i).f0 = v
          · obtain ⟨k, k0, k1, ek⟩ := mem_rd ((mem_outL E E.length v i).mpr ⟨a, b, e⟩)
            have := dn k k0 k1
            rw [ek] at this
            exact ⟨this, by rw [e]; exact I'.top _ (hR.e i a b).b0 (hR.e i a b).b1⟩
          · exact I'.old i a b h hq e, I'.bnd⟩
      obtain ⟨L2, H, D⟩ := ih L' q' (by omega) O'
      refine ⟨L2, (R _ H).step fun k => ?_, D⟩
      rw [walk_Levels.l0, if_pos (by simp), if_pos (by simp), if_pos (by simp only [List.length_cons]; omega)]
      rw [show rd (v :: t) 0 = v from rfl, if_pos v0, if_pos (by omega), hout v v0 v1]
      rfl

/-- The document's rounds: before edge i in round d. -/
structure RI (n : Int) (E : List S41) (s d i : Int) (L : List Int) : Prop where
  g : Grow n E s L
  lv : ∀ v, 0 ≤ v → v < n → rd L v ≤ d + 1
  dn : ∀ k, 0 ≤ k → k < (E.length : Int) → 0 ≤ rd L (rd_T41 E k).f0 → (rd L (rd_T41 E k).f0 < d ∨ (rd L (rd_T41 E k).f0 = d ∧ k < i)) → 0 ≤ rd L (rd_T41 E k).f1 ∧ rd L (rd_T41 E k).f1 ≤ rd L (rd_T41 E k).f0 + 1

theorem ref_l2 (n : Int) (E : List S41) (hR : Right n E) (s : Int) (hs0 : 0 ≤ s) (d : Int) (d0 : 0 ≤ d) (d1 : d ≤ 2000) (m : Nat) : ∀ (i : Int) (L : List Int), 0 ≤ i → i + m = (E.length : Int) → RI n E s d i L →
    ∃ L', RI n E s d (E.length : Int) L' ∧ ∀ r, Evl (fun k => compassref04_Levels.l1 k L' (wrap64 (d + 1)) n E) r → Evl (fun k => compassref04_Levels.l2 k L d i n E) r := by
  have m1 := hR.m1
  induction m with
  | zero =>
    intro i L i0 hi I
    obtain rfl : i = (E.length : Int) := by omega
    exact ⟨L, I, fun r H => H.step fun k => by rw [compassref04_Levels.l2, if_neg (by omega)]⟩
  | succ m ih =>
    intro i L i0 hi I
    have i1 : i < (E.length : Int) := by omega
    obtain ⟨a0, a1, b0, b1, -, -, -, -⟩ := hR.e i i0 i1
    have hl := I.g.len
    have w := w1 (i := i) (by omega) (by omega)
    by_cases c1 : rd L (rd_T41 E i).f0 = d
    · by_cases c2 : rd L (rd_T41 E i).f1 < 0
      · obtain ⟨G, rdr, ng⟩ := I.g.push hR hs0 i0 i1 (by omega) c2
        rw [c1] at G rdr ng
        have I' : RI n E s d (i + 1) (L.set (rd_T41 E i).f1.toNat (d + 1)) := by
          refine ⟨G, fun v a b => ?_, fun k k0 k1 h hc => ?_⟩
          · rw [rdr v a]; have := I.lv v a b; split <;> omega
          · have hk := hR.e k k0 k1
            rw [rdr _ hk.a0] at h hc ⊢
            by_cases e : (rd_T41 E k).f0 = (rd_T41 E i).f1
            · rw [if_pos e] at hc; omega
            · rw [if_neg e] at h hc ⊢
              rw [rdr _ hk.b0]
              by_cases e2 : (rd_T41 E k).f1 = (rd_T41 E i).f1
              · rw [if_pos e2]
                by_cases e3 : k = i
                · subst e3; omega
                · have := I.dn k k0 k1 h (by omega)
                  rw [e2] at this; omega
              · rw [if_neg e2]
                refine I.dn k k0 k1 h ?_
                by_cases e3 : k = i
                · rw [e3] at e2; exact absurd rfl e2
                · omega
        obtain ⟨L', I2, R⟩ := ih (i + 1) _ (by omega) (by omega) I'
        refine ⟨L', I2, fun r H => (R r H).step fun k => ?_⟩
        rw [compassref04_Levels.l2, if_pos i1, if_pos i0, if_pos a0, if_pos (by omega), if_pos c1, if_pos b0, if_pos (by omega), if_pos c2, w, w1 (by omega) (by omega)]
      · have I' : RI n E s d (i + 1) L := ⟨I.g, I.lv, fun k k0 k1 h hc => by
          by_cases e3 : k = i
          · subst e3; have := I.lv _ b0 b1; omega
          · exact I.dn k k0 k1 h (by omega)⟩
        obtain ⟨L', I2, R⟩ := ih (i + 1) _ (by omega) (by omega) I'
        refine ⟨L', I2, fun r H => (R r H).step fun k => ?_⟩
        rw [compassref04_Levels.l2, if_pos i1, if_pos i0, if_pos a0, if_pos (by omega), if_pos c1, if_pos b0, if_pos (by omega), if_neg c2, w]
    · have I' : RI n E s d (i + 1) L := ⟨I.g, I.lv, fun k k0 k1 h hc => by
        by_cases e3 : k = i
        · subst e3; exact I.dn k k0 k1 h (by omega)
        · exact I.dn k k0 k1 h (by omega)⟩
      obtain ⟨L', I2, R⟩ := ih (i + 1) _ (by omega) (by omega) I'
      refine ⟨L', I2, fun r H => (R r H).step fun k => ?_⟩
      rw [compassref04_Levels.l2, if_pos i1, if_pos i0, if_pos a0, if_pos (by omega), if_neg c1, w]

theorem ref_l1 (n : Int) (E : List S41) (hR : Right n E) (s : Int) (hs0 : 0 ≤ s) (m : Nat) : ∀ (d : Int) (L : List Int), 0 ≤ d → d + m = n → RI n E s d 0 L →
    ∃ L', Evl (fun k => compassref04_Levels.l1 k L d n E) (L', 0) ∧ Dist n E s L' := by
  have n1 := hR.n1
  induction m with
  | zero =>
    intro d L d0 hd I
    refine ⟨L, Evl.here fun k => by rw [compassref04_Levels.l1, if_neg (by omega)], I.g, fun i a b h => I.dn i a b h (Or.inl ?_)⟩
    have := I.g.cap _ (hR.e i a b).a0 (hR.e i a b).a1
    have := negs_nonneg L
    omega
  | succ m ih =>
    intro d L d0 hd I
    obtain ⟨L1, I1, R⟩ := ref_l2 n E hR s hs0 d d0 (by omega) E.length 0 L (Int.le_refl 0) (by omega) I
    rw [w1 (by omega) (by omega)] at R
    obtain ⟨L2, H, D⟩ := ih (d + 1) L1 (by omega) (by omega) ⟨I1.g, fun v a b => by have := I1.lv v a b; omega, fun k k0 k1 h hc => I1.dn k k0 k1 h (by omega)⟩
    exact ⟨L2, (R _ H).step fun k => by rw [compassref04_Levels.l1, if_pos (by omega)], D⟩

/-- The document's first round lays -1 everywhere. -/
theorem ref_l0 (n : Int) (E : List S41) (hR : Right n E) (s : Int) (hs0 : 0 ≤ s) (hs1 : s < n) (m : Nat) : ∀ (v : Int) (L : List Int), 0 ≤ v → v + m = n → (L.length : Int) = n → (∀ x, 0 ≤ x → x < v → rd L x = -1) → ∀ r,
    Evl (fun k => compassref04_Levels.l1 k ((List.replicate n.toNat (-1)).set s.toNat 0) 0 n E) r → Evl (fun k => compassref04_Levels.l0 k s L v n E) r := by
  have n1 := hR.n1
  induction m with
  | zero =>
    intro v L v0 hv hl hx r H
    have : L = List.replicate n.toNat (-1) := ext_rd _ _ (by simp; omega) fun j a b => by rw [hx j a (by omega), rd_replicate _ _ _ a (by omega)]
    refine H.step fun k => ?_
    rw [compassref04_Levels.l0, if_neg (by omega), if_pos hs0, if_pos (by omega), this]
  | succ m ih =>
    intro v L v0 hv hl hx r H
    refine (ih (v + 1) (L.set v.toNat (-1)) (by omega) (by omega) (by rw [List.length_set]; exact hl) (fun x a b => by
      rw [rd_set _ _ _ _ v0 (by omega) a]
      by_cases e : x = v
      · rw [if_pos e]
      · rw [if_neg e]; exact hx x a (by omega)) r H).step fun k => ?_
    rw [compassref04_Levels.l0, if_pos (by omega), if_pos v0, if_pos (by omega), w1 (by omega) (by omega)]

/-- Levels: the program's and the document's answer. -/
theorem levels_f (n : Int) (E : List S41) (s : Int) : ∃ L c, Evl (fun k => walk_Levels.f k n E s) (L, c) ∧ Evl (fun k => compassref04_Levels.f k n E s) (L, c) ∧
    (c = 0 → Right n E ∧ 0 ≤ s ∧ s < n ∧ Dist n E s L) ∧ (c ≠ 0 → L = []) ∧ (c ≠ 0 → ¬ (Right n E ∧ 0 ≤ s ∧ s < n)) := by
  obtain ⟨c, a, C1, C2, hz, -, hr⟩ := check_f n E
  by_cases hc : c = 0
  · obtain ⟨-, hR⟩ := hz hc
    subst hc
    have n0 := hR.n0
    have n1 := hR.n1
    have yes : Evl (fun k => walk_Levels.j0 k s true n E) ([], 30) := Evl.here fun k => by rw [walk_Levels.j0, if_pos rfl]
    by_cases h0 : s < 0
    · refine ⟨[], 30, ?_, ?_, by omega, fun _ => rfl, fun _ h => absurd h.2.1 (by omega)⟩
      · refine (Evl.bind C1 (h := fun k bt => if bt.1 = 0 then (if s < 0 then walk_Levels.j0 k s true n E else walk_Levels.j0 k s (decide (s ≥ n)) n E) else some (([] : List Int), bt.1)) ?_).congr fun k => rfl
        exact yes.congr fun k => by rw [if_pos rfl, if_pos h0]
      · have W : Evl (fun k => compassref04_Wrong.f k n E s) 30 := (Evl.bind C2 (h := fun k bt => if bt.1 = 0 then (if s < 0 then some 30 else if s ≥ n then some 30 else some bt.1) else some bt.1) (Evl.pure.congr fun k => by rw [if_pos rfl, if_pos h0])).congr fun k => rfl
        refine (Evl.bind W (h := fun k t => if t = 0 then (if 0 ≤ n then (if n.toNat ≤ 35184372088832 then compassref04_Levels.l0 k s (List.replicate n.toNat 0) 0 n E else none) else none) else some (([] : List Int), t)) (Evl.pure.congr fun k => by rw [if_neg (by decide)])).congr fun k => rfl
    · by_cases h1 : s ≥ n
      · refine ⟨[], 30, ?_, ?_, by omega, fun _ => rfl, fun _ h => absurd h.2.2 (by omega)⟩
        · refine (Evl.bind C1 (h := fun k bt => if bt.1 = 0 then (if s < 0 then walk_Levels.j0 k s true n E else walk_Levels.j0 k s (decide (s ≥ n)) n E) else some (([] : List Int), bt.1)) ?_).congr fun k => rfl
          exact yes.congr fun k => by rw [if_pos rfl, if_neg h0, decide_eq_true h1]
        · have W : Evl (fun k => compassref04_Wrong.f k n E s) 30 := (Evl.bind C2 (h := fun k bt => if bt.1 = 0 then (if s < 0 then some 30 else if s ≥ n then some 30 else some bt.1) else some bt.1) (Evl.pure.congr fun k => by rw [if_pos rfl, if_neg h0, if_pos h1])).congr fun k => rfl
          refine (Evl.bind W (h := fun k t => if t = 0 then (if 0 ≤ n then (if n.toNat ≤ 35184372088832 then compassref04_Levels.l0 k s (List.replicate n.toNat 0) 0 n E else none) else none) else some (([] : List Int), t)) (Evl.pure.congr fun k => by rw [if_neg (by decide)])).congr fun k => rfl
      · have hs0 : 0 ≤ s := by omega
        have hs1 : s < n := by omega
        obtain ⟨o, O, ho, hout⟩ := outs_f n E hR
        have F := filled_f n (-1) n0 (by omega)
        have G := Grow.start (E := E) hs0 hs1
        have ng : negs ((List.replicate n.toNat (-1)).set s.toNat 0) ≤ n - 1 := by have := G.cap s hs0 hs1; have := G.src; omega
        have O0 : Out n E s ((List.replicate n.toNat (-1)).set s.toNat 0) [s] := by
          have rdr : ∀ v, 0 ≤ v → v < n → rd ((List.replicate n.toNat (-1)).set s.toNat 0) v = if v = s then 0 else -1 := fun v a b => by
            rw [rd_set _ _ _ _ hs0 (by rw [List.length_replicate]; omega) a, rd_replicate _ _ _ a (by omega)]
          refine ⟨G, fun x hx => ?_, List.pairwise_singleton _ _, fun h t e x a b => ?_, fun i a b h hq => ?_, by simp only [List.length_singleton]; omega⟩
          · rw [List.mem_singleton] at hx; subst hx; exact ⟨hs0, hs1, by rw [G.src]; exact Int.le_refl 0⟩
          · obtain ⟨rfl, -⟩ := List.cons.inj e
            rw [G.src, rdr x a b]; split <;> omega
          · rw [List.mem_singleton] at hq
            rw [rdr _ (hR.e i a b).a0 (hR.e i a b).a1, if_neg hq] at h; omega
        have hng := negs_nonneg ((List.replicate n.toNat (-1)).set s.toNat 0)
        obtain ⟨L, H, D⟩ := outer n E hR s hs0 o ho hout (1 + negs ((List.replicate n.toNat (-1)).set s.toNat 0)).toNat _ [s] (by simp only [List.length_singleton]; omega) O0
        obtain ⟨M, H2, D2⟩ := ref_l1 n E hR s hs0 n.toNat 0 _ (Int.le_refl 0) (by omega) ⟨G, fun v a b => by
          rw [rd_set _ _ _ _ hs0 (by rw [List.length_replicate]; omega) a, rd_replicate _ _ _ a (by omega)]; split <;> omega, fun k k0 k1 h hc => by omega⟩
        obtain rfl : M = L := Dist.eq hR D2 D
        refine ⟨M, 0, ?_, ?_, fun _ => ⟨hR, hs0, hs1, D⟩, fun h => absurd rfl h, fun h => absurd rfl h⟩
        · refine (Evl.bind C1 (h := fun k bt => if bt.1 = 0 then (if s < 0 then walk_Levels.j0 k s true n E else walk_Levels.j0 k s (decide (s ≥ n)) n E) else some (([] : List Int), bt.1)) ?_).congr fun k => rfl
          refine Evl.congr (h := fun k => walk_Levels.j0 k s false n E) ?_ (fun k => by rw [if_pos rfl, if_neg h0, decide_eq_false h1])
          refine Evl.step (h := fun k => (walk_outs.f k n E).bind fun t126 => (walk_filled.f k n (-1)).bind fun t129 => if 0 ≤ s then (if s < (t129.length : Int) then walk_Levels.l0 k t126 (t129.set s.toNat 0) [s] n E else none) else none) ?_ (fun k => by rw [walk_Levels.j0, if_neg (by simp)])
          refine Evl.bind O (Evl.bind F ?_)
          exact H.congr fun k => by rw [if_pos hs0, if_pos (by rw [List.length_replicate]; omega)]
        · have W : Evl (fun k => compassref04_Wrong.f k n E s) 0 := (Evl.bind C2 (h := fun k bt => if bt.1 = 0 then (if s < 0 then some 30 else if s ≥ n then some 30 else some bt.1) else some bt.1) (Evl.pure.congr fun k => by rw [if_pos rfl, if_neg h0, if_neg h1])).congr fun k => rfl
          refine (Evl.bind W (h := fun k t => if t = 0 then (if 0 ≤ n then (if n.toNat ≤ 35184372088832 then compassref04_Levels.l0 k s (List.replicate n.toNat 0) 0 n E else none) else none) else some (([] : List Int), t)) ?_).congr fun k => rfl
          refine Evl.congr (ref_l0 n E hR s hs0 hs1 n.toNat 0 (List.replicate n.toNat 0) (Int.le_refl 0) (by omega) (by rw [List.length_replicate]; omega) (fun x a b => by omega) _ H2) (fun k => by rw [if_pos rfl, if_pos n0, if_pos (by omega)])
  · refine ⟨[], c, ?_, ?_, fun h => absurd h hc, fun _ => rfl, fun _ h => hc (hr h.1)⟩
    · refine (Evl.bind C1 (h := fun k bt => if bt.1 = 0 then (if s < 0 then walk_Levels.j0 k s true n E else walk_Levels.j0 k s (decide (s ≥ n)) n E) else some (([] : List Int), bt.1)) ?_).congr fun k => rfl
      exact Evl.pure.congr fun k => by rw [if_neg hc]
    · have W : Evl (fun k => compassref04_Wrong.f k n E s) c := (Evl.bind C2 (h := fun k bt => if bt.1 = 0 then (if s < 0 then some 30 else if s ≥ n then some 30 else some bt.1) else some bt.1) (Evl.pure.congr fun k => by rw [if_neg hc])).congr fun k => rfl
      refine (Evl.bind W (h := fun k t => if t = 0 then (if 0 ≤ n then (if n.toNat ≤ 35184372088832 then compassref04_Levels.l0 k s (List.replicate n.toNat 0) 0 n E else none) else none) else some (([] : List Int), t)) (Evl.pure.congr fun k => by rw [if_neg hc])).congr fun k => rfl
end Go.Proofs.Ytacklfnnpiobgaa.G
namespace Go.Proofs.Ytacklfnnpiobgaa.Pure
open Go.RowKit Go.Proofs.Ytacklfnnpiobgaa.Q Go.Proofs.Ytacklfnnpiobgaa.G Go.Proofs.YtacklfnnpiobgaaW.PrintWords Go.Proofs.YtacklfnnpiobgaaW.PrintLast
set_option linter.unusedVariables false

theorem keeps_awake : Evl (fun k => compasslaw04_awake.f k) true := Evl.mono (k0 := 60) (by kernel_rfl) (fun k => compasslaw04_awake.mono k)
/-- The document's copy. -/
theorem copy_f (n : Int) (E : List S41) (hm : (E.length : Int) ≤ 4398046510976) : Evl (fun k => compassref03_Copy.f k n E) (n, E) := by
  have loop : ∀ (d i : Nat), i + d = E.length → Evl (fun k => compassref03_Copy.l0 k (i : Int) n E n (E.take i)) (n, E) := by
    intro d
    induction d with
    | zero =>
      intro i hi
      refine Evl.here fun k => ?_
      rw [compassref03_Copy.l0, if_neg (by omega), List.take_of_length_le (by omega)]
    | succ d ih =>
      intro i hi
      have w : wrap64 ((i : Int) + 1) = ((i + 1 : Nat) : Int) := by rw [w1 (by omega) (by omega)]; rfl
      have hlt : i < E.length := by omega
      have e : E.take (i + 1) = E.take i ++ [rd_T41 E (i : Int)] := by
        rw [List.take_succ_eq_append_getElem hlt]
        unfold rd_T41
        rw [List.getD_eq_getElem?_getD, Int.toNat_natCast, List.getElem?_eq_getElem hlt]; rfl
      have nx := ih (i + 1) (by omega)
      rw [e] at nx
      refine nx.step fun k => ?_
      rw [compassref03_Copy.l0, if_pos (by omega), if_pos (by omega), if_pos (by rw [List.length_take]; omega), w]
  exact (loop E.length 0 (by omega)).congr fun k => rfl
/-- A graph is the same as itself. -/
theorem same_f (n : Int) (E : List S41) (hm : (E.length : Int) ≤ 4398046510976) : Evl (fun k => compassref03_Same.f k n E n E) true := by
  have loop : ∀ (d i : Nat), i + d = E.length → Evl (fun k => compassref03_Same.l0 k (i : Int) n E n E) true := by
    intro d
    induction d with
    | zero =>
      intro i hi
      refine Evl.here fun k => ?_
      rw [compassref03_Same.l0, if_neg (by omega)]
    | succ d ih =>
      intro i hi
      have w : wrap64 ((i : Int) + 1) = ((i + 1 : Nat) : Int) := by rw [w1 (by omega) (by omega)]; rfl
      refine (ih (i + 1) (by omega)).step fun k => ?_
      rw [compassref03_Same.l0, if_pos (by omega), if_pos (by omega), if_pos (by omega), if_neg (by simp), w]
  refine Evl.congr (Evl.step (h := fun k => compassref03_Same.l0 k 0 n E n E) (g := fun k => compassref03_Same.j0 k false n E n E) (loop E.length 0 (by omega)) fun k => ?_) fun k => ?_
  · rw [compassref03_Same.j0, if_neg (by decide)]
  · rw [compassref03_Same.f, if_pos rfl]
    simp
/-- Rounds that are enough for both. -/
theorem Evl.both {α β : Type} {g : Nat → Option α} {h : Nat → Option β} {a : α} {b : β} (G : Evl g a) (H : Evl h b) : ∃ K, ∀ k, K ≤ k → g k = some a ∧ h k = some b := by
  obtain ⟨K, p⟩ := G
  obtain ⟨L, q⟩ := H
  exact ⟨K + L, fun k hk => ⟨p k (by omega), q k (by omega)⟩⟩
theorem WalkKeeps (n : Int) (E : List S41) (s : Int) (hm : (E.length : Int) ≤ 4398046510976) : ∃ k, compasslaw04_WalkKeeps.f k n E s := by
  obtain ⟨L, c, L1, L2, lz, ln, -⟩ := levels_f n E s
  obtain ⟨T, f, T1, T2, Tl, -⟩ := parts_all n E
  obtain ⟨S, x, S1, sz, sn, -⟩ := wstrong_f n E
  have Sl : (S.length : Int) ≤ 1000000000000 := by
    by_cases e : x = 0
    · obtain ⟨R, l, -, -⟩ := sz e
      have := R.n1; omega
    · rw [sn e]; simp
  obtain ⟨V, P, d, V1, -, -⟩ := visits_f n E
  obtain ⟨O, C, y, O1, -⟩ := Go.Proofs.Ytacklfnnpiobgaa.GC.order_f n E
  have Ll : (L.length : Int) ≤ 1000000000000 := by
    by_cases e : c = 0
    · obtain ⟨R, -, -, D⟩ := lz e
      have := D.g.len; have := R.n1; omega
    · rw [ln e]; simp
  obtain ⟨k1, h1⟩ := Evl.both keeps_awake (copy_f n E hm)
  obtain ⟨k2, h2⟩ := Evl.both L1 L2
  obtain ⟨k3, h3⟩ := Evl.both V1 T1
  obtain ⟨k4, h4⟩ := Evl.both T2 S1
  obtain ⟨k5, h5⟩ := Evl.both O1 (same_f n E hm)
  obtain ⟨k6, h6⟩ := Evl.both (ints_same L Ll) (ints_same T Tl)
  have m1 := h1 (k1 + k2 + k3 + k4 + k5 + k6) (by omega)
  have m2 := h2 (k1 + k2 + k3 + k4 + k5 + k6) (by omega)
  have m3 := h3 (k1 + k2 + k3 + k4 + k5 + k6) (by omega)
  have m4 := h4 (k1 + k2 + k3 + k4 + k5 + k6) (by omega)
  have m5 := h5 (k1 + k2 + k3 + k4 + k5 + k6) (by omega)
  have m6 := h6 (k1 + k2 + k3 + k4 + k5 + k6) (by omega)
  exact ⟨_, L, T, S, V, P, O, C, c, d, f, x, y, ⟨by omega, m1.1, m1.2, m2.1, m2.2, m3.1, m3.2, m4.1, m4.2, m5.1, m5.2, m6.1, m6.2, Ll, Sl⟩⟩
end Go.Proofs.Ytacklfnnpiobgaa.Pure
namespace Go.Proofs.Ytacklfnnpiobgaa.G
open Go.RowKit Go.Proofs.Ytacklfnnpiobgaa.Q Go.Proofs.YtacklfnnpiobgaaW.PrintWords Go.ChangeShapes Go.WideShapes Go.Deep
set_option linter.unusedVariables false
section
variable {H : Type} {enc : TypeId × Value → H} {P : Program} {w : World} {base : Nat} {spare : Nat → Bool} {held : Bool}
instance : Inhabited S41 := ⟨z41⟩

theorem open_edge {t i1 i2 : TypeId} {f0 f1 f2 f3 : Field} {fuel : Nat} {cs : List Value} {x : DataW H × List MemPlace} (ht : P.underlying t = some (.struct #[f0, f1, f2, f3])) (hC : P.cellsOf t = 4)
    (o : f0.offset = 0 ∧ f1.offset = 1 ∧ f2.offset = 2 ∧ f3.offset = 3) (c : P.cellsOf f0.type = 1 ∧ P.cellsOf f1.type = 1 ∧ P.cellsOf f2.type = 1 ∧ P.cellsOf f3.type = 1)
    (h0 : P.underlying f0.type = some (.int .i64)) (h1 : P.underlying f1.type = some (.int .i64)) (h2 : P.underlying f2.type = some (.int .i64)) (h3 : P.underlying f3.type = some (.int .i64))
    (h : DataW.trod enc P w base spare held fuel t cs = some x) : ∃ e : S41, cs = [.int .i64 e.f0, .int .i64 e.f1, .int .i64 e.f2, .int .i64 e.f3] := by
  obtain ⟨y0, y1, y2, y3, n, -, hl, g0, g1, g2, g3⟩ := Joins.trod_struct4 ht h
  rw [hC] at hl
  match cs, hl with
  | [c0, c1, c2, c3], _ =>
    obtain ⟨o0, o1, o2, o3⟩ := o
    obtain ⟨k0, k1, k2, k3⟩ := c
    simp only [o0, o1, o2, o3, k0, k1, k2, k3, List.drop_zero, List.drop_succ_cons, List.take_succ_cons, List.take_zero] at g0 g1 g2 g3
    obtain ⟨x0, e0, -, -⟩ := DataW.trod_int h0 g0
    obtain ⟨x1, e1, -, -⟩ := DataW.trod_int h1 g1
    obtain ⟨x2, e2, -, -⟩ := DataW.trod_int h2 g2
    obtain ⟨x3, e3, -, -⟩ := DataW.trod_int h3 g3
    simp only [List.cons.injEq, and_true] at e0 e1 e2 e3
    exact ⟨⟨x0, x1, x2, x3⟩, by rw [e0, e1, e2, e3]⟩

theorem open_edges {t e : TypeId} {f0 f1 f2 f3 : Field} {fuel : Nat} {v : Value} {x : DataW H × List MemPlace} (ht : P.underlying t = some (.slice e)) (he : P.underlying e = some (.struct #[f0, f1, f2, f3])) (hC : P.cellsOf e = 4)
    (o : f0.offset = 0 ∧ f1.offset = 1 ∧ f2.offset = 2 ∧ f3.offset = 3) (c : P.cellsOf f0.type = 1 ∧ P.cellsOf f1.type = 1 ∧ P.cellsOf f2.type = 1 ∧ P.cellsOf f3.type = 1)
    (h0 : P.underlying f0.type = some (.int .i64)) (h1 : P.underlying f1.type = some (.int .i64)) (h2 : P.underlying f2.type = some (.int .i64)) (h3 : P.underlying f3.type = some (.int .i64))
    (h : DataW.trod enc P w base spare held fuel t [v] = some x) : ∃ (A : Option Addr) (l : List S41) (cap : Nat), v = .slice A l.length cap ∧ l.length ≤ cap ∧ Kd.C k41 w A l.length l := by
  rcases open_slice ht h with ⟨hcs, -⟩ | ⟨a, len, cap, m, n, D, Pl, hcs, hb, hl, hm, hmm, -, hx⟩
  · obtain rfl : v = .slice none 0 0 := by simpa using hcs
    exact ⟨none, [], 0, rfl, Nat.le_refl _, Kd.C_nil k41 w⟩
  · obtain rfl : v = .slice (some a) len cap := by simpa using hcs
    have hlm : len ≤ m := by rw [hmm]; split <;> omega
    have each : ∀ i, i < len → ∃ s : S41, w.cells? base (a.add (i * 4)) 4 = some [.int .i64 s.f0, .int .i64 s.f1, .int .i64 s.f2, .int .i64 s.f3] := fun i hi => by
      obtain ⟨cs', q1, q2⟩ := hx i (by omega)
      rw [hC] at q1
      obtain ⟨s, rfl⟩ := open_edge (i1 := 0) (i2 := 0) he hC o c h0 h1 h2 h3 q2
      exact ⟨s, q1⟩
    obtain ⟨f, hf⟩ := choose_lt each
    have hlen : ((List.range len).map f).length = len := by simp
    refine ⟨some a, (List.range len).map f, cap, by rw [hlen], by rw [hlen]; exact hl, ?_⟩
    · rw [hlen]
      refine ⟨hlen, by unfold maxLen at hm; omega, fun _ => ⟨a, rfl, fun j p hp => ?_⟩⟩
      have hj : j < len := by
        have := (List.getElem?_eq_some_iff.mp hp).1
        rw [hlen] at this; exact this
      have hp' : f j = p := by
        rw [List.getElem?_map, List.getElem?_range hj] at hp
        simpa using hp
      subst hp'
      obtain ⟨-, -, hcell⟩ := World.cells?_some (hf j hj)
      refine ⟨_, rfl, k41_mk w (f j), fun i u hu => ?_⟩
      have hi : i < 4 := by
        have := (List.getElem?_eq_some_iff.mp hu).1
        simpa using this
      have := hcell i hi
      rw [Go.Deep.add_add] at this
      show w.cell? (a.add (j * 4 + i)) = some u
      rw [this, hu]
end
end Go.Proofs.Ytacklfnnpiobgaa.G
namespace Go.Proofs.Ytacklfnnpiobgaa.G
open Go.RowKit Go.Proofs.Ytacklfnnpiobgaa.Q Go.Proofs.YtacklfnnpiobgaaW.PrintWords Go.ChangeShapes Go.WideShapes Go.Deep
set_option linter.unusedVariables false
section
variable {H : Type} {enc : TypeId × Value → H} {P : Program} {w : World} {base : Nat} {spare : Nat → Bool} {held : Bool}
/-- A slice in a field of an argument is no longer than its weight allows. -/
theorem sized_field {ts : List TypeId} {ds parts : List (DataW H)} {j i : Nat} {t ft e : TypeId} {fs : Array Field} {el sp : List (DataW H)} (h : (DataW.weightsEach P ts ds).all (· ≤ reachBytes) = true) (ht : ts[j]? = some t) (hd : ds[j]? = some (.agg parts))
    (hs : P.underlying t = some (.struct fs)) (hft : (fs.toList.map (·.type))[i]? = some ft) (hp : parts[i]? = some (.slice el sp)) (hu : P.underlying ft = some (.slice e)) : (el.length + sp.length) * P.bytesOf e ≤ reachBytes := by
  have := List.all_eq_true.1 h _ (DataW.weights_mem_each ht hd ((el.length + sp.length) * P.bytesOf e) (by
    simp only [DataW.weights, hs]
    exact DataW.weights_mem_each hft hp _ (by simp [DataW.weights, hu])))
  simpa using this
theorem open_edges_sz {t e : TypeId} {f0 f1 f2 f3 : Field} {fuel : Nat} {v : Value} {x : DataW H × List MemPlace} (ht : P.underlying t = some (.slice e)) (he : P.underlying e = some (.struct #[f0, f1, f2, f3])) (hC : P.cellsOf e = 4)
    (o : f0.offset = 0 ∧ f1.offset = 1 ∧ f2.offset = 2 ∧ f3.offset = 3) (c : P.cellsOf f0.type = 1 ∧ P.cellsOf f1.type = 1 ∧ P.cellsOf f2.type = 1 ∧ P.cellsOf f3.type = 1)
    (h0 : P.underlying f0.type = some (.int .i64)) (h1 : P.underlying f1.type = some (.int .i64)) (h2 : P.underlying f2.type = some (.int .i64)) (h3 : P.underlying f3.type = some (.int .i64))
    (h : DataW.trod enc P w base spare held fuel t [v] = some x) : ∃ (A : Option Addr) (l : List S41) (cap : Nat), v = .slice A l.length cap ∧ l.length ≤ cap ∧ Kd.C k41 w A l.length l ∧ (l = [] ∨ ∃ el sp : List (DataW H), x.1 = .slice el sp ∧ el.length = l.length) := by
  rcases open_slice ht h with ⟨hcs, -⟩ | ⟨a, len, cap, m, n, D, Pl, hcs, hb, hl, hm, hmm, hxe, hx⟩
  · obtain ⟨A, l, n, e, hn, C⟩ := open_edges ht he hC o c h0 h1 h2 h3 h
    obtain rfl : v = .slice none 0 0 := by simpa using hcs
    have el : l.length = 0 := by injection e with _ e _; exact e.symm
    exact ⟨A, l, n, e, hn, C, Or.inl (List.length_eq_zero_iff.mp el)⟩
  · obtain ⟨A, l, n, e, hn, C⟩ := open_edges ht he hC o c h0 h1 h2 h3 h
    obtain rfl : v = .slice (some a) len cap := by simpa using hcs
    have el : len = l.length := by injection e with _ e _
    exact ⟨A, l, n, e, hn, C, Or.inr ⟨_, _, by rw [hxe], by simp [el]⟩⟩
end
end Go.Proofs.Ytacklfnnpiobgaa.G
