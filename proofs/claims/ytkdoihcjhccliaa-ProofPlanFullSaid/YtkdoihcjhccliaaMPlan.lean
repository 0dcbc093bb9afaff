/- Words for the chapter on walks: what rounds come to, reads behind a write, and right graphs. -/
/- Amounts on the edges of a right graph: what goes out of a node, what leaves a side; the program's looks and the document's. -/
/- Sets of nodes that no edge leaves or enters. -/
/- A circle that costs less than nothing, or potentials: what the document's rounds over all edges come to. -/
/- Sources and sinks, as the document and the program name what is wrong with them; what goes out of the one comes to the other. -/
/- Weights at the nodes: over all nodes what goes out, weighted, is what lies on the edges, weighted by the ends; no flow is greater than a cut. -/
/- Supplies, potentials, costs: the program's looks and the document's, and weak duality. -/
/- Potentials by the document's rounds: they settle where no circle costs less than nothing. -/
/- What can still be changed: the residual, changes along its edges, the least room. -/
/- What can be come to along edges with room: a tree of ways. -/
/- The document's plain way to a greatest flow: way after way; it ends, with a flow that fills its cut. -/
/- Small lemmas on edges, copies and circles. -/
/- Plans: the program's looks take just what the document's do. -/
/- The document's plain way to a cheapest plan: a flow from all who have to all who want, then circle after circle. -/
/- The document's cheapest plan: circle after circle, to the end. -/
/- The document's cheapest plan: the first flow, from one who gives to all who have, from all who want to one who takes. -/
/- The law's own look at the program. -/
/- The law ProofPlanFull. -/
/- A graph that came in, opened: its edges as a list. -/
import Derived.Test.YtkdoihcjhccliaaQ23
import Derived.Test.YtkdoihcjhccliaaQ4
import Derived.Test.YtkdoihcjhccliaaQ20
import Derived.Test.YtkdoihcjhccliaaQ21
import Derived.Test.YtkdoihcjhccliaaQ24
import Derived.Test.YtkdoihcjhccliaaQ25
import Derived.Test.YtkdoihcjhccliaaQ5
import Derived.Test.YtkdoihcjhccliaaQ6
import Derived.Test.YtkdoihcjhccliaaQ7
import Derived.Test.YtkdoihcjhccliaaQ66
import Derived.Test.YtkdoihcjhccliaaQ10
import Derived.Test.YtkdoihcjhccliaaQ27
import Derived.Test.YtkdoihcjhccliaaQ28
import Derived.Test.YtkdoihcjhccliaaQ9
import Derived.Test.YtkdoihcjhccliaaQ74
import Derived.Test.YtkdoihcjhccliaaQ75
import Derived.Test.YtkdoihcjhccliaaQ76
import Derived.Test.YtkdoihcjhccliaaQ60
import Derived.Test.YtkdoihcjhccliaaQ62
import Derived.Test.YtkdoihcjhccliaaQ63
import Derived.Test.YtkdoihcjhccliaaQ61
import Derived.Test.YtkdoihcjhccliaaQ64
import Derived.Test.YtkdoihcjhccliaaQ67
import Derived.Test.YtkdoihcjhccliaaQ13
import Derived.Test.YtkdoihcjhccliaaQ29
import Derived.Test.YtkdoihcjhccliaaQ30
import Derived.Test.YtkdoihcjhccliaaQ31
import Derived.Test.YtkdoihcjhccliaaQ73
import Derived.Test.YtkdoihcjhccliaaQ77
import Derived.Test.YtkdoihcjhccliaaQ19
import Derived.Test.YtkdoihcjhccliaaQ78
import Derived.Test.YtkdoihcjhccliaaQ0
import Derived.Deep.Slices
import Derived.Lib.SmallJoins
import Derived.OpenShut
import Derived.ChangeArms
namespace Go.Proofs.Ytkdoihcjhccliaa.G
open Go.RowKit Go.Proofs.Ytkdoihcjhccliaa.Q Go.Proofs.YtkdoihcjhccliaaW.PrintWords Go.Proofs.YtkdoihcjhccliaaW.PrintLast
set_option linter.unusedVariables false

/-- With enough rounds the answer is r. -/
def Evl {α : Type} (g : Nat → Option α) (r : α) : Prop := ∃ K, ∀ k, K ≤ k → g k = some r

section
variable {α β : Type}
theorem Evl.step {g h : Nat → Option α} {r : α} (H : Evl h r) (e : ∀ k, g (k + 1) = h k) : Evl g r := by
  obtain ⟨K, hK⟩ := H
  refine ⟨K + 1, fun k hk => ?_⟩
  obtain ⟨m, rfl⟩ : ∃ m, k = m + 1 := ⟨k - 1, by omega⟩
  rw [e]; exact hK m (by omega)
theorem Evl.here {g : Nat → Option α} {r : α} (e : ∀ k, g (k + 1) = some r) : Evl g r := by
  refine ⟨1, fun k hk => ?_⟩
  obtain ⟨m, rfl⟩ : ∃ m, k = m + 1 := ⟨k - 1, by omega⟩
  exact e m
theorem Evl.pure {r : α} : Evl (fun _ => some r) r := ⟨0, fun _ _ => rfl⟩
theorem Evl.congr {g h : Nat → Option α} {r : α} (H : Evl h r) (e : ∀ k, g k = h k) : Evl g r := by
  obtain ⟨K, hK⟩ := H
  exact ⟨K, fun k hk => by rw [e]; exact hK k hk⟩
theorem Evl.bind {g : Nat → Option α} {h : Nat → α → Option β} {a : α} {r : β} (G : Evl g a) (H : Evl (fun k => h k a) r) : Evl (fun k => (g k).bind (h k)) r := by
  obtain ⟨K, hK⟩ := G
  obtain ⟨L, hL⟩ := H
  exact ⟨max K L, fun k hk => by show (g k).bind (h k) = some r; rw [hK k (by omega), Option.bind_some]; exact hL k (by omega)⟩
theorem Evl.at {g : Nat → Option α} {r : α} (H : Evl g r) : ∃ k, g k = some r := by
  obtain ⟨K, hK⟩ := H
  exact ⟨K, hK K (Nat.le_refl _)⟩
theorem Evl.mono {g : Nat → Option α} {r : α} {k0 : Nat} (h : g k0 = some r) (m : ∀ k, LeO (g k) (g (k + 1))) : Evl g r := by
  refine ⟨k0, fun k hk => ?_⟩
  obtain ⟨d, rfl⟩ : ∃ d, k = k0 + d := ⟨k - k0, by omega⟩
  clear hk
  induction d with
  | zero => exact h
  | succ d ih => exact m _ _ ih
theorem Evl.eq {g : Nat → Option α} {r s : α} (H : Evl g r) (J : Evl g s) : r = s := by
  obtain ⟨K, hK⟩ := H
  obtain ⟨L, hL⟩ := J
  have := hK (max K L) (by omega)
  rw [hL (max K L) (by omega)] at this
  exact (Option.some.inj this).symm
end

section
variable {α : Type}
theorem getD_set (l : List α) (d x : α) (i j : Nat) (h : i < l.length) : (l.set i x).getD j d = if j = i then x else l.getD j d := by
  by_cases e : j = i
  · subst e; rw [if_pos rfl]; simp [List.getD, h]
  · rw [if_neg e]; simp [List.getD, List.getElem?_set_ne (fun a => e a.symm)]
theorem getD_append (l m : List α) (d : α) (j : Nat) : (l ++ m).getD j d = if j < l.length then l.getD j d else m.getD (j - l.length) d := by
  by_cases e : j < l.length
  · rw [if_pos e]; simp [List.getD, List.getElem?_append_left e]
  · rw [if_neg e]; simp [List.getD, List.getElem?_append_right (Nat.le_of_not_lt e)]
theorem getD_mem (l : List α) (d : α) (j : Nat) (h : j < l.length) : l.getD j d ∈ l := by
  rw [List.getD_eq_getElem?_getD, List.getElem?_eq_getElem h]; exact List.getElem_mem h
theorem getD_replicate (n : Nat) (x d : α) (j : Nat) (h : j < n) : (List.replicate n x).getD j d = x := by
  simp [List.getD, h]
theorem ext_getD (l m : List α) (d : α) (hl : l.length = m.length) (h : ∀ j, j < l.length → l.getD j d = m.getD j d) : l = m := by
  apply List.ext_getElem hl
  intro j h1 h2
  have := h j h1
  rwa [List.getD_eq_getElem?_getD, List.getD_eq_getElem?_getD, List.getElem?_eq_getElem h1, List.getElem?_eq_getElem h2] at this
end

theorem rd_set (l : List Int) (x i j : Int) (h0 : 0 ≤ i) (h : i < (l.length : Int)) (hj : 0 ≤ j) : rd (l.set i.toNat x) j = if j = i then x else rd l j := by
  unfold rd
  rw [getD_set l 0 x i.toNat j.toNat (by omega)]
  by_cases e : j = i
  · rw [if_pos e, if_pos (by rw [e])]
  · rw [if_neg e, if_neg (by omega)]
theorem rdOf_set {α : Type} (d : α) (l : List α) (x : α) (i j : Int) (h0 : 0 ≤ i) (h : i < (l.length : Int)) (hj : 0 ≤ j) : rdOf d (l.set i.toNat x) j = if j = i then x else rdOf d l j := by
  unfold rdOf
  rw [getD_set l d x i.toNat j.toNat (by omega)]
  by_cases e : j = i
  · rw [if_pos e, if_pos (by rw [e])]
  · rw [if_neg e, if_neg (by omega)]
theorem rd_mem (l : List Int) (j : Int) (h0 : 0 ≤ j) (h : j < (l.length : Int)) : rd l j ∈ l := getD_mem l 0 j.toNat (by omega)
theorem rd_replicate (n : Nat) (x j : Int) (h0 : 0 ≤ j) (h : j < (n : Int)) : rd (List.replicate n x) j = x := getD_replicate n x 0 j.toNat (by omega)
theorem rdOf_replicate {α : Type} (n : Nat) (x d : α) (j : Int) (h0 : 0 ≤ j) (h : j < (n : Int)) : rdOf d (List.replicate n x) j = x := getD_replicate n x d j.toNat (by omega)
theorem rd_append (l m : List Int) (j : Int) (h0 : 0 ≤ j) : rd (l ++ m) j = if j < (l.length : Int) then rd l j else rd m (j - l.length) := by
  unfold rd
  rw [getD_append]
  by_cases e : j < (l.length : Int)
  · rw [if_pos e, if_pos (by omega)]
  · rw [if_neg e, if_neg (by omega)]; congr 1; omega
theorem ext_rd (l m : List Int) (hl : l.length = m.length) (h : ∀ j : Int, 0 ≤ j → j < (l.length : Int) → rd l j = rd m j) : l = m := by
  refine ext_getD l m 0 hl fun j hj => ?_
  have := h (j : Int) (by omega) (by omega)
  unfold rd at this
  simpa using this
theorem mem_rd {l : List Int} {x : Int} (h : x ∈ l) : ∃ j : Int, 0 ≤ j ∧ j < (l.length : Int) ∧ rd l j = x := by
  obtain ⟨j, hj, e⟩ := List.mem_iff_getElem.mp h
  refine ⟨(j : Int), by omega, by omega, ?_⟩
  unfold rd
  rw [List.getD_eq_getElem?_getD, show ((j : Int).toNat) = j by omega, List.getElem?_eq_getElem hj]
  exact e

theorem w1 {i : Int} (h0 : -1000000000000000 ≤ i) (h : i ≤ 1000000000000000) : wrap64 (i + 1) = i + 1 := by
  unfold wrap64; omega
theorem wm {i : Int} (h0 : -1000000000000000 ≤ i) (h : i ≤ 1000000000000000) : wrap64 (i - 1) = i - 1 := by
  unfold wrap64; omega

/-- A right edge between n nodes. -/
structure RightE (n : Int) (e : S98) : Prop where
  a0 : 0 ≤ e.f0
  a1 : e.f0 < n
  b0 : 0 ≤ e.f1
  b1 : e.f1 < n
  c0 : 0 ≤ e.f2
  c1 : e.f2 ≤ 1048576
  d0 : -1048576 ≤ e.f3
  d1 : e.f3 ≤ 1048576

/-- A right graph. -/
structure Right (n : Int) (E : List S98) : Prop where
  n0 : 0 ≤ n
  n1 : n ≤ 1024
  m1 : (E.length : Int) ≤ 4096
  e : ∀ i : Int, 0 ≤ i → i < (E.length : Int) → RightE n (rd_T98 E i)

theorem label_f (e : S98) : graph_label.f e.f0 e.f1 e.f2 e.f3 = some (decide (0 ≤ e.f2 ∧ e.f2 ≤ 1048576 ∧ -1048576 ≤ e.f3 ∧ e.f3 ≤ 1048576)) := by
  unfold graph_label.f
  by_cases h1 : e.f2 ≥ 0
  · rw [if_pos h1]
    by_cases h2 : e.f2 ≤ 1048576
    · rw [if_pos h2]
      by_cases h3 : e.f3 ≥ -1048576
      · rw [if_pos h3]; congr 1
        exact decide_eq_decide.mpr ⟨fun h => ⟨h1, h2, h3, h⟩, fun h => h.2.2.2⟩
      · rw [if_neg h3]; congr 1
        exact (decide_eq_false (by omega)).symm
    · rw [if_neg h2]; congr 1
      exact (decide_eq_false (by omega)).symm
  · rw [if_neg h1]; congr 1
    exact (decide_eq_false (by omega)).symm

/-- The number of what is wrong with an edge. -/
def badE (n : Int) (e : S98) : Int := if e.f0 < 0 ∨ e.f0 ≥ n ∨ e.f1 < 0 ∨ e.f1 ≥ n then 30 else if 0 ≤ e.f2 ∧ e.f2 ≤ 1048576 ∧ -1048576 ≤ e.f3 ∧ e.f3 ≤ 1048576 then 0 else 31

theorem badE_zero {n : Int} {e : S98} (h : badE n e = 0) : RightE n e := by
  unfold badE at h
  by_cases h1 : e.f0 < 0 ∨ e.f0 ≥ n ∨ e.f1 < 0 ∨ e.f1 ≥ n
  · rw [if_pos h1] at h; omega
  · rw [if_neg h1] at h
    by_cases h2 : 0 ≤ e.f2 ∧ e.f2 ≤ 1048576 ∧ -1048576 ≤ e.f3 ∧ e.f3 ≤ 1048576
    · constructor <;> omega
    · rw [if_neg h2] at h; omega
theorem badE_of {n : Int} {e : S98} (h : RightE n e) : badE n e = 0 := by
  obtain ⟨a0, a1, b0, b1, c0, c1, d0, d1⟩ := h
  unfold badE
  rw [if_neg (by omega), if_pos (by omega)]

theorem bad_f (n : Int) (e : S98) : Evl (fun k => compassref03_Bad.f k n e.f0 e.f1 e.f2 e.f3) (badE n e) := by
  have tail : Evl (fun k => compassref03_Bad.j0 k false e.f0 e.f1 e.f2 e.f3) (if 0 ≤ e.f2 ∧ e.f2 ≤ 1048576 ∧ -1048576 ≤ e.f3 ∧ e.f3 ≤ 1048576 then 0 else 31) := by
    refine Evl.here fun k => ?_
    rw [compassref03_Bad.j0, if_neg (by simp)]
    by_cases h1 : e.f2 < 0
    · rw [if_pos h1, if_neg (by omega)]
    · rw [if_neg h1]
      by_cases h2 : e.f2 > 1048576
      · rw [if_pos h2, if_neg (by omega)]
      · rw [if_neg h2]
        by_cases h3 : e.f3 < -1048576
        · rw [if_pos h3, if_neg (by omega)]
        · rw [if_neg h3]
          by_cases h4 : e.f3 > 1048576
          · rw [if_pos h4, if_neg (by omega)]
          · rw [if_neg h4, if_pos (by omega)]
  have yes : Evl (fun k => compassref03_Bad.j0 k true e.f0 e.f1 e.f2 e.f3) 30 := Evl.here fun k => by rw [compassref03_Bad.j0, if_pos rfl]
  unfold badE
  by_cases h1 : e.f0 < 0
  · rw [if_pos (by omega)]; exact yes.congr fun k => by rw [compassref03_Bad.f, if_pos h1]
  · by_cases h2 : e.f1 < 0
    · rw [if_pos (by omega)]; exact yes.congr fun k => by rw [compassref03_Bad.f, if_neg h1, if_pos h2]
    · by_cases h3 : e.f0 ≥ n
      · rw [if_pos (by omega)]; exact yes.congr fun k => by rw [compassref03_Bad.f, if_neg h1, if_neg h2, if_pos h3]
      · by_cases h4 : e.f1 ≥ n
        · rw [if_pos (by omega)]; exact yes.congr fun k => by rw [compassref03_Bad.f, if_neg h1, if_neg h2, if_neg h3, decide_eq_true h4]
        · rw [if_neg (by omega)]; exact tail.congr fun k => by rw [compassref03_Bad.f, if_neg h1, if_neg h2, if_neg h3, decide_eq_false h4]

theorem chk_j2 (n : Int) (E : List S98) (i : Int) (e : S98) (b : Bool) (r : Int × Int)
    (hb : b = decide (e.f0 < 0 ∨ e.f0 ≥ n ∨ e.f1 < 0 ∨ e.f1 ≥ n)) (h0 : badE n e = 0 → Evl (fun k => graph_Check.l0 k E (E.length : Int) (wrap64 (i + 1)) n E) r) (h1 : badE n e ≠ 0 → r = (badE n e, i)) :
    Evl (fun k => graph_Check.j2 k i E (E.length : Int) i b n E e.f0 e.f1 e.f2 e.f3) r := by
  unfold badE at h0 h1
  by_cases c : e.f0 < 0 ∨ e.f0 ≥ n ∨ e.f1 < 0 ∨ e.f1 ≥ n
  · rw [if_pos c] at h1
    rw [decide_eq_true c] at hb
    rw [h1 (by decide), hb]
    exact Evl.here fun k => by rw [graph_Check.j2, if_pos rfl]
  · rw [if_neg c] at h0 h1
    rw [decide_eq_false c] at hb
    subst hb
    by_cases c2 : 0 ≤ e.f2 ∧ e.f2 ≤ 1048576 ∧ -1048576 ≤ e.f3 ∧ e.f3 ≤ 1048576
    · rw [if_pos c2] at h0
      refine (h0 rfl).step fun k => ?_
      rw [graph_Check.j2, if_neg (by simp), label_f, Option.bind_some, if_pos (decide_eq_true c2)]
    · rw [if_neg c2] at h1
      rw [h1 (by decide)]
      refine Evl.here fun k => ?_
      rw [graph_Check.j2, if_neg (by simp), label_f, Option.bind_some, decide_eq_false c2, if_neg (by simp)]

theorem chk_l0 (n : Int) (E : List S98) (hm : (E.length : Int) ≤ 4096) (d : Nat) : ∀ i : Int, 0 ≤ i → i + d = (E.length : Int) → ∃ r : Int × Int,
    Evl (fun k => graph_Check.l0 k E (E.length : Int) i n E) r ∧ Evl (fun k => compassref03_Check.l0 k i n E) r ∧
    (r.1 = 0 → r.2 = 0 ∧ ∀ j : Int, i ≤ j → j < (E.length : Int) → RightE n (rd_T98 E j)) ∧ (r.1 = 0 ∨ r.1 = 30 ∨ r.1 = 31) ∧ ((∀ j : Int, i ≤ j → j < (E.length : Int) → RightE n (rd_T98 E j)) → r.1 = 0) := by
  induction d with
  | zero =>
    intro i h0 hi
    have g : ¬ i < (E.length : Int) := by omega
    refine ⟨(0, 0), Evl.here fun k => ?_, Evl.here fun k => ?_, fun _ => ⟨rfl, fun j h1 h2 => by omega⟩, Or.inl rfl, fun _ => rfl⟩
    · rw [graph_Check.l0, if_neg g]
    · rw [compassref03_Check.l0, if_neg g]
  | succ d ih =>
    intro i h0 hi
    have g : i < (E.length : Int) := by omega
    have w : wrap64 (i + 1) = i + 1 := w1 (by omega) (by omega)
    have two : ∀ r : Int × Int, (badE n (rd_T98 E i) = 0 → Evl (fun k => graph_Check.l0 k E (E.length : Int) (wrap64 (i + 1)) n E) r ∧ Evl (fun k => compassref03_Check.l0 k (wrap64 (i + 1)) n E) r) → (badE n (rd_T98 E i) ≠ 0 → r = (badE n (rd_T98 E i), i)) →
        Evl (fun k => graph_Check.l0 k E (E.length : Int) i n E) r ∧ Evl (fun k => compassref03_Check.l0 k i n E) r := by
      intro r hz hn
      constructor
      · by_cases c1 : (rd_T98 E i).f0 < 0
        · refine (chk_j2 n E i (rd_T98 E i) true r (decide_eq_true (by omega)).symm (fun h => (hz h).1) hn).step fun k => ?_
          rw [graph_Check.l0, if_pos g, if_pos h0, if_pos g, if_pos c1]
        · by_cases c2 : (rd_T98 E i).f0 ≥ n
          · refine (chk_j2 n E i (rd_T98 E i) true r (decide_eq_true (by omega)).symm (fun h => (hz h).1) hn).step fun k => ?_
            rw [graph_Check.l0, if_pos g, if_pos h0, if_pos g, if_neg c1, if_pos c2]
          · by_cases c3 : (rd_T98 E i).f1 < 0
            · refine (chk_j2 n E i (rd_T98 E i) true r (decide_eq_true (by omega)).symm (fun h => (hz h).1) hn).step fun k => ?_
              rw [graph_Check.l0, if_pos g, if_pos h0, if_pos g, if_neg c1, if_neg c2, if_pos c3]
            · refine (chk_j2 n E i (rd_T98 E i) (decide ((rd_T98 E i).f1 ≥ n)) r (decide_eq_decide.mpr (by omega)) (fun h => (hz h).1) hn).step fun k => ?_
              rw [graph_Check.l0, if_pos g, if_pos h0, if_pos g, if_neg c1, if_neg c2, if_neg c3]
      · by_cases z : badE n (rd_T98 E i) = 0
        · have B := bad_f n (rd_T98 E i)
          rw [z] at B
          refine (Evl.bind (h := fun k t => if t = 0 then compassref03_Check.l0 k (wrap64 (i + 1)) n E else some (t, i)) B (r := r) ?_).step fun k => ?_
          · exact (hz z).2.congr fun k => by rw [if_pos rfl]
          · rw [compassref03_Check.l0, if_pos g, if_pos h0]
        · have B := bad_f n (rd_T98 E i)
          rw [hn z]
          refine (Evl.bind (h := fun k t => if t = 0 then compassref03_Check.l0 k (wrap64 (i + 1)) n E else some (t, i)) B (r := (badE n (rd_T98 E i), i)) ?_).step fun k => ?_
          · exact Evl.pure.congr fun k => by rw [if_neg z]
          · rw [compassref03_Check.l0, if_pos g, if_pos h0]
    by_cases z : badE n (rd_T98 E i) = 0
    · obtain ⟨r, e1, e2, hz, ho, hr⟩ := ih (i + 1) (by omega) (by omega)
      obtain ⟨a, b⟩ := two r (fun _ => by rw [w]; exact ⟨e1, e2⟩) (fun h => absurd z h)
      refine ⟨r, a, b, fun h => ⟨(hz h).1, fun j h1 h2 => ?_⟩, ho, fun h => hr fun j h1 h2 => h j (by omega) h2⟩
      by_cases q : j = i
      · rw [q]; exact badE_zero z
      · exact (hz h).2 j (by omega) h2
    · obtain ⟨a, b⟩ := two (badE n (rd_T98 E i), i) (fun h => absurd h z) (fun _ => rfl)
      refine ⟨_, a, b, fun h => absurd h z, ?_, fun h => badE_of (h i (Int.le_refl _) g)⟩
      show badE n (rd_T98 E i) = 0 ∨ badE n (rd_T98 E i) = 30 ∨ badE n (rd_T98 E i) = 31
      unfold badE
      split
      · exact Or.inr (Or.inl rfl)
      · split
        · exact Or.inl rfl
        · exact Or.inr (Or.inr rfl)

/-- Both looks at a graph tell the same fault; none: the graph is right. -/
theorem check_f (n : Int) (E : List S98) : ∃ c a : Int, Evl (fun k => graph_Check.f k n E) (c, a) ∧ Evl (fun k => compassref03_Check.f k n E) (c, a) ∧ (c = 0 → a = 0 ∧ Right n E) ∧ (c = 0 ∨ c = 3 ∨ c = 30 ∨ c = 31) ∧ (Right n E → c = 0) := by
  have yes : Evl (fun k => graph_Check.j0 k true n E) (3, 0) := Evl.here fun k => by rw [graph_Check.j0, if_pos rfl]
  have yes' : Evl (fun k => compassref03_Check.j0 k true n E) (3, 0) := Evl.here fun k => by rw [compassref03_Check.j0, if_pos rfl]
  by_cases h1 : n < 0
  · exact ⟨3, 0, yes.congr fun k => by rw [graph_Check.f, if_pos h1], yes'.congr fun k => by rw [compassref03_Check.f, if_pos h1], by omega, by omega, fun h => absurd h.n0 (by omega)⟩
  · by_cases h2 : n > 1024
    · exact ⟨3, 0, yes.congr fun k => by rw [graph_Check.f, if_neg h1, if_pos h2], yes'.congr fun k => by rw [compassref03_Check.f, if_neg h1, if_pos h2], by omega, by omega, fun h => absurd h.n1 (by omega)⟩
    · by_cases h3 : (E.length : Int) > 4096
      · exact ⟨3, 0, yes.congr fun k => by rw [graph_Check.f, if_neg h1, if_neg h2, decide_eq_true h3], yes'.congr fun k => by rw [compassref03_Check.f, if_neg h1, if_neg h2, decide_eq_true h3], by omega, by omega, fun h => absurd h.m1 (by omega)⟩
      · obtain ⟨⟨c, a⟩, e1, e2, hz, ho, hr⟩ := chk_l0 n E (by omega) E.length 0 (by omega) (by omega)
        refine ⟨c, a, ?_, ?_, fun h => ⟨(hz h).1, by omega, by omega, by omega, fun i a b => (hz h).2 i a b⟩, by simp only at ho; omega, fun h => hr fun j a b => h.e j a b⟩
        · refine (e1.step (g := fun k => graph_Check.j0 k false n E) fun k => ?_).congr fun k => ?_
          · rw [graph_Check.j0, if_neg (by simp)]
          · rw [graph_Check.f, if_neg h1, if_neg h2, decide_eq_false h3]
        · refine (e2.step (g := fun k => compassref03_Check.j0 k false n E) fun k => ?_).congr fun k => ?_
          · rw [compassref03_Check.j0, if_neg (by simp)]
          · rw [compassref03_Check.f, if_neg h1, if_neg h2, decide_eq_false h3]

end Go.Proofs.Ytkdoihcjhccliaa.G
namespace Go.Proofs.Ytkdoihcjhccliaa.G
open Go.RowKit Go.Proofs.Ytkdoihcjhccliaa.Q Go.Proofs.YtkdoihcjhccliaaW.PrintWords Go.Proofs.YtkdoihcjhccliaaW.PrintLast
set_option linter.unusedVariables false

/-- What goes out of a node, less what comes in, on the first edges. -/
def net (E : List S98) (A : List Int) (v : Int) : Nat → Int
  | 0 => 0
  | i + 1 => net E A v i + (if (rd_T98 E i).f0 = v then rd A i else 0) - (if (rd_T98 E i).f1 = v then rd A i else 0)
/-- The capacity of the first edges that leave a side. -/
def cut (E : List S98) (B : List Bool) : Nat → Int
  | 0 => 0
  | i + 1 => cut E B i + (if rdOf false B (rd_T98 E i).f0 = true ∧ rdOf false B (rd_T98 E i).f1 = false then (rd_T98 E i).f2 else 0)
/-- Amounts that fit on the edges. -/
def Amts (E : List S98) (A : List Int) : Prop := ∀ i : Int, 0 ≤ i → i < (E.length : Int) → 0 ≤ rd A i ∧ rd A i ≤ (rd_T98 E i).f2
/-- Amounts that are labels. -/
def Labs (m : Nat) (A : List Int) : Prop := ∀ i : Int, 0 ≤ i → i < (m : Int) → 0 ≤ rd A i ∧ rd A i ≤ 1048576

theorem Amts.labs {n : Int} {E : List S98} {A : List Int} (R : Right n E) (h : Amts E A) : Labs E.length A := fun i h0 h1 => ⟨(h i h0 h1).1, Int.le_trans (h i h0 h1).2 (R.e i h0 h1).c1⟩

theorem net_le {E : List S98} {A : List Int} {v : Int} {m : Nat} (h : Labs m A) : ∀ i : Nat, i ≤ m → -(i * 1048576 : Int) ≤ net E A v i ∧ net E A v i ≤ (i * 1048576 : Int) := by
  intro i
  induction i with
  | zero => intro _; simp [net]
  | succ i ih =>
    intro hi
    have a := ih (by omega)
    have b := h (i : Int) (by omega) (by omega)
    simp only [net]
    push_cast
    split <;> split <;> omega
theorem cut_le {n : Int} {E : List S98} (R : Right n E) (B : List Bool) : ∀ i : Nat, i ≤ E.length → 0 ≤ cut E B i ∧ cut E B i ≤ (i * 1048576 : Int) := by
  intro i
  induction i with
  | zero => intro _; simp [cut]
  | succ i ih =>
    intro hi
    have a := ih (by omega)
    have b := R.e (i : Int) (by omega) (by omega)
    have c0 := b.c0
    have c1 := b.c1
    simp only [cut]
    push_cast
    split <;> omega
theorem wr {x : Int} (h0 : -9000000000000000000 ≤ x) (h : x ≤ 9000000000000000000) : wrap64 x = x := by unfold wrap64; omega

/-- out, in the document: some number; for labels what goes out. -/
theorem out_l0 (n : Int) (E : List S98) (A : List Int) (v : Int) (hm : (E.length : Int) ≤ 4096) (hA : A.length = E.length) (d : Nat) : ∀ (i : Nat) (x : Int), i + d = E.length →
    ∃ r : Int, Evl (fun k => compassref11_Out.l0 k A v x i n E) r ∧ (Labs E.length A → x = net E A v i → r = net E A v E.length) := by
  induction d with
  | zero =>
    intro i x hi
    refine ⟨x, Evl.here fun k => by rw [compassref11_Out.l0, if_neg (by omega)], fun _ h => by rw [h]; congr 1⟩
  | succ d ih =>
    intro i x hi
    have g : (i : Int) < (A.length : Int) := by omega
    have g2 : (i : Int) < (E.length : Int) := by omega
    have w : wrap64 ((i : Int) + 1) = ((i + 1 : Nat) : Int) := by rw [w1 (by omega) (by omega)]; rfl
    have key : ∀ y : Int, (Labs E.length A → x = net E A v i → y = net E A v (i + 1)) → (∀ k, compassref11_Out.l0 (k + 1) A v x i n E = compassref11_Out.l0 k A v y (wrap64 ((i : Int) + 1)) n E) →
        ∃ r : Int, Evl (fun k => compassref11_Out.l0 k A v x i n E) r ∧ (Labs E.length A → x = net E A v i → r = net E A v E.length) := by
      intro y hy he
      obtain ⟨r, h1, h2⟩ := ih (i + 1) y (by omega)
      refine ⟨r, h1.step fun k => ?_, fun hl hx => h2 hl (hy hl hx)⟩
      rw [← w]; exact he k
    by_cases c0 : (rd_T98 E i).f0 = v
    · by_cases c1 : (rd_T98 E i).f1 = v
      · refine key (wrap64 (wrap64 (x + rd A i) - rd A i)) (fun hl hx => ?_) fun k => by rw [compassref11_Out.l0, if_pos g, if_pos (by omega), if_pos g2, if_pos c0, if_pos c1]
        have a := net_le (E := E) (v := v) hl i (by omega)
        have b := hl i (by omega) g2
        rw [hx, wr (x := net E A v i + rd A i) (by omega) (by omega), wr (by omega) (by omega)]
        simp only [net]; rw [if_pos c0, if_pos c1]
      · refine key (wrap64 (x + rd A i)) (fun hl hx => ?_) fun k => by rw [compassref11_Out.l0, if_pos g, if_pos (by omega), if_pos g2, if_pos c0, if_neg c1]
        have a := net_le (E := E) (v := v) hl i (by omega)
        have b := hl i (by omega) g2
        rw [hx, wr (by omega) (by omega)]
        simp only [net]; rw [if_pos c0, if_neg c1]; omega
    · by_cases c1 : (rd_T98 E i).f1 = v
      · refine key (wrap64 (x - rd A i)) (fun hl hx => ?_) fun k => by rw [compassref11_Out.l0, if_pos g, if_pos (by omega), if_pos g2, if_neg c0, if_pos c1]
        have a := net_le (E := E) (v := v) hl i (by omega)
        have b := hl i (by omega) g2
        rw [hx, wr (by omega) (by omega)]
        simp only [net]; rw [if_neg c0, if_pos c1]; omega
      · refine key x (fun hl hx => ?_) fun k => by rw [compassref11_Out.l0, if_pos g, if_pos (by omega), if_pos g2, if_neg c0, if_neg c1]
        rw [hx]; simp only [net]; rw [if_neg c0, if_neg c1]; omega
theorem out_f (n : Int) (E : List S98) (A : List Int) (v : Int) (hm : (E.length : Int) ≤ 4096) (hA : A.length = E.length) : ∃ r : Int, Evl (fun k => compassref11_Out.f k n E A v) r ∧ (Labs E.length A → r = net E A v E.length) := by
  obtain ⟨r, h1, h2⟩ := out_l0 n E A v hm hA E.length 0 0 (by omega)
  exact ⟨r, h1.congr fun k => rfl, fun hl => h2 hl rfl⟩

theorem cut_l0 {n : Int} {E : List S98} (R : Right n E) {B : List Bool} (hB : (B.length : Int) = n) (d : Nat) : ∀ (i : Nat), i + d = E.length →
    Evl (fun k => compassref11_Cut.l0 k B (cut E B i) i n E) (cut E B E.length) ∧ Evl (fun k => proof_across.l0 k B (cut E B i) E E.length i) (0, cut E B E.length) := by
  have hm := R.m1
  induction d with
  | zero =>
    intro i hi
    have e : i = E.length := by omega
    refine ⟨Evl.here fun k => by rw [compassref11_Cut.l0, if_neg (by omega), e], Evl.here fun k => by rw [proof_across.l0, if_neg (by omega), e]⟩
  | succ d ih =>
    intro i hi
    have g2 : (i : Int) < (E.length : Int) := by omega
    have w : wrap64 ((i : Int) + 1) = ((i + 1 : Nat) : Int) := by rw [w1 (by omega) (by omega)]; rfl
    have e := R.e i (by omega) g2
    have f0 := e.a0
    have f1 : (rd_T98 E i).f0 < (B.length : Int) := by rw [hB]; exact e.a1
    have t0 := e.b0
    have t1 : (rd_T98 E i).f1 < (B.length : Int) := by rw [hB]; exact e.b1
    have c0 := e.c0
    have c1 := e.c1
    have b := cut_le R B i (by omega)
    obtain ⟨ih1, ih2⟩ := ih (i + 1) (by omega)
    simp only [cut] at ih1 ih2
    by_cases a0 : rdOf false B (rd_T98 E i).f0 = true
    · by_cases a1 : rdOf false B (rd_T98 E i).f1 = true
      · rw [if_neg (by rw [a1]; simp), Int.add_zero] at ih1 ih2
        exact ⟨ih1.step fun k => by rw [compassref11_Cut.l0, if_pos g2, if_pos (by omega), if_pos f0, if_pos f1, if_pos a0, if_pos t0, if_pos t1, if_pos a1, w],
          ih2.step fun k => by rw [proof_across.l0, if_pos g2, if_pos (by omega), if_pos g2, if_pos f0, if_pos f1, if_pos a0, if_pos t0, if_pos t1, if_pos a1, w]⟩
      · have z : wrap64 (cut E B i + (rd_T98 E i).f2) = cut E B i + (rd_T98 E i).f2 := wr (by omega) (by omega)
        rw [if_pos ⟨a0, by simpa using a1⟩] at ih1 ih2
        exact ⟨ih1.step fun k => by rw [compassref11_Cut.l0, if_pos g2, if_pos (by omega), if_pos f0, if_pos f1, if_pos a0, if_pos t0, if_pos t1, if_neg a1, w, z],
          ih2.step fun k => by rw [proof_across.l0, if_pos g2, if_pos (by omega), if_pos g2, if_pos f0, if_pos f1, if_pos a0, if_pos t0, if_pos t1, if_neg a1, w, z]⟩
    · rw [if_neg (fun h => a0 h.1), Int.add_zero] at ih1 ih2
      exact ⟨ih1.step fun k => by rw [compassref11_Cut.l0, if_pos g2, if_pos (by omega), if_pos f0, if_pos f1, if_neg a0, w],
        ih2.step fun k => by rw [proof_across.l0, if_pos g2, if_pos (by omega), if_pos g2, if_pos f0, if_pos f1, if_neg a0, w]⟩
theorem cut_f {n : Int} {E : List S98} (R : Right n E) {B : List Bool} (hB : (B.length : Int) = n) : Evl (fun k => compassref11_Cut.f k n E B) (cut E B E.length) :=
  (cut_l0 R hB E.length 0 (by omega)).1.congr fun k => rfl
theorem across_f {n : Int} {E : List S98} (R : Right n E) {B : List Bool} (hB : (B.length : Int) = n) : Evl (fun k => proof_across.f k n E B) (0, cut E B E.length) :=
  (cut_l0 R hB E.length 0 (by omega)).2.congr fun k => by rw [proof_across.f, if_pos hB]; rfl
theorem across_no {n : Int} {E : List S98} {B : List Bool} (hB : (B.length : Int) ≠ n) : Evl (fun k => proof_across.f k n E B) (221, 0) :=
  Evl.pure.congr fun k => by rw [proof_across.f, if_neg hB]

/-- carried: where the amounts fit, what goes out of each node. -/
theorem carried_l0 {n : Int} {E : List S98} (R : Right n E) {A : List Int} (hA : A.length = E.length) (d : Nat) : ∀ (i : Nat) (O : List Int), i + d = E.length → (O.length : Int) = n →
    (∀ j : Int, 0 ≤ j → j < (i : Int) → 0 ≤ rd A j ∧ rd A j ≤ (rd_T98 E j).f2) → (∀ v : Int, 0 ≤ v → v < n → rd O v = net E A v i) →
    ∃ r : Int × List Int, Evl (fun k => proof_carried.l0 k A O E E.length i) r ∧ (Amts E A → r.1 = 0 ∧ (r.2.length : Int) = n ∧ ∀ v : Int, 0 ≤ v → v < n → rd r.2 v = net E A v E.length) ∧ (¬ Amts E A → r = (221, [])) := by
  have hm := R.m1
  induction d with
  | zero =>
    intro i O hi hO hP hN
    have e : i = E.length := by omega
    refine ⟨(0, O), Evl.here fun k => by rw [proof_carried.l0, if_neg (by omega)], fun _ => ⟨rfl, hO, fun v a b => by rw [hN v a b, e]⟩, fun h => absurd (fun j a b => hP j a (by omega)) h⟩
  | succ d ih =>
    intro i O hi hO hP hN
    have g2 : (i : Int) < (E.length : Int) := by omega
    have g : (i : Int) < (A.length : Int) := by omega
    have w : wrap64 ((i : Int) + 1) = ((i + 1 : Nat) : Int) := by rw [w1 (by omega) (by omega)]; rfl
    have e := R.e i (by omega) g2
    have f0 := e.a0
    have f1 : (rd_T98 E i).f0 < (O.length : Int) := by rw [hO]; exact e.a1
    have t0 := e.b0
    have t1' := e.b1
    by_cases a0 : rd A i ≥ 0
    · by_cases a1 : rd A i ≤ (rd_T98 E i).f2
      · have t1 : (rd_T98 E i).f1 < ((O.set (rd_T98 E i).f0.toNat (wrap64 (rd O (rd_T98 E i).f0 + rd A i))).length : Int) := by rw [List.length_set, hO]; exact t1'
        have t1o : (rd_T98 E i).f1 < (O.length : Int) := by rw [hO]; exact t1'
        have hl : ∀ j : Int, 0 ≤ j → j < ((i + 1 : Nat) : Int) → 0 ≤ rd A j ∧ rd A j ≤ (rd_T98 E j).f2 := fun j h0 h1 => by
          by_cases q : j = i
          · rw [q]; exact ⟨a0, a1⟩
          · exact hP j h0 (by omega)
        have hlab : Labs i A := fun j h0 h1 => ⟨(hP j h0 h1).1, Int.le_trans (hP j h0 h1).2 (R.e j h0 (by omega)).c1⟩
        have c1 := e.c1
        have hstep : ∀ v : Int, 0 ≤ v → v < n → rd (((O.set (rd_T98 E i).f0.toNat (wrap64 (rd O (rd_T98 E i).f0 + rd A i)))).set (rd_T98 E i).f1.toNat (wrap64 (rd (O.set (rd_T98 E i).f0.toNat (wrap64 (rd O (rd_T98 E i).f0 + rd A i))) (rd_T98 E i).f1 - rd A i))) v = net E A v (i + 1) := by
          intro v v0 v1
          rw [rd_set _ _ _ _ t0 t1 v0, rd_set _ _ _ _ f0 f1 v0, rd_set _ _ _ _ f0 f1 t0]
          have b0 := net_le (E := E) (v := v) hlab i (Nat.le_refl _)
          have bf := net_le (E := E) (v := (rd_T98 E i).f0) hlab i (Nat.le_refl _)
          have bt := net_le (E := E) (v := (rd_T98 E i).f1) hlab i (Nat.le_refl _)
          have of := hN (rd_T98 E i).f0 f0 (by omega)
          have ot := hN (rd_T98 E i).f1 t0 t1'
          have ov := hN v v0 v1
          simp only [net]
          by_cases q1 : v = (rd_T98 E i).f1
          · rw [if_pos q1, if_pos q1.symm]
            by_cases q0 : (rd_T98 E i).f1 = (rd_T98 E i).f0
            · rw [if_pos q0, if_pos (by omega), of, wr (x := net E A (rd_T98 E i).f0 i + rd A i) (by omega) (by omega), wr (by omega) (by omega), q1, q0]
            · rw [if_neg q0, if_neg (by omega), ot, wr (by omega) (by omega), q1]; omega
          · rw [if_neg q1, if_neg (show ¬ (rd_T98 E i).f1 = v from fun h => q1 h.symm)]
            by_cases q0 : v = (rd_T98 E i).f0
            · rw [if_pos q0, if_pos q0.symm, of, wr (by omega) (by omega), q0]; omega
            · rw [if_neg q0, if_neg (show ¬ (rd_T98 E i).f0 = v from fun h => q0 h.symm), ov]; omega
        obtain ⟨r, h1, h2⟩ := ih (i + 1) _ (by omega) (by rw [List.length_set, List.length_set]; exact hO) hl hstep
        refine ⟨r, h1.step fun k => ?_, h2⟩
        rw [proof_carried.l0, if_pos g2, if_pos (by omega), if_pos g2, if_pos g, if_pos a0, if_pos a1, if_pos f0, if_pos f1, Option.bind_some, if_pos t0, if_pos t1o, w]
      · refine ⟨(221, []), Evl.here fun k => by rw [proof_carried.l0, if_pos g2, if_pos (by omega), if_pos g2, if_pos g, if_pos a0, if_neg a1], fun h => absurd (h i (by omega) g2).2 a1, fun _ => rfl⟩
    · refine ⟨(221, []), Evl.here fun k => by rw [proof_carried.l0, if_pos g2, if_pos (by omega), if_pos g2, if_pos g, if_neg a0], fun h => absurd (h i (by omega) g2).1 a0, fun _ => rfl⟩
theorem carried_f {n : Int} {E : List S98} (R : Right n E) {A : List Int} : ∃ r : Int × List Int, Evl (fun k => proof_carried.f k n E A) r ∧
    (A.length = E.length ∧ Amts E A → r.1 = 0 ∧ (r.2.length : Int) = n ∧ ∀ v : Int, 0 ≤ v → v < n → rd r.2 v = net E A v E.length) ∧ (¬ (A.length = E.length ∧ Amts E A) → r = (221, [])) := by
  have n0 := R.n0
  have n1 := R.n1
  by_cases h : A.length = E.length
  · obtain ⟨r, h1, h2, h3⟩ := carried_l0 R h E.length 0 (List.replicate n.toNat 0) (by omega) (by rw [List.length_replicate]; omega) (fun j a b => by omega) (fun v a b => by rw [rd_replicate _ _ _ a (by omega)]; rfl)
    refine ⟨r, h1.congr fun k => ?_, fun q => h2 q.2, fun q => h3 fun z => q ⟨h, z⟩⟩
    rw [proof_carried.f, if_pos (by omega), if_pos n0, if_pos (by omega)]; rfl
  · exact ⟨(221, []), Evl.pure.congr fun k => by rw [proof_carried.f, if_neg (by omega)], fun q => absurd q.1 h, fun _ => rfl⟩

/-- Fits, in the document. -/
theorem fits_l1 {n : Int} {E : List S98} (R : Right n E) {A S : List Int} (hA : A.length = E.length) (hL : Labs E.length A) (hS : (S.length : Int) = n) (d : Nat) : ∀ (i : Nat), ((i + d : Nat) : Int) = n →
    ∃ b : Bool, Evl (fun k => compassref11_Fits.l1 k A S i n E) b ∧ (b = true ↔ ∀ v : Int, (i : Int) ≤ v → v < n → net E A v E.length = rd S v) := by
  have n1 := R.n1
  induction d with
  | zero => intro i hi; exact ⟨true, Evl.here fun k => by rw [compassref11_Fits.l1, if_neg (by omega)], fun _ v a b => by omega, fun _ => rfl⟩
  | succ d ih =>
    intro i hi
    have g : (i : Int) < n := by omega
    have w : wrap64 ((i : Int) + 1) = ((i + 1 : Nat) : Int) := by rw [w1 (by omega) (by omega)]; rfl
    obtain ⟨r, h1, h2⟩ := out_f n E A i R.m1 hA
    have hr := h2 hL
    subst hr
    by_cases c : net E A i E.length = rd S i
    · obtain ⟨b, e1, e2⟩ := ih (i + 1) (by omega)
      refine ⟨b, (Evl.bind (h := fun k t => if 0 ≤ (i : Int) then (if (i : Int) < (S.length : Int) then (if t = rd S i then compassref11_Fits.l1 k A S (wrap64 ((i : Int) + 1)) n E else some false) else none) else none) h1 (e1.congr fun k => by rw [if_pos (by omega), if_pos (by omega), if_pos c, w])).step fun k => by rw [compassref11_Fits.l1, if_pos g], e2.trans ⟨fun h v a b => ?_, fun h v a b => h v (by omega) b⟩⟩
      by_cases q : v = i
      · rw [q]; exact c
      · exact h v (by omega) b
    · refine ⟨false, (Evl.bind (h := fun k t => if 0 ≤ (i : Int) then (if (i : Int) < (S.length : Int) then (if t = rd S i then compassref11_Fits.l1 k A S (wrap64 ((i : Int) + 1)) n E else some false) else none) else none) h1 (Evl.pure.congr fun k => by rw [if_pos (by omega), if_pos (by omega), if_neg c])).step fun k => by rw [compassref11_Fits.l1, if_pos g], fun h => (by cases h), fun h => absurd (h i (by omega) g) c⟩
theorem fits_l0 {n : Int} {E : List S98} (R : Right n E) {A S : List Int} (hA : A.length = E.length) (hS : (S.length : Int) = n) (d : Nat) : ∀ (i : Nat), i + d = E.length →
    (∀ j : Int, 0 ≤ j → j < (i : Int) → 0 ≤ rd A j ∧ rd A j ≤ (rd_T98 E j).f2) →
    ∃ b : Bool, Evl (fun k => compassref11_Fits.l0 k A S i n E) b ∧ (b = true ↔ Amts E A ∧ ∀ v : Int, 0 ≤ v → v < n → net E A v E.length = rd S v) := by
  have hm := R.m1
  have n0 := R.n0
  induction d with
  | zero =>
    intro i hi hP
    have am : Amts E A := fun j a b => hP j a (by omega)
    obtain ⟨b, e1, e2⟩ := fits_l1 R hA (am.labs R) hS n.toNat 0 (by omega)
    refine ⟨b, e1.step fun k => by rw [compassref11_Fits.l0, if_neg (by omega)]; rfl, e2.trans ⟨fun h => ⟨am, fun v a b => h v (by omega) b⟩, fun h v a b => h.2 v (by omega) b⟩⟩
  | succ d ih =>
    intro i hi hP
    have g2 : (i : Int) < (E.length : Int) := by omega
    have g : (i : Int) < (A.length : Int) := by omega
    have w : wrap64 ((i : Int) + 1) = ((i + 1 : Nat) : Int) := by rw [w1 (by omega) (by omega)]; rfl
    by_cases a0 : rd A i < 0
    · exact ⟨false, Evl.here fun k => by rw [compassref11_Fits.l0, if_pos g, if_pos (by omega), if_pos a0], fun h => (by cases h), fun h => absurd (h.1 i (by omega) g2).1 (by omega)⟩
    · by_cases a1 : rd A i > (rd_T98 E i).f2
      · exact ⟨false, Evl.here fun k => by rw [compassref11_Fits.l0, if_pos g, if_pos (by omega), if_neg a0, if_pos g2, if_pos a1], fun h => (by cases h), fun h => absurd (h.1 i (by omega) g2).2 (by omega)⟩
      · obtain ⟨b, e1, e2⟩ := ih (i + 1) (by omega) (fun j h0 h1 => by
          by_cases q : j = i
          · rw [q]; exact ⟨by omega, by omega⟩
          · exact hP j h0 (by omega))
        exact ⟨b, e1.step fun k => by rw [compassref11_Fits.l0, if_pos g, if_pos (by omega), if_neg a0, if_pos g2, if_neg a1, w], e2⟩
theorem fits_f {n : Int} {E : List S98} (R : Right n E) {A S : List Int} (hS : (S.length : Int) = n) :
    ∃ b : Bool, Evl (fun k => compassref11_Fits.f k n E A S) b ∧ (b = true ↔ (A.length = E.length ∧ Amts E A) ∧ ∀ v : Int, 0 ≤ v → v < n → net E A v E.length = rd S v) := by
  by_cases h : A.length = E.length
  · obtain ⟨b, e1, e2⟩ := fits_l0 R h hS E.length 0 (by omega) (fun j a b => by omega)
    exact ⟨b, e1.congr fun k => by rw [compassref11_Fits.f, if_pos (by omega)]; rfl, e2.trans ⟨fun z => ⟨⟨h, z.1⟩, z.2⟩, fun z => ⟨z.1.2, z.2⟩⟩⟩
  · exact ⟨false, Evl.pure.congr fun k => by rw [compassref11_Fits.f, if_neg (by omega)], fun z => (by cases z), fun z => absurd z.1.1 h⟩

/-- Over all nodes what goes out comes in. -/
def tot (E : List S98) (A : List Int) (i : Nat) : Nat → Int
  | 0 => 0
  | v + 1 => tot E A i v + net E A v i
theorem tot_zero (E : List S98) (A : List Int) (v : Nat) : tot E A 0 v = 0 := by
  induction v with
  | zero => rfl
  | succ v ih => simp only [tot, net, ih]; rfl
theorem tot_step (E : List S98) (A : List Int) (i : Nat) (f0 : 0 ≤ (rd_T98 E i).f0) (t0 : 0 ≤ (rd_T98 E i).f1) (v : Nat) : tot E A (i + 1) v = tot E A i v + (if (rd_T98 E i).f0 < v then rd A i else 0) - (if (rd_T98 E i).f1 < v then rd A i else 0) := by
  induction v with
  | zero => simp only [tot]; rw [if_neg (by omega), if_neg (by omega)]; omega
  | succ v ih =>
    simp only [tot, net, ih]
    push_cast
    generalize rd A i = x
    generalize (rd_T98 E i).f0 = p
    generalize (rd_T98 E i).f1 = q
    generalize net E A v i = z
    generalize tot E A i v = y
    (repeat' split) <;> omega
theorem tot_none {n : Int} {E : List S98} (R : Right n E) (A : List Int) : ∀ i : Nat, i ≤ E.length → tot E A i n.toNat = 0 := by
  have n0 := R.n0
  intro i
  induction i with
  | zero => intro _; exact tot_zero E A _
  | succ i ih =>
    intro hi
    have e := R.e i (by omega) (by omega)
    rw [tot_step E A i e.a0 e.b0, ih (by omega), if_pos (by have := e.a1; omega), if_pos (by have := e.b1; omega)]; omega
theorem tot_two (E : List S98) (A : List Int) (i : Nat) (s t : Int) (hst : s ≠ t) (s0 : 0 ≤ s) (t0 : 0 ≤ t) (v : Nat) (hv : ∀ u : Int, 0 ≤ u → u < v → u ≠ s → u ≠ t → net E A u i = 0) : tot E A i v = (if s < v then net E A s i else 0) + (if t < v then net E A t i else 0) := by
  induction v with
  | zero => simp only [tot]; rw [if_neg (by omega), if_neg (by omega)]; rfl
  | succ v ih =>
    rw [tot, ih fun u a b => hv u a (by omega)]
    push_cast
    have hz : (v : Int) ≠ s → (v : Int) ≠ t → net E A v i = 0 := fun a b => hv v (by omega) (by omega) a b
    by_cases a : (v : Int) = s
    · subst a
      generalize net E A v i = z
      generalize net E A t i = y
      (repeat' split) <;> omega
    · by_cases b : (v : Int) = t
      · subst b
        generalize net E A v i = z
        generalize net E A s i = y
        (repeat' split) <;> omega
      · rw [hz a b]
        generalize net E A s i = y
        generalize net E A t i = z
        (repeat' split) <;> omega
end Go.Proofs.Ytkdoihcjhccliaa.G
namespace Go.Proofs.Ytkdoihcjhccliaa.G
open Go.RowKit Go.Proofs.Ytkdoihcjhccliaa.Q Go.Proofs.YtkdoihcjhccliaaW.PrintWords Go.Proofs.YtkdoihcjhccliaaW.PrintLast
set_option linter.unusedVariables false
/-- A set of nodes that no edge leaves or enters. -/
def Closed (E : List S98) (X : Int → Prop) : Prop := ∀ i, 0 ≤ i → i < (E.length : Int) → (X (rd_T98 E i).f0 ↔ X (rd_T98 E i).f1)
def Conn (E : List S98) (u v : Int) : Prop := ∀ X, Closed E X → (X u ↔ X v)
def rng (m : Nat) : List Int := (List.range m).map Int.ofNat
theorem mem_rng (m : Nat) (x : Int) : x ∈ rng m ↔ 0 ≤ x ∧ x < (m : Int) := by
  unfold rng
  rw [List.mem_map]
  constructor
  · rintro ⟨i, hi, rfl⟩
    rw [List.mem_range] at hi
    exact ⟨Int.natCast_nonneg i, Int.ofNat_lt.mpr hi⟩
  · rintro ⟨h0, h1⟩
    exact ⟨x.toNat, List.mem_range.mpr (by omega), by show ((x.toNat : Nat) : Int) = x; omega⟩
theorem len_rng (m : Nat) : (rng m).length = m := by unfold rng; rw [List.length_map, List.length_range]
theorem nodup_rng (m : Nat) : (rng m).Nodup := by
  unfold rng
  refine List.pairwise_map.mpr (List.Pairwise.imp (fun {a b} h e => h (Int.ofNat.inj e)) List.nodup_range)
end Go.Proofs.Ytkdoihcjhccliaa.G
namespace Go.Proofs.Ytkdoihcjhccliaa.G
open Go.RowKit Go.Proofs.Ytkdoihcjhccliaa.Q Go.Proofs.YtkdoihcjhccliaaW.PrintWords Go.Proofs.YtkdoihcjhccliaaW.PrintLast
set_option linter.unusedVariables false

/-- A graph of n nodes whose costs are at most C, either way. -/
structure Gr (n : Int) (E : List S98) (C : Int) : Prop where
  n0 : 0 ≤ n
  n1 : n ≤ 1100
  m1 : (E.length : Int) ≤ 10000
  c0 : 0 ≤ C
  c1 : C ≤ 134217728
  e : ∀ i : Int, 0 ≤ i → i < (E.length : Int) → (0 ≤ (rd_T98 E i).f0 ∧ (rd_T98 E i).f0 < n) ∧ (0 ≤ (rd_T98 E i).f1 ∧ (rd_T98 E i).f1 < n) ∧ -C ≤ (rd_T98 E i).f3 ∧ (rd_T98 E i).f3 ≤ C

/-- One edge, the first edges, rounds over all edges. -/
def rlx (E : List S98) (D : List Int) (j : Nat) : List Int := if rd D (rd_T98 E j).f0 + (rd_T98 E j).f3 < rd D (rd_T98 E j).f1 then D.set (rd_T98 E j).f1.toNat (rd D (rd_T98 E j).f0 + (rd_T98 E j).f3) else D
def pas (E : List S98) (D : List Int) : Nat → List Int
  | 0 => D
  | i + 1 => rlx E (pas E D i) i
def rnd (n : Int) (E : List S98) : Nat → List Int
  | 0 => List.replicate n.toNat 0
  | r + 1 => pas E (rnd n E r) E.length

theorem rlx_len (E : List S98) (D : List Int) (j : Nat) : (rlx E D j).length = D.length := by unfold rlx; split; rw [List.length_set]; rfl
theorem pas_len (E : List S98) (D : List Int) : ∀ i, (pas E D i).length = D.length
  | 0 => rfl
  | i + 1 => by rw [pas, rlx_len, pas_len E D i]
theorem rnd_len (n : Int) (E : List S98) : ∀ r, (rnd n E r).length = n.toNat
  | 0 => List.length_replicate
  | r + 1 => by rw [rnd, pas_len, rnd_len n E r]
theorem rlx_rd {n : Int} {E : List S98} {C : Int} (g : Gr n E C) {D : List Int} (hD : (D.length : Int) = n) {j : Nat} (hj : j < E.length) (v : Int) (v0 : 0 ≤ v) :
    rd (rlx E D j) v = if rd D (rd_T98 E j).f0 + (rd_T98 E j).f3 < rd D (rd_T98 E j).f1 ∧ v = (rd_T98 E j).f1 then rd D (rd_T98 E j).f0 + (rd_T98 E j).f3 else rd D v := by
  obtain ⟨-, ⟨b0, b1⟩, -⟩ := g.e j (by omega) (by omega)
  unfold rlx
  by_cases q : rd D (rd_T98 E j).f0 + (rd_T98 E j).f3 < rd D (rd_T98 E j).f1
  · rw [if_pos q, rd_set _ _ _ _ b0 (by omega) v0]
    by_cases z : v = (rd_T98 E j).f1
    · rw [if_pos z, if_pos ⟨q, z⟩]
    · rw [if_neg z, if_neg fun h => z h.2]
  · rw [if_neg q, if_neg fun h => q h.1]
theorem rlx_le {n : Int} {E : List S98} {C : Int} (g : Gr n E C) {D : List Int} (hD : (D.length : Int) = n) {j : Nat} (hj : j < E.length) (v : Int) (v0 : 0 ≤ v) : rd (rlx E D j) v ≤ rd D v := by
  rw [rlx_rd g hD hj v v0]
  split
  · rename_i h; rw [h.2]; omega
  · exact Int.le_refl _
theorem pas_le {n : Int} {E : List S98} {C : Int} (g : Gr n E C) {D : List Int} (hD : (D.length : Int) = n) (v : Int) (v0 : 0 ≤ v) : ∀ i, i ≤ E.length → rd (pas E D i) v ≤ rd D v
  | 0, _ => Int.le_refl _
  | i + 1, h => by
    have a := pas_le g hD v v0 i (by omega)
    have b := rlx_le g (D := pas E D i) (by rw [pas_len]; exact hD) (j := i) (by omega) v v0
    rw [pas]; omega
theorem pas_rel {n : Int} {E : List S98} {C : Int} (g : Gr n E C) {D : List Int} (hD : (D.length : Int) = n) : ∀ i, i ≤ E.length → ∀ j : Nat, j < i → rd (pas E D i) (rd_T98 E j).f1 ≤ rd D (rd_T98 E j).f0 + (rd_T98 E j).f3
  | 0, _, j, h => by omega
  | i + 1, hi, j, h => by
    obtain ⟨⟨a0, a1⟩, ⟨b0, b1⟩, -⟩ := g.e j (by omega) (by omega)
    have hl : ((pas E D i).length : Int) = n := by rw [pas_len]; exact hD
    by_cases q : j = i
    · subst q
      have a := pas_le g hD _ a0 j (by omega)
      rw [pas, rlx_rd g hl (by omega) _ b0]
      by_cases z : rd (pas E D j) (rd_T98 E j).f0 + (rd_T98 E j).f3 < rd (pas E D j) (rd_T98 E j).f1
      · rw [if_pos ⟨z, rfl⟩]; omega
      · rw [if_neg fun h => z h.1]; omega
    · have a := pas_rel g hD i (by omega) j (by omega)
      have b := rlx_le g hl (j := i) (by omega) _ b0
      rw [pas]; omega
theorem rnd_hi {n : Int} {E : List S98} {C : Int} (g : Gr n E C) (v : Int) (v0 : 0 ≤ v) (v1 : v < n) : ∀ r, rd (rnd n E r) v ≤ 0
  | 0 => by rw [rnd, rd_replicate _ _ _ v0 (by omega)]; exact Int.le_refl _
  | r + 1 => by
    have n0 := g.n0
    have a := pas_le g (D := rnd n E r) (by rw [rnd_len]; omega) v v0 E.length (Nat.le_refl _)
    have := rnd_hi g v v0 v1 r
    rw [rnd]; omega
theorem pas_lo {n : Int} {E : List S98} {C : Int} (g : Gr n E C) {D : List Int} (hD : (D.length : Int) = n) {T : Nat} (h : ∀ v : Int, 0 ≤ v → v < n → -((T : Int) * C) ≤ rd D v) : ∀ i, i ≤ E.length → ∀ v : Int, 0 ≤ v → v < n → -(((T + i : Nat) : Int) * C) ≤ rd (pas E D i) v
  | 0, _, v, v0, v1 => h v v0 v1
  | i + 1, hi, v, v0, v1 => by
    obtain ⟨⟨a0, a1⟩, ⟨b0, b1⟩, d0, d1⟩ := g.e i (by omega) (by omega)
    have c0 := g.c0
    have hl : ((pas E D i).length : Int) = n := by rw [pas_len]; exact hD
    have a := pas_lo g hD h i (by omega) v v0 v1
    have b := pas_lo g hD h i (by omega) _ a0 a1
    have e : (((T + (i + 1) : Nat) : Int)) * C = ((T + i : Nat) : Int) * C + C := by rw [← Nat.add_assoc, Int.natCast_add, Int.add_mul]; simp
    rw [e, pas, rlx_rd g hl (by omega) v v0]
    split <;> omega
theorem rnd_lo {n : Int} {E : List S98} {C : Int} (g : Gr n E C) : ∀ (r : Nat) (v : Int), 0 ≤ v → v < n → -(((r * E.length : Nat) : Int) * C) ≤ rd (rnd n E r) v
  | 0, v, v0, v1 => by rw [rnd, rd_replicate _ _ _ v0 (by omega), Nat.zero_mul]; simp
  | r + 1, v, v0, v1 => by
    have n0 := g.n0
    have a := pas_lo g (D := rnd n E r) (by rw [rnd_len]; omega) (T := r * E.length) (rnd_lo g r) E.length (Nat.le_refl _) v v0 v1
    rw [rnd, Nat.succ_mul]; exact a
/-- No sum of a round leaves the machine's numbers. -/
theorem step_big {n : Int} {E : List S98} {C : Int} (g : Gr n E C) {r i : Nat} (hr : (r : Int) ≤ n) (hi : i ≤ E.length) : ((r * E.length + i : Nat) : Int) * C ≤ 1500000000000000 := by
  have n1 := g.n1
  have m1 := g.m1
  have c0 := g.c0
  have c1 := g.c1
  have a : r * E.length ≤ 1100 * 10000 := Nat.mul_le_mul (by omega) (by omega)
  have b : ((r * E.length + i : Nat) : Int) * C ≤ (11010000 : Int) * 134217728 := Int.mul_le_mul (by omega) c1 c0 (by decide)
  omega

/-- A walk of k edges from u to v, and what it costs. -/
inductive Walk (E : List S98) (u : Int) : Int → Nat → Int → Prop
  | nil : Walk E u u 0 0
  | cons {k : Nat} {c i : Int} : 0 ≤ i → i < (E.length : Int) → Walk E u (rd_T98 E i).f0 k c → Walk E u (rd_T98 E i).f1 (k + 1) (c + (rd_T98 E i).f3)
theorem Walk.front {E : List S98} {u v : Int} {k : Nat} {c i : Int} (w : Walk E u v k c) (i0 : 0 ≤ i) (i1 : i < (E.length : Int)) (hu : u = (rd_T98 E i).f1) : Walk E (rd_T98 E i).f0 v (k + 1) (c + (rd_T98 E i).f3) := by
  induction w with
  | nil => rw [hu, Int.zero_add]; have := Walk.cons (u := (rd_T98 E i).f0) i0 i1 Walk.nil; rw [Int.zero_add] at this; exact this
  | @cons k c j j0 j1 w ih =>
    have := Walk.cons j0 j1 ih
    rw [show c + (rd_T98 E j).f3 + (rd_T98 E i).f3 = c + (rd_T98 E i).f3 + (rd_T98 E j).f3 by omega]
    exact this
theorem rnd_walk {n : Int} {E : List S98} {C : Int} (g : Gr n E C) {u : Int} (u0 : 0 ≤ u) (u1 : u < n) {v : Int} {k : Nat} {c : Int} (w : Walk E u v k c) : ∀ r : Nat, k ≤ r → rd (rnd n E r) v ≤ c := by
  induction w with
  | nil => intro r _; exact rnd_hi g u u0 u1 r
  | @cons k c j j0 j1 w ih =>
    intro r hr
    obtain ⟨r, rfl⟩ : ∃ q, r = q + 1 := ⟨r - 1, by omega⟩
    have n0 := g.n0
    have a := ih r (by omega)
    have b := pas_rel g (D := rnd n E r) (by rw [rnd_len]; omega) E.length (Nat.le_refl _) j.toNat (by omega)
    rw [show ((j.toNat : Nat) : Int) = j by omega] at b
    rw [rnd]; omega

/-- Whence each node got what it has: by an edge from one that had it before (tau: when). -/
def Via (n : Int) (E : List S98) (D P : List Int) (tau : Int → Nat) (T : Nat) : Prop := ∀ v : Int, 0 ≤ v → v < n → (tau v = 0 ∧ rd D v = 0) ∨
  (0 < tau v ∧ tau v ≤ T ∧ 0 ≤ rd P v ∧ rd P v < (E.length : Int) ∧ (rd_T98 E (rd P v)).f1 = v ∧ rd D (rd_T98 E (rd P v)).f0 + (rd_T98 E (rd P v)).f3 ≤ rd D v ∧ (rd D (rd_T98 E (rd P v)).f0 + (rd_T98 E (rd P v)).f3 = rd D v → tau (rd_T98 E (rd P v)).f0 < tau v))
theorem Via.stay {n : Int} {E : List S98} {D P : List Int} {tau : Int → Nat} {T : Nat} (h : Via n E D P tau T) : Via n E D P tau (T + 1) := fun v v0 v1 => by
  rcases h v v0 v1 with a | ⟨a1, a2, a3⟩
  · exact Or.inl a
  · exact Or.inr ⟨a1, by omega, a3⟩
theorem Via.move {n : Int} {E : List S98} {C : Int} (g : Gr n E C) {D P : List Int} {tau : Int → Nat} {T : Nat} (h : Via n E D P tau T) (hD : (D.length : Int) = n) (hP : (P.length : Int) = n) {j : Nat} (hj : j < E.length)
    (q : rd D (rd_T98 E j).f0 + (rd_T98 E j).f3 < rd D (rd_T98 E j).f1) : Via n E (rlx E D j) (P.set (rd_T98 E j).f1.toNat j) (fun v => if v = (rd_T98 E j).f1 then T + 1 else tau v) (T + 1) := by
  obtain ⟨⟨a0, a1⟩, ⟨b0, b1⟩, -⟩ := g.e j (by omega) (by omega)
  intro v v0 v1
  have rp : rd (P.set (rd_T98 E j).f1.toNat (j : Int)) v = if v = (rd_T98 E j).f1 then (j : Int) else rd P v := rd_set _ _ _ _ b0 (by omega) v0
  have rd1 : ∀ u : Int, 0 ≤ u → rd (rlx E D j) u = if u = (rd_T98 E j).f1 then rd D (rd_T98 E j).f0 + (rd_T98 E j).f3 else rd D u := fun u u0 => by
    rw [rlx_rd g hD hj u u0]
    by_cases z : u = (rd_T98 E j).f1
    · rw [if_pos ⟨q, z⟩, if_pos z]
    · rw [if_neg fun h => z h.2, if_neg z]
  by_cases z : v = (rd_T98 E j).f1
  · have rz : rd (P.set (rd_T98 E j).f1.toNat (j : Int)) v = j := by rw [rp, if_pos z]
    rw [rz]
    right
    refine ⟨?_, ?_, by omega, by omega, z.symm, ?_, ?_⟩
    · show 0 < (if v = _ then _ else _); rw [if_pos z]; omega
    · show (if v = _ then _ else _) ≤ _; rw [if_pos z]; omega
    · rw [rd1 _ a0, rd1 v v0, if_pos z]
      by_cases y : (rd_T98 E j).f0 = (rd_T98 E j).f1
      · rw [if_pos y]; rw [y] at q ⊢; omega
      · rw [if_neg y]; exact Int.le_refl _
    · rw [rd1 _ a0, rd1 v v0, if_pos z]
      intro e
      show (if (rd_T98 E j).f0 = _ then _ else _) < (if v = _ then _ else _)
      rw [if_pos z]
      by_cases y : (rd_T98 E j).f0 = (rd_T98 E j).f1
      · rw [if_pos y, y] at e; rw [y] at q; omega
      · rw [if_neg y]
        rcases h _ a0 a1 with t | t
        · omega
        · omega
  · have rz : rd (P.set (rd_T98 E j).f1.toNat (j : Int)) v = rd P v := by rw [rp, if_neg z]
    rw [rz]
    show ((if v = _ then _ else _) = 0 ∧ _) ∨ (0 < (if v = _ then _ else _) ∧ (if v = _ then _ else _) ≤ _ ∧ _)
    rw [if_neg z, rd1 v v0, if_neg z]
    rcases h v v0 v1 with a | ⟨c1, c2, c3, c4, c5, c6, c7⟩
    · exact Or.inl a
    · obtain ⟨⟨f0, f1⟩, -, -⟩ := g.e _ c3 c4
      refine Or.inr ⟨c1, by omega, c3, c4, c5, ?_, ?_⟩
      · rw [rd1 _ f0]; split
        · rename_i y; rw [y] at c6; omega
        · exact c6
      · rw [rd1 _ f0]
        show _ → (if _ = _ then _ else _) < (if v = _ then _ else _)
        rw [if_neg z]
        by_cases y : (rd_T98 E (rd P v)).f0 = (rd_T98 E j).f1
        · rw [if_pos y]; rw [y] at c6; intro e; omega
        · rw [if_neg y, if_neg y]; exact c7

/-- What the last round left: nothing was changed, or some node came down. -/
def Last (n : Int) (D0 D : List Int) (tau : Int → Nat) (l : Int) : Prop := (l = -1 ∧ D = D0) ∨ (0 ≤ l ∧ l < n ∧ rd D l < rd D0 l ∧ 0 < tau l)

theorem pas_ws {n : Int} {E : List S98} {C : Int} (g : Gr n E C) {r i : Nat} (hr : (r : Int) ≤ n) (hi : i < E.length) : wrap64 (rd (pas E (rnd n E r) i) (rd_T98 E i).f0 + (rd_T98 E i).f3) = rd (pas E (rnd n E r) i) (rd_T98 E i).f0 + (rd_T98 E i).f3 := by
  have n0 := g.n0
  have c1 := g.c1
  have hD0 : ((rnd n E r).length : Int) = n := by rw [rnd_len]; omega
  obtain ⟨⟨a0, a1⟩, -, d0, d1⟩ := g.e i (by omega) (by omega)
  have lo := pas_lo g hD0 (rnd_lo g r) i (Nat.le_of_lt hi) _ a0 a1
  have sb := step_big g hr (i := i) (Nat.le_of_lt hi)
  have hi0 := pas_le g hD0 _ a0 i (Nat.le_of_lt hi)
  have hi1 := rnd_hi g _ a0 a1 r
  generalize ((r * E.length + i : Nat) : Int) * C = z at lo sb
  exact wr (by omega) (by omega)

theorem below_l1 {n : Int} {E : List S98} {C : Int} (g : Gr n E C) {r : Nat} (hr : (r : Int) ≤ n) (d : Nat) : ∀ (i : Nat) (P : List Int) (tau : Int → Nat) (l : Int), i + d = E.length → (P.length : Int) = n → Via n E (pas E (rnd n E r) i) P tau (r * E.length + i) → Last n (rnd n E r) (pas E (rnd n E r) i) tau l →
    ∃ (P' : List Int) (tau' : Int → Nat) (l' : Int), (P'.length : Int) = n ∧ Via n E (rnd n E (r + 1)) P' tau' ((r + 1) * E.length) ∧ Last n (rnd n E r) (rnd n E (r + 1)) tau' l' ∧
      ∀ z, Evl (fun k => compassref11_Below.l0 k (rnd n E (r + 1)) P' l' ((r : Int) + 1) n E) z → Evl (fun k => compassref11_Below.l1 k (pas E (rnd n E r) i) P l r i n E) z := by
  have n0 := g.n0
  have n1 := g.n1
  have m1 := g.m1
  have c1 := g.c1
  induction d with
  | zero =>
    intro i P tau l hi hP V hl
    have e : i = E.length := by omega
    subst e
    refine ⟨P, tau, l, hP, by rw [Nat.succ_mul]; exact V, hl, fun z hz => hz.step fun k => ?_⟩
    rw [compassref11_Below.l1, if_neg (by omega), w1 (by omega) (by omega)]; rfl
  | succ d ih =>
    intro i P tau l hi hP V hl
    have hD : ((pas E (rnd n E r) i).length : Int) = n := by rw [pas_len, rnd_len]; omega
    have hD0 : ((rnd n E r).length : Int) = n := by rw [rnd_len]; omega
    have gi : (i : Int) < (E.length : Int) := by omega
    have g0 : (0 : Int) ≤ i := by omega
    have id : i + 1 + d = E.length := by omega
    have il : i < E.length := by omega
    obtain ⟨⟨a0, a1⟩, ⟨b0, b1⟩, d0, d1⟩ := g.e i g0 gi
    have w : wrap64 ((i : Int) + 1) = ((i + 1 : Nat) : Int) := by rw [w1 (by omega) (by omega)]; rfl
    have ga : (rd_T98 E i).f0 < ((pas E (rnd n E r) i).length : Int) := by omega
    have gb : (rd_T98 E i).f1 < ((pas E (rnd n E r) i).length : Int) := by omega
    have gp : (rd_T98 E i).f1 < (P.length : Int) := by omega
    have ws := pas_ws g hr il
    by_cases q : rd (pas E (rnd n E r) i) (rd_T98 E i).f0 + (rd_T98 E i).f3 < rd (pas E (rnd n E r) i) (rd_T98 E i).f1
    · have ps : pas E (rnd n E r) (i + 1) = (pas E (rnd n E r) i).set (rd_T98 E i).f1.toNat (rd (pas E (rnd n E r) i) (rd_T98 E i).f0 + (rd_T98 E i).f3) := by rw [pas, rlx, if_pos q]
      have V' := V.move g hD hP il q
      have hd := pas_le g hD0 _ b0 i (Nat.le_of_lt il)
      obtain ⟨P', tau', l', x1, x2, x3, x4⟩ := ih (i + 1) (P.set (rd_T98 E i).f1.toNat i) _ (rd_T98 E i).f1 id (by rw [List.length_set]; exact hP) V' (Or.inr ⟨b0, b1, by
        rw [ps, rd_set _ _ _ _ b0 gb b0, if_pos rfl]; exact Int.lt_of_lt_of_le q hd, by show 0 < (if _ = _ then _ else _); rw [if_pos rfl]; exact Nat.succ_pos _⟩)
      refine ⟨P', tau', l', x1, x2, x3, fun z hz => (x4 z hz).step fun k => ?_⟩
      rw [compassref11_Below.l1, if_pos gi, if_pos g0, if_pos a0, if_pos ga, if_pos b0, if_pos gb, ws, if_pos q, if_pos gp, w, ps]
    · have ps : pas E (rnd n E r) (i + 1) = pas E (rnd n E r) i := by rw [pas, rlx, if_neg q]
      obtain ⟨P', tau', l', x1, x2, x3, x4⟩ := ih (i + 1) P tau l id hP (by rw [ps]; exact V.stay) (by rw [ps]; exact hl)
      rw [ps] at x4
      refine ⟨P', tau', l', x1, x2, x3, fun z hz => (x4 z hz).step fun k => ?_⟩
      rw [compassref11_Below.l1, if_pos gi, if_pos g0, if_pos a0, if_pos ga, if_pos b0, if_pos gb, ws, if_neg q, w]

theorem below_l0 {n : Int} {E : List S98} {C : Int} (g : Gr n E C) (d : Nat) : ∀ (r : Nat) (P : List Int) (tau : Int → Nat) (l : Int), ((r + d : Nat) : Int) = n → (P.length : Int) = n → Via n E (rnd n E r) P tau (r * E.length) →
    ∃ (P' : List Int) (tau' : Int → Nat) (l' : Int), (P'.length : Int) = n ∧ Via n E (rnd n E (n.toNat + 1)) P' tau' ((n.toNat + 1) * E.length) ∧ Last n (rnd n E n.toNat) (rnd n E (n.toNat + 1)) tau' l' ∧
      ∀ z, Evl (fun k => if l' < 0 then (some ([] : List Int)) else (compassref11_Below.l2 k P' l' 0 n E)) z → Evl (fun k => compassref11_Below.l0 k (rnd n E r) P l r n E) z := by
  have n0 := g.n0
  induction d with
  | zero =>
    intro r P tau l hr hP V
    obtain ⟨P', tau', l', x1, x2, x3, x4⟩ := below_l1 g (r := r) (by omega) E.length 0 P tau (-1) (by omega) hP V (Or.inl ⟨rfl, rfl⟩)
    have e : r = n.toNat := by omega
    subst e
    refine ⟨P', tau', l', x1, x2, x3, fun z hz => Evl.step (x4 z (hz.step fun k => ?_)) fun k => ?_⟩
    · rw [compassref11_Below.l0, if_neg (by omega)]
    · rw [compassref11_Below.l0, if_pos (by omega)]; rfl
  | succ d ih =>
    intro r P tau l hr hP V
    obtain ⟨P1, tau1, l1, x1, x2, x3, x4⟩ := below_l1 g (r := r) (by omega) E.length 0 P tau (-1) (by omega) hP V (Or.inl ⟨rfl, rfl⟩)
    obtain ⟨P', tau', l', y1, y2, y3, y4⟩ := ih (r + 1) P1 tau1 l1 (by omega) x1 x2
    refine ⟨P', tau', l', y1, y2, y3, fun z hz => Evl.step (x4 z (y4 z hz)) fun k => ?_⟩
    rw [compassref11_Below.l0, if_pos (by omega)]; rfl

/-- Where a node had it from, again and again. -/
def itr (E : List S98) (P : List Int) (v : Int) : Nat → Int
  | 0 => v
  | k + 1 => (rd_T98 E (rd P (itr E P v k))).f0
theorem itr_add (E : List S98) (P : List Int) (v : Int) (a : Nat) : ∀ b, itr E P v (a + b) = itr E P (itr E P v a) b
  | 0 => rfl
  | b + 1 => by show (rd_T98 E (rd P (itr E P v (a + b)))).f0 = _; rw [itr_add E P v a b]; rfl
theorem sub_len2 : ∀ (l m : List Int), l.Nodup → (∀ x ∈ l, x ∈ m) → l.length ≤ m.length := by
  intro l
  induction l with
  | nil => intro m _ _; exact Nat.zero_le _
  | cons a t ih =>
    intro m h hs
    obtain ⟨ha, ht⟩ := List.nodup_cons.mp h
    have hm : a ∈ m := hs a (by simp)
    have := ih (m.erase a) ht (fun x hx => (List.mem_erase_of_ne (fun e => ha (by rw [← e]; exact hx))).mpr (hs x (by simp [hx])))
    rw [List.length_erase_of_mem hm] at this
    have := List.length_pos_of_mem hm
    rw [List.length_cons]; omega
theorem pigeon {m : Nat} (f : Nat → Int) (h : ∀ i, i ≤ m → 0 ≤ f i ∧ f i < (m : Int)) : ∃ a b, a < b ∧ b ≤ m ∧ f a = f b := by
  by_cases q : ∃ a b, a < b ∧ b ≤ m ∧ f a = f b
  · exact q
  · exfalso
    have nd : ((List.range (m + 1)).map f).Nodup := by
      rw [List.Nodup, List.pairwise_map]
      refine List.Pairwise.imp_of_mem (fun {a b} ha hb hab => ?_) (List.pairwise_lt_range (n := m + 1))
      intro e
      rw [List.mem_range] at hb
      exact q ⟨a, b, hab, by omega, e⟩
    have := sub_len2 ((List.range (m + 1)).map f) (rng m) nd (fun x hx => by
      obtain ⟨i, hi, rfl⟩ := List.mem_map.mp hx
      rw [List.mem_range] at hi
      obtain ⟨a, b⟩ := h i (by omega)
      exact (mem_rng m _).mpr ⟨a, b⟩)
    rw [List.length_map, List.length_range, len_rng] at this
    omega

/-- The edges of a circle, the last one first gathered. -/
def gat (E : List S98) (P : List Int) (w : Int) : Nat → List Int
  | 0 => []
  | k + 1 => rd P (itr E P w k) :: gat E P w k
theorem gat_len (E : List S98) (P : List Int) (w : Int) : ∀ k, (gat E P w k).length = k
  | 0 => rfl
  | k + 1 => by rw [gat, List.length_cons, gat_len E P w k]
theorem rd_cons0 (x : Int) (l : List Int) : rd (x :: l) 0 = x := rfl
theorem rd_cons1 (x : Int) (l : List Int) (j : Int) (h : 0 < j) : rd (x :: l) j = rd l (j - 1) := by
  unfold rd; rw [show j.toNat = (j - 1).toNat + 1 by omega]; rfl
theorem gat_rd (E : List S98) (P : List Int) (w : Int) : ∀ (k : Nat) (j : Nat), j < k → rd (gat E P w k) j = rd P (itr E P w (k - 1 - j))
  | 0, j, h => by omega
  | k + 1, 0, _ => by rw [gat]; show rd (_ :: _) 0 = _; rw [rd_cons0]; rfl
  | k + 1, j + 1, h => by
    rw [gat, rd_cons1 _ _ _ (by omega), show ((j + 1 : Nat) : Int) - 1 = (j : Int) by omega, gat_rd E P w k j (by omega), show k + 1 - 1 - (j + 1) = k - 1 - j by omega]
/-- What a list of edges costs. -/
def cst (E : List S98) : List Int → Int
  | [] => 0
  | i :: L => (rd_T98 E i).f3 + cst E L
/-- These edges make a circle, no node twice. -/
structure Circ (E : List S98) (L : List Int) : Prop where
  pos : 0 < L.length
  el : ∀ j : Nat, j < L.length → 0 ≤ rd L j ∧ rd L j < (E.length : Int)
  on : ∀ j : Nat, j + 1 < L.length → (rd_T98 E (rd L j)).f1 = (rd_T98 E (rd L ((j + 1 : Nat) : Int))).f0
  cl : (rd_T98 E (rd L ((L.length - 1 : Nat) : Int))).f1 = (rd_T98 E (rd L 0)).f0
  once : ∀ i j : Nat, i < j → j < L.length → (rd_T98 E (rd L i)).f1 ≠ (rd_T98 E (rd L j)).f1

/-- A node that got something, and all whence it came. -/
structure Hot (n : Int) (E : List S98) (D P : List Int) (tau : Int → Nat) (v : Int) : Prop where
  v0 : 0 ≤ v
  v1 : v < n
  p0 : 0 ≤ rd P v
  p1 : rd P v < (E.length : Int)
  t : (rd_T98 E (rd P v)).f1 = v
  le : rd D (rd_T98 E (rd P v)).f0 + (rd_T98 E (rd P v)).f3 ≤ rd D v
  eq : rd D (rd_T98 E (rd P v)).f0 + (rd_T98 E (rd P v)).f3 = rd D v → tau (rd_T98 E (rd P v)).f0 < tau v
theorem Via.hot {n : Int} {E : List S98} {D P : List Int} {tau : Int → Nat} {T : Nat} (V : Via n E D P tau T) {v : Int} (v0 : 0 ≤ v) (v1 : v < n) (h : 0 < tau v) : Hot n E D P tau v := by
  rcases V v v0 v1 with a | ⟨a1, a2, a3, a4, a5, a6, a7⟩
  · omega
  · exact ⟨v0, v1, a3, a4, a5, a6, a7⟩

theorem chain_hot {n : Int} {E : List S98} {C : Int} (g : Gr n E C) {P : List Int} {tau : Int → Nat} {T : Nat} {l : Int} (V : Via n E (rnd n E (n.toNat + 1)) P tau T) (l0 : 0 ≤ l) (l1 : l < n) (lt : rd (rnd n E (n.toNat + 1)) l < rd (rnd n E n.toNat) l) (lh : 0 < tau l) :
    ∀ k : Nat, (k : Int) ≤ n → 0 < tau (itr E P l k) ∧ 0 ≤ itr E P l k ∧ itr E P l k < n ∧ ∃ c : Int, Walk E (itr E P l k) l k c ∧ c ≤ rd (rnd n E (n.toNat + 1)) l - rd (rnd n E (n.toNat + 1)) (itr E P l k) := by
  intro k
  induction k with
  | zero => intro _; exact ⟨lh, l0, l1, 0, Walk.nil, by show (0 : Int) ≤ _ - rd _ l; omega⟩
  | succ k ih =>
    intro hk
    obtain ⟨h1, h2, h3, c, h4, h5⟩ := ih (by omega)
    have H := V.hot h2 h3 h1
    obtain ⟨⟨f0, f1⟩, -, -⟩ := g.e _ H.p0 H.p1
    have W : Walk E (itr E P l (k + 1)) l (k + 1) (c + (rd_T98 E (rd P (itr E P l k))).f3) := h4.front H.p0 H.p1 H.t.symm
    have le := H.le
    have e : itr E P l (k + 1) = (rd_T98 E (rd P (itr E P l k))).f0 := rfl
    have h6 : c + (rd_T98 E (rd P (itr E P l k))).f3 ≤ rd (rnd n E (n.toNat + 1)) l - rd (rnd n E (n.toNat + 1)) (itr E P l (k + 1)) := by rw [e]; omega
    refine ⟨?_, f0, f1, _, W, h6⟩
    rcases V _ f0 f1 with a | a
    · have b := rnd_walk g f0 f1 W n.toNat (by omega)
      rw [e, a.2] at h6
      omega
    · exact a.1

/-- Down a chain costs fall, by no less than what the edges cost. -/
theorem gat_cost {n : Int} {E : List S98} {D P : List Int} {tau : Int → Nat} {w : Int} (H : ∀ k, Hot n E D P tau (itr E P w k)) : ∀ k, cst E (gat E P w k) ≤ rd D w - rd D (itr E P w k) ∧ (0 < k → cst E (gat E P w k) = rd D w - rd D (itr E P w k) → tau (itr E P w k) < tau w)
  | 0 => ⟨by show (0 : Int) ≤ _ - rd D w; omega, fun h => by omega⟩
  | k + 1 => by
    obtain ⟨a, b⟩ := gat_cost H k
    have h := H k
    have le := h.le
    have e : itr E P w (k + 1) = (rd_T98 E (rd P (itr E P w k))).f0 := rfl
    rw [gat, cst, e]
    refine ⟨by omega, fun _ q => ?_⟩
    have t := h.eq (by omega)
    by_cases z : k = 0
    · subst z; exact t
    · have := b (by omega) (by omega); omega

theorem circle_of {n : Int} {E : List S98} {D P : List Int} {tau : Int → Nat} {w : Int} (H : ∀ k, Hot n E D P tau (itr E P w k)) {p : Nat} (p0 : 0 < p) (hp : itr E P w p = w) (least : ∀ q, 0 < q → q < p → itr E P w q ≠ w) : Circ E (gat E P w p) ∧ cst E (gat E P w p) < 0 := by
  refine ⟨⟨by rw [gat_len]; exact p0, fun j hj => ?_, fun j hj => ?_, ?_, fun i j hij hj => ?_⟩, ?_⟩
  · rw [gat_len] at hj
    rw [gat_rd _ _ _ _ _ hj]; exact ⟨(H _).p0, (H _).p1⟩
  · rw [gat_len] at hj
    rw [gat_rd _ _ _ _ _ (by omega), gat_rd _ _ _ _ _ hj, (H _).t]
    rw [show p - 1 - j = (p - 1 - (j + 1)) + 1 by omega]; rfl
  · rw [gat_len, gat_rd _ _ _ _ _ (by omega), (H _).t]
    have := gat_rd E P w p 0 p0
    rw [show ((0 : Nat) : Int) = 0 from rfl] at this
    rw [this, show p - 1 - (p - 1) = 0 by omega]
    show w = itr E P w (p - 1 - 0 + 1)
    rw [show p - 1 - 0 + 1 = p by omega, hp]
  · rw [gat_len] at hj
    rw [gat_rd _ _ _ _ _ (by omega), gat_rd _ _ _ _ _ hj, (H _).t, (H _).t]
    intro e
    refine least (p - 1 - j + (p - (p - 1 - i))) (by omega) (by omega) ?_
    rw [itr_add, ← e, ← itr_add, show p - 1 - i + (p - (p - 1 - i)) = p by omega, hp]
  · obtain ⟨a, b⟩ := gat_cost H p
    rw [hp] at a b
    by_cases z : cst E (gat E P w p) = 0
    · have := b p0 (by omega); omega
    · omega

theorem least_of (Q : Nat → Prop) : ∀ m, Q m → ∃ p, p ≤ m ∧ Q p ∧ ∀ q, q < p → ¬ Q q := by
  intro m
  induction m using Nat.strongRecOn with
  | _ m ih =>
    intro h
    by_cases z : ∃ q, q < m ∧ Q q
    · obtain ⟨q, q1, q2⟩ := z
      obtain ⟨p, p1, p2, p3⟩ := ih q q1 q2
      exact ⟨p, by omega, p2, p3⟩
    · exact ⟨m, Nat.le_refl _, h, fun q hq hQ => z ⟨q, hq, hQ⟩⟩

theorem below_l2 {n : Int} {E : List S98} {D P : List Int} {tau : Int → Nat} {l : Int} (n1 : n ≤ 1100) (hP : (P.length : Int) = n) (H : ∀ k, Hot n E D P tau (itr E P l k)) (d : Nat) : ∀ i : Nat, ((i + d : Nat) : Int) = n →
    ∀ z, Evl (fun k => compassref11_Below.l3 k P (itr E P l n.toNat) ([rd P (itr E P l n.toNat)]) n E) z → Evl (fun k => compassref11_Below.l2 k P (itr E P l i) i n E) z := by
  induction d with
  | zero =>
    intro i hi z hz
    have e : i = n.toNat := by omega
    subst e
    have h := H n.toNat
    have v0 := h.v0
    have v1 := h.v1
    refine hz.step fun k => ?_
    rw [compassref11_Below.l2, if_neg (by omega), if_pos v0, if_pos (by omega)]
  | succ d ih =>
    intro i hi z hz
    have h := H i
    have v0 := h.v0
    have v1 := h.v1
    have p0 := h.p0
    have p1 := h.p1
    have w : wrap64 ((i : Int) + 1) = ((i + 1 : Nat) : Int) := by rw [w1 (by omega) (by omega)]; rfl
    refine (ih (i + 1) (by omega) z hz).step fun k => ?_
    rw [compassref11_Below.l2, if_pos (by omega), if_pos v0, if_pos (by omega), if_pos p0, if_pos p1, w]; rfl
theorem below_l3 {n : Int} {E : List S98} {D P : List Int} {tau : Int → Nat} {w : Int} (n1 : n ≤ 1100) (hP : (P.length : Int) = n) (H : ∀ k, Hot n E D P tau (itr E P w k)) {p : Nat} (p0 : 0 < p) (pn : p ≤ 1100) (hp : itr E P w p = w) (least : ∀ q, 0 < q → q < p → itr E P w q ≠ w) (d : Nat) : ∀ i : Nat, i + 1 + d = p →
    Evl (fun k => compassref11_Below.l3 k P w (gat E P w (i + 1)) n E) (gat E P w p) := by
  induction d with
  | zero =>
    intro i hi
    have e : p = i + 1 := by omega
    subst e
    have h := H i
    have hl := gat_len E P w (i + 1)
    refine Evl.here fun k => ?_
    have r0 : rd (gat E P w (i + 1)) 0 = rd P (itr E P w i) := rfl
    have hp' : (rd_T98 E (rd P (itr E P w i))).f0 = w := hp
    rw [compassref11_Below.l3, if_pos (by omega), r0, if_pos h.p0, if_pos h.p1, if_pos hp']
  | succ d ih =>
    intro i hi
    have h := H i
    have h' := H (i + 1)
    have v0 := h'.v0
    have v1 := h'.v1
    have hl := gat_len E P w (i + 1)
    have r0 : rd (gat E P w (i + 1)) 0 = rd P (itr E P w i) := rfl
    have ne : ¬ (rd_T98 E (rd P (itr E P w i))).f0 = w := least (i + 1) (by omega) (by omega)
    have q0 : 0 ≤ (rd_T98 E (rd P (itr E P w i))).f0 := v0
    have q1 : (rd_T98 E (rd P (itr E P w i))).f0 < (P.length : Int) := by rw [hP]; exact v1
    refine (ih (i + 1) (by omega)).step fun k => ?_
    rw [compassref11_Below.l3, if_pos (by omega), r0, if_pos h.p0, if_pos h.p1, if_neg ne, if_pos q0, if_pos q1, Option.bind_some, if_pos (by rw [hl]; simp; omega)]; rfl

/-- A circle that costs less than nothing; or potentials that no edge goes below. -/
theorem below_f {n : Int} {E : List S98} {C : Int} (g : Gr n E C) : ∃ L, Evl (fun k => compassref11_Below.f k n E) L ∧
    ((L = [] ∧ ∀ j : Nat, j < E.length → rd (rnd n E n.toNat) (rd_T98 E j).f1 ≤ rd (rnd n E n.toNat) (rd_T98 E j).f0 + (rd_T98 E j).f3) ∨ (Circ E L ∧ cst E L < 0)) := by
  have n0 := g.n0
  have n1 := g.n1
  have V0 : Via n E (rnd n E 0) (List.replicate n.toNat 0) (fun _ => 0) (0 * E.length) := fun v v0 v1 => Or.inl ⟨rfl, by rw [rnd, rd_replicate _ _ _ v0 (by omega)]⟩
  obtain ⟨P, tau, l, hP, V, hl, cont⟩ := below_l0 g n.toNat 0 (List.replicate n.toNat 0) (fun _ => 0) (-1) (by omega) (by rw [List.length_replicate]; omega) V0
  have go : ∀ {L}, Evl (fun k => if l < 0 then (some ([] : List Int)) else (compassref11_Below.l2 k P l 0 n E)) L → Evl (fun k => compassref11_Below.f k n E) L := fun hL => (cont _ hL).congr fun k => by
    rw [compassref11_Below.f, if_pos n0, if_pos (by omega)]; rfl
  rcases hl with ⟨rfl, e⟩ | ⟨l0, l1, lt, lh⟩
  · refine ⟨[], go (Evl.pure.congr fun k => by rw [if_pos (by decide)]), Or.inl ⟨rfl, fun j hj => ?_⟩⟩
    have a := pas_rel g (D := rnd n E n.toNat) (by rw [rnd_len]; omega) E.length (Nat.le_refl _) j hj
    have e' : pas E (rnd n E n.toNat) E.length = rnd n E n.toNat := e
    rw [e'] at a; exact a
  · have ch := chain_hot g V l0 l1 lt lh
    obtain ⟨a, b, ab, bn, eab⟩ := pigeon (m := n.toNat) (itr E P l) (fun i hi => by
      obtain ⟨-, x, y, -⟩ := ch i (by omega)
      exact ⟨x, by omega⟩)
    have per : ∀ k, itr E P l (a + (b - a) + k) = itr E P l (a + k) := fun k => by
      rw [show a + (b - a) = b by omega, itr_add, itr_add, ← eab]
    have back : ∀ j : Nat, ∃ i, i ≤ n.toNat ∧ itr E P l j = itr E P l i := by
      intro j
      induction j using Nat.strongRecOn with
      | _ j ih =>
        by_cases q : j ≤ n.toNat
        · exact ⟨j, q, rfl⟩
        · obtain ⟨i, i1, i2⟩ := ih (j - (b - a)) (by omega)
          refine ⟨i, i1, ?_⟩
          rw [← i2]
          have := per (j - b)
          rw [show a + (b - a) + (j - b) = j by omega, show a + (j - b) = j - (b - a) by omega] at this
          exact this
    have H : ∀ k, Hot n E (rnd n E (n.toNat + 1)) P tau (itr E P l k) := fun k => by
      obtain ⟨i, i1, i2⟩ := back k
      obtain ⟨x, y, z, -⟩ := ch i (by omega)
      rw [i2]; exact V.hot y z x
    have Hw : ∀ k, Hot n E (rnd n E (n.toNat + 1)) P tau (itr E P (itr E P l n.toNat) k) := fun k => by rw [← itr_add]; exact H _
    have cyc : 0 < b - a ∧ itr E P (itr E P l n.toNat) (b - a) = itr E P l n.toNat := ⟨by omega, by
      rw [← itr_add]
      have := per (n.toNat - a)
      rw [show a + (b - a) + (n.toNat - a) = n.toNat + (b - a) by omega, show a + (n.toNat - a) = n.toNat by omega] at this
      exact this⟩
    obtain ⟨p, p1, ⟨p2, p3⟩, p4⟩ := least_of (fun q => 0 < q ∧ itr E P (itr E P l n.toNat) q = itr E P l n.toNat) (b - a) cyc
    have least : ∀ q, 0 < q → q < p → itr E P (itr E P l n.toNat) q ≠ itr E P l n.toNat := fun q q0 q1 e => p4 q q1 ⟨q0, e⟩
    have fin := below_l3 n1 hP Hw p2 (by omega) p3 least (p - 1) 0 (by omega)
    refine ⟨_, go ((below_l2 n1 hP H n.toNat 0 (by omega) _ fin).congr fun k => by rw [if_neg (by omega)]; rfl), Or.inr (circle_of Hw p2 p3 least)⟩
end Go.Proofs.Ytkdoihcjhccliaa.G
namespace Go.Proofs.Ytkdoihcjhccliaa.G
open Go.RowKit Go.Proofs.Ytkdoihcjhccliaa.Q Go.Proofs.YtkdoihcjhccliaaW.PrintWords Go.Proofs.YtkdoihcjhccliaaW.PrintLast
set_option linter.unusedVariables false

theorem right_f {n : Int} {E : List S98} {c a : Int} (h : Evl (fun k => graph_Check.f k n E) (c, a)) : Evl (fun k => proof_right.f k n E) c := by
  by_cases hc : c = 0
  · subst hc
    exact (Evl.bind (h := fun k t => if t.1 = 0 then some 0 else some t.1) h (Evl.pure.congr fun k => by rw [if_pos rfl])).congr fun k => rfl
  · exact (Evl.bind (h := fun k t => if t.1 = 0 then some 0 else some t.1) h (Evl.pure.congr fun k => by rw [if_neg hc])).congr fun k => rfl
theorem wrong_f {n : Int} {E : List S98} {c a : Int} (h : Evl (fun k => compassref03_Check.f k n E) (c, a)) (v : Int) : Evl (fun k => compassref04_Wrong.f k n E v) (if c = 0 then (if v < 0 ∨ v ≥ n then 30 else 0) else c) := by
  refine (Evl.bind (h := fun k t => if t.1 = 0 then (if v < 0 then some 30 else (if v ≥ n then some 30 else some t.1)) else some t.1) h ?_).congr fun k => rfl
  by_cases hc : c = 0
  · subst hc
    rw [if_pos rfl]
    by_cases h1 : v < 0
    · rw [if_pos (Or.inl h1)]; exact Evl.pure.congr fun k => by rw [if_pos rfl, if_pos h1]
    · by_cases h2 : v ≥ n
      · rw [if_pos (Or.inr h2)]; exact Evl.pure.congr fun k => by rw [if_pos rfl, if_neg h1, if_pos h2]
      · have z : (if v < 0 ∨ v ≥ n then (30 : Int) else 0) = 0 := if_neg (by omega)
        rw [z]; exact Evl.pure.congr fun k => by rw [if_pos rfl, if_neg h1, if_neg h2]
  · rw [if_neg hc]; exact Evl.pure.congr fun k => by rw [if_neg hc]
/-- The number of what is wrong with a source and a sink in a right graph. -/
def endsE (n s t : Int) : Int := if s < 0 ∨ s ≥ n ∨ t < 0 ∨ t ≥ n then 30 else if s = t then 120 else 0
theorem ends_f {n : Int} {E : List S98} {c a : Int} (h : Evl (fun k => compassref03_Check.f k n E) (c, a)) (s t : Int) : Evl (fun k => compassref11_Ends.f k n E s t) (if c = 0 then endsE n s t else c) := by
  have hs := wrong_f h s
  have ht := wrong_f h t
  refine (Evl.bind (h := fun k u => if u = 0 then ((compassref04_Wrong.f k n E t).bind fun u' => if u' = 0 then (if s = t then some 120 else some u') else some u') else some u) hs ?_).congr fun k => rfl
  by_cases hc : c = 0
  · subst hc
    rw [if_pos rfl] at hs ht ⊢
    rw [if_pos rfl]
    by_cases h1 : s < 0 ∨ s ≥ n
    · rw [if_pos h1]
      have : endsE n s t = 30 := by unfold endsE; rw [if_pos (by omega)]
      rw [this]; exact Evl.pure.congr fun k => by rw [if_neg (by decide)]
    · rw [if_neg h1]
      refine (Evl.bind (h := fun k u' => if u' = 0 then (if s = t then some 120 else some u') else some u') ht ?_).congr fun k => by rw [if_pos rfl]
      by_cases h2 : t < 0 ∨ t ≥ n
      · rw [if_pos h2]
        have : endsE n s t = 30 := by unfold endsE; rw [if_pos (by omega)]
        rw [this]; exact Evl.pure.congr fun k => by rw [if_neg (by decide)]
      · rw [if_neg h2]
        by_cases h3 : s = t
        · have : endsE n s t = 120 := by unfold endsE; rw [if_neg (by omega), if_pos h3]
          rw [this]; exact Evl.pure.congr fun k => by rw [if_pos rfl, if_pos h3]
        · have : endsE n s t = 0 := by unfold endsE; rw [if_neg (by omega), if_neg h3]
          rw [this]; exact Evl.pure.congr fun k => by rw [if_pos rfl, if_neg h3]
  · rw [if_neg hc, if_neg hc]; exact Evl.pure.congr fun k => by rw [if_neg hc]

theorem net_snk {n : Int} {E : List S98} (R : Right n E) {A : List Int} {s t : Int} (hst : s ≠ t) (s0 : 0 ≤ s) (s1 : s < n) (t0 : 0 ≤ t) (t1 : t < n) (h : ∀ v : Int, 0 ≤ v → v < n → v ≠ s → v ≠ t → net E A v E.length = 0) : net E A t E.length = -net E A s E.length := by
  have a := tot_none R A E.length (Nat.le_refl _)
  have b := tot_two E A E.length s t hst s0 t0 n.toNat (fun u u0 u1 a b => h u u0 (by omega) a b)
  rw [a, if_pos (by omega), if_pos (by omega)] at b
  omega

end Go.Proofs.Ytkdoihcjhccliaa.G
namespace Go.Proofs.Ytkdoihcjhccliaa.G
open Go.RowKit Go.Proofs.Ytkdoihcjhccliaa.Q Go.Proofs.YtkdoihcjhccliaaW.PrintWords Go.Proofs.YtkdoihcjhccliaaW.PrintLast
set_option linter.unusedVariables false

/-- Over the first nodes what goes out, weighted. -/
def wsum (p : Int → Int) (E : List S98) (A : List Int) (i : Nat) : Nat → Int
  | 0 => 0
  | v + 1 => wsum p E A i v + p v * net E A v i
/-- Over the first edges what lies on them, weighted by both ends. -/
def esum (p : Int → Int) (E : List S98) (A : List Int) : Nat → Int
  | 0 => 0
  | i + 1 => esum p E A i + (p (rd_T98 E i).f0 * rd A i - p (rd_T98 E i).f1 * rd A i)

theorem wsum_zero (p : Int → Int) (E : List S98) (A : List Int) (v : Nat) : wsum p E A 0 v = 0 := by
  induction v with
  | zero => rfl
  | succ v ih => simp only [wsum, net, ih, Int.mul_zero]; rfl
theorem wsum_step (p : Int → Int) (E : List S98) (A : List Int) (i : Nat) (f0 : 0 ≤ (rd_T98 E i).f0) (t0 : 0 ≤ (rd_T98 E i).f1) (v : Nat) : wsum p E A (i + 1) v = wsum p E A i v + (if (rd_T98 E i).f0 < v then p (rd_T98 E i).f0 * rd A i else 0) - (if (rd_T98 E i).f1 < v then p (rd_T98 E i).f1 * rd A i else 0) := by
  induction v with
  | zero => simp only [wsum]; rw [if_neg (by omega), if_neg (by omega)]; omega
  | succ v ih =>
    simp only [wsum, net, ih, Int.mul_sub, Int.mul_add]
    push_cast
    have a : p v * (if (rd_T98 E i).f0 = v then rd A i else 0) = if (rd_T98 E i).f0 = v then p (rd_T98 E i).f0 * rd A i else 0 := by
      split
      · rename_i h; rw [h]
      · exact Int.mul_zero _
    have b : p v * (if (rd_T98 E i).f1 = v then rd A i else 0) = if (rd_T98 E i).f1 = v then p (rd_T98 E i).f1 * rd A i else 0 := by
      split
      · rename_i h; rw [h]
      · exact Int.mul_zero _
    rw [a, b]
    generalize p (rd_T98 E i).f0 * rd A i = x
    generalize p (rd_T98 E i).f1 * rd A i = y
    generalize (rd_T98 E i).f0 = c at *
    generalize (rd_T98 E i).f1 = d at *
    generalize p v * net E A v i = z
    generalize wsum p E A i v = u
    clear a b ih
    (repeat' split) <;> omega
theorem wsum_esum {n : Int} {E : List S98} (R : Right n E) (p : Int → Int) (A : List Int) : ∀ i : Nat, i ≤ E.length → wsum p E A i n.toNat = esum p E A i := by
  have n0 := R.n0
  intro i
  induction i with
  | zero => intro _; exact wsum_zero p E A _
  | succ i ih =>
    intro hi
    have e := R.e i (by omega) (by omega)
    have a1 := e.a1
    have b1 := e.b1
    rw [wsum_step p E A i e.a0 e.b0, ih (by omega), if_pos (by omega), if_pos (by omega), esum]; omega

/-- The side's weights. -/
def ind (B : List Bool) (v : Int) : Int := if rdOf false B v = true then 1 else 0
theorem esum_cut {n : Int} {E : List S98} (R : Right n E) (B : List Bool) {A : List Int} (h : Amts E A) : ∀ i : Nat, i ≤ E.length → esum (ind B) E A i ≤ cut E B i := by
  intro i
  induction i with
  | zero => intro _; exact Int.le_refl _
  | succ i ih =>
    intro hi
    have a := ih (by omega)
    have b := h i (by omega) (by omega)
    have c0 := (R.e i (by omega) (by omega)).c0
    simp only [esum, cut, ind]
    by_cases q0 : rdOf false B (rd_T98 E i).f0 = true
    · by_cases q1 : rdOf false B (rd_T98 E i).f1 = true
      · rw [if_pos q0, if_pos q1, if_neg (by rw [q1]; simp)]; omega
      · rw [if_pos q0, if_neg q1, if_pos ⟨q0, by simpa using q1⟩]; omega
    · rw [if_neg q0, if_neg (show ¬ (rdOf false B (rd_T98 E i).f0 = true ∧ rdOf false B (rd_T98 E i).f1 = false) from fun h => q0 h.1)]
      split <;> omega
theorem wsum_flow {E : List S98} {B : List Bool} {A : List Int} {i : Nat} {s t : Int} (hs : rdOf false B s = true) (ht : rdOf false B t = false) (s0 : 0 ≤ s) (v : Nat) (h : ∀ u : Int, 0 ≤ u → u < v → u ≠ s → u ≠ t → net E A u i = 0) : wsum (ind B) E A i v = if s < v then net E A s i else 0 := by
  induction v with
  | zero => rw [if_neg (by omega)]; rfl
  | succ v ih =>
    rw [wsum, ih fun u a b => h u a (by omega)]
    push_cast
    by_cases a : (v : Int) = s
    · rw [if_neg (by omega), if_pos (by omega), a, ind, if_pos hs]; omega
    · have z : ind B v * net E A v i = 0 := by
        by_cases b : (v : Int) = t
        · rw [b, ind, ht, if_neg (by simp), Int.zero_mul]
        · rw [h v (by omega) (by omega) a b, Int.mul_zero]
      rw [z]
      by_cases c : s < (v : Int)
      · rw [if_pos c, if_pos (by omega)]; omega
      · rw [if_neg c, if_neg (by omega)]; omega
/-- No flow is greater than a cut. -/
theorem flow_cut {n : Int} {E : List S98} (R : Right n E) {B : List Bool} {A : List Int} {s t : Int} (hs : rdOf false B s = true) (ht : rdOf false B t = false) (s0 : 0 ≤ s) (s1 : s < n) (h : Amts E A) (k : ∀ v : Int, 0 ≤ v → v < n → v ≠ s → v ≠ t → net E A v E.length = 0) : net E A s E.length ≤ cut E B E.length := by
  have n0 := R.n0
  have a := wsum_flow (E := E) (A := A) (i := E.length) hs ht s0 n.toNat (fun u a b c d => k u a (by omega) c d)
  rw [if_pos (by omega), wsum_esum R (ind B) A E.length (Nat.le_refl _)] at a
  rw [← a]
  exact esum_cut R B h E.length (Nat.le_refl _)
end Go.Proofs.Ytkdoihcjhccliaa.G
namespace Go.Proofs.Ytkdoihcjhccliaa.G
open Go.RowKit Go.Proofs.Ytkdoihcjhccliaa.Q Go.Proofs.YtkdoihcjhccliaaW.PrintWords Go.Proofs.YtkdoihcjhccliaaW.PrintLast
set_option linter.unusedVariables false

def ssum (S : List Int) : Nat → Int
  | 0 => 0
  | i + 1 => ssum S i + rd S i
/-- Right supplies. -/
structure Sup (n : Int) (S : List Int) : Prop where
  len : (S.length : Int) = n
  lab : ∀ v : Int, 0 ≤ v → v < n → -1048576 ≤ rd S v ∧ rd S v ≤ 1048576
  all : ssum S n.toNat = 0
theorem ssum_le {S : List Int} {m : Nat} (h : ∀ v : Int, 0 ≤ v → v < (m : Int) → -1048576 ≤ rd S v ∧ rd S v ≤ 1048576) : ∀ i : Nat, i ≤ m → -(i * 1048576 : Int) ≤ ssum S i ∧ ssum S i ≤ (i * 1048576 : Int) := by
  intro i
  induction i with
  | zero => intro _; simp [ssum]
  | succ i ih =>
    intro hi
    have a := ih (by omega)
    have b := h (i : Int) (by omega) (by omega)
    simp only [ssum]; push_cast; omega

theorem supplied_l0 {n : Int} (E : List S98) (n1 : n ≤ 1024) {S : List Int} (hS : (S.length : Int) = n) (d : Nat) : ∀ i : Nat, ((i + d : Nat) : Int) = n →
    (∀ v : Int, 0 ≤ v → v < (i : Int) → -1048576 ≤ rd S v ∧ rd S v ≤ 1048576) →
    ∃ x : Int, Evl (fun k => proof_supplied.l0 k (ssum S i) S S.length i) x ∧ Evl (fun k => compassref11_Supplies.l0 k S (ssum S i) i n E) x ∧ (x = 0 ∨ x = 130) ∧ (x = 0 ↔ Sup n S) := by
  induction d with
  | zero =>
    intro i hi hP
    have e : n.toNat = i := by omega
    by_cases c : ssum S i = 0
    · exact ⟨0, Evl.here fun k => by rw [proof_supplied.l0, if_neg (by omega), if_pos c], Evl.here fun k => by rw [compassref11_Supplies.l0, if_neg (by omega), if_pos c], Or.inl rfl, fun _ => ⟨hS, fun v a b => hP v a (by omega), by rw [e]; exact c⟩, fun _ => rfl⟩
    · exact ⟨130, Evl.here fun k => by rw [proof_supplied.l0, if_neg (by omega), if_neg c], Evl.here fun k => by rw [compassref11_Supplies.l0, if_neg (by omega), if_neg c], Or.inr rfl, fun h => (by cases h), fun h => absurd (by have := h.all; rwa [e] at this) c⟩
  | succ d ih =>
    intro i hi hP
    have w : wrap64 ((i : Int) + 1) = ((i + 1 : Nat) : Int) := by rw [w1 (by omega) (by omega)]; rfl
    have b := ssum_le (m := i) hP i (Nat.le_refl _)
    by_cases c1 : rd S i ≥ -1048576
    · by_cases c2 : rd S i ≤ 1048576
      · obtain ⟨x, e1, e2, e3, e4⟩ := ih (i + 1) (by omega) (fun v v0 v1 => by
          by_cases q : v = i
          · rw [q]; exact ⟨c1, c2⟩
          · exact hP v v0 (by omega))
        have z : wrap64 (ssum S i + rd S i) = ssum S (i + 1) := by rw [wr (by omega) (by omega)]; rfl
        refine ⟨x, e1.step fun k => ?_, e2.step fun k => ?_, e3, e4⟩
        · rw [proof_supplied.l0, if_pos (by omega), if_pos (by omega), if_pos (by omega), if_pos c1, if_pos c2, z, w]
        · rw [compassref11_Supplies.l0, if_pos (by omega), if_pos (by omega), if_pos (by omega), if_neg (by omega), if_neg (by omega), z, w]
      · exact ⟨130, Evl.here fun k => by rw [proof_supplied.l0, if_pos (by omega), if_pos (by omega), if_pos (by omega), if_pos c1, if_neg c2], Evl.here fun k => by rw [compassref11_Supplies.l0, if_pos (by omega), if_pos (by omega), if_pos (by omega), if_neg (by omega), if_pos (by omega)], Or.inr rfl, fun h => (by cases h), fun h => absurd (h.lab i (by omega) (by omega)).2 c2⟩
    · exact ⟨130, Evl.here fun k => by rw [proof_supplied.l0, if_pos (by omega), if_pos (by omega), if_pos (by omega), if_neg c1], Evl.here fun k => by rw [compassref11_Supplies.l0, if_pos (by omega), if_pos (by omega), if_pos (by omega), if_pos (by omega)], Or.inr rfl, fun h => (by cases h), fun h => absurd (h.lab i (by omega) (by omega)).1 c1⟩
theorem supplied_f {n : Int} {E : List S98} (R : Right n E) {a : Int} (g : Evl (fun k => compassref03_Check.f k n E) (0, a)) (S : List Int) :
    ∃ x : Int, Evl (fun k => proof_supplied.f k n E S) x ∧ Evl (fun k => compassref11_Supplies.f k n E S) x ∧ (x = 0 ∨ x = 130) ∧ (x = 0 ↔ Sup n S) := by
  have n0 := R.n0
  by_cases h : (S.length : Int) = n
  · obtain ⟨x, e1, e2, e3, e4⟩ := supplied_l0 E R.n1 h n.toNat 0 (by omega) (fun v a b => by omega)
    refine ⟨x, e1.congr fun k => by rw [proof_supplied.f, if_pos h]; rfl, ?_, e3, e4⟩
    exact (Evl.bind (h := fun k bt => if bt.1 = 0 then (if (S.length : Int) = n then (compassref11_Supplies.l0 k S 0 0 n E) else (some 130)) else (some bt.1)) g (e2.congr fun k => by rw [if_pos rfl, if_pos h]; rfl)).congr fun k => rfl
  · exact ⟨130, Evl.pure.congr fun k => by rw [proof_supplied.f, if_neg h], (Evl.bind (h := fun k bt => if bt.1 = 0 then (if (S.length : Int) = n then (compassref11_Supplies.l0 k S 0 0 n E) else (some 130)) else (some bt.1)) g (Evl.pure.congr fun k => by rw [if_pos rfl, if_neg h])).congr fun k => rfl, Or.inr rfl, fun h => (by cases h), fun q => absurd q.len h⟩
theorem supplies_bad {n : Int} {E : List S98} {c a : Int} (hc : c ≠ 0) (g : Evl (fun k => compassref03_Check.f k n E) (c, a)) (S : List Int) : Evl (fun k => compassref11_Supplies.f k n E S) c :=
  (Evl.bind (h := fun k bt => if bt.1 = 0 then (if (S.length : Int) = n then (compassref11_Supplies.l0 k S 0 0 n E) else (some 130)) else (some bt.1)) g (Evl.pure.congr fun k => by rw [if_neg hc])).congr fun k => rfl

/-- Potentials. -/
def Pots (n : Int) (P : List Int) : Prop := (P.length : Int) = n ∧ ∀ v : Int, 0 ≤ v → v < n → -4398046511104 ≤ rd P v ∧ rd P v ≤ 4398046511104
theorem pots_f {n : Int} (E : List S98) (n0 : 0 ≤ n) (n1 : n ≤ 1024) (P : List Int) : ∃ b : Bool, Evl (fun k => compassref11_Pots.f k n E P) b ∧ (b = true ↔ Pots n P) := by
  by_cases h : (P.length : Int) = n
  · have loop : ∀ (d i : Nat), ((i + d : Nat) : Int) = n → (∀ v : Int, 0 ≤ v → v < (i : Int) → -4398046511104 ≤ rd P v ∧ rd P v ≤ 4398046511104) → ∃ b : Bool, Evl (fun k => compassref11_Pots.l0 k P i n E) b ∧ (b = true ↔ Pots n P) := by
      intro d
      induction d with
      | zero =>
        intro i hi hP
        exact ⟨true, Evl.here fun k => by rw [compassref11_Pots.l0, if_neg (by omega)], fun _ => ⟨h, fun v a b => hP v a (by omega)⟩, fun _ => rfl⟩
      | succ d ih =>
        intro i hi hP
        have w : wrap64 ((i : Int) + 1) = ((i + 1 : Nat) : Int) := by rw [w1 (by omega) (by omega)]; rfl
        by_cases c1 : rd P i < -4398046511104
        · exact ⟨false, Evl.here fun k => by rw [compassref11_Pots.l0, if_pos (by omega), if_pos (by omega), if_pos (by omega), if_pos c1], fun h => (by cases h), fun h => absurd (h.2 i (by omega) (by omega)).1 (by omega)⟩
        · by_cases c2 : rd P i > 4398046511104
          · exact ⟨false, Evl.here fun k => by rw [compassref11_Pots.l0, if_pos (by omega), if_pos (by omega), if_pos (by omega), if_neg c1, if_pos c2], fun h => (by cases h), fun h => absurd (h.2 i (by omega) (by omega)).2 (by omega)⟩
          · obtain ⟨b, e1, e2⟩ := ih (i + 1) (by omega) (fun v v0 v1 => by
              by_cases q : v = i
              · rw [q]; exact ⟨by omega, by omega⟩
              · exact hP v v0 (by omega))
            exact ⟨b, e1.step fun k => by rw [compassref11_Pots.l0, if_pos (by omega), if_pos (by omega), if_pos (by omega), if_neg c1, if_neg c2, w], e2⟩
    obtain ⟨b, e1, e2⟩ := loop n.toNat 0 (by omega) (fun v a b => by omega)
    exact ⟨b, e1.congr fun k => by rw [compassref11_Pots.f, if_pos h]; rfl, e2⟩
  · exact ⟨false, Evl.pure.congr fun k => by rw [compassref11_Pots.f, if_neg h], fun h => (by cases h), fun q => absurd q.1 h⟩

/-- An edge's cost, some times, by potentials. -/
def red (P : List Int) (q : Int) (e : S98) : Int := q * e.f3 + rd P e.f0 - rd P e.f1
theorem red_f {n : Int} {e : S98} {P : List Int} (h : Pots n P) (r : RightE n e) : compassref11_Reduced.f e.f0 e.f1 e.f2 e.f3 P = some (red P 1 e) := by
  obtain ⟨hl, hp⟩ := h
  obtain ⟨a0, a1, b0, b1, c0, c1, d0, d1⟩ := r
  have p0 := hp e.f0 a0 a1
  have p1 := hp e.f1 b0 b1
  unfold compassref11_Reduced.f red
  rw [if_pos a0, if_pos (by omega), if_pos b0, if_pos (by omega), wr (x := e.f3 + rd P e.f0) (by omega) (by omega), wr (by omega) (by omega), Int.one_mul]
theorem reduced_l1 {n : Int} {E : List S98} (R : Right n E) {P : List Int} (h : Pots n P) {q : Int} (q0 : 0 ≤ q) (q1 : q ≤ 1024) (d : Nat) : ∀ (i : Nat) (O : List Int), i + d = E.length → O.length = i →
    (∀ j : Int, 0 ≤ j → j < (i : Int) → rd O j = red P q (rd_T98 E j)) →
    ∃ O' : List Int, Evl (fun k => proof_reduced.l1 k P q O E E.length i) (0, O') ∧ O'.length = E.length ∧ ∀ j : Int, 0 ≤ j → j < (E.length : Int) → rd O' j = red P q (rd_T98 E j) := by
  have hm := R.m1
  induction d with
  | zero =>
    intro i O hi hO hP
    exact ⟨O, Evl.here fun k => by rw [proof_reduced.l1, if_neg (by omega)], by omega, fun j a b => hP j a (by omega)⟩
  | succ d ih =>
    intro i O hi hO hP
    have g2 : (i : Int) < (E.length : Int) := by omega
    have w : wrap64 ((i : Int) + 1) = ((i + 1 : Nat) : Int) := by rw [w1 (by omega) (by omega)]; rfl
    obtain ⟨hl, hp⟩ := h
    obtain ⟨a0, a1, b0, b1, c0, c1, d0, d1⟩ := R.e i (by omega) g2
    have p0 := hp _ a0 a1
    have p1 := hp _ b0 b1
    have m0 : -1073741824 ≤ q * (rd_T98 E i).f3 := by
      have a := Int.mul_le_mul_of_nonneg_left d0 q0
      omega
    have m1 : q * (rd_T98 E i).f3 ≤ 1073741824 := by
      have a := Int.mul_le_mul_of_nonneg_left d1 q0
      omega
    have z : wrap64 ((wrap64 ((wrap64 (q * ((rd_T98 E i).f3))) + (rd P ((rd_T98 E i).f0)))) - (rd P ((rd_T98 E i).f1))) = red P q (rd_T98 E i) := by
      rw [wr (x := q * (rd_T98 E i).f3) (by omega) (by omega), wr (x := q * (rd_T98 E i).f3 + rd P (rd_T98 E i).f0) (by omega) (by omega), wr (by omega) (by omega)]; rfl
    obtain ⟨O', e1, e2, e3⟩ := ih (i + 1) (O ++ [red P q (rd_T98 E i)]) (by omega) (by simp [hO]) (fun j j0 j1 => by
      rw [rd_append _ _ _ j0]
      by_cases c : j < (O.length : Int)
      · rw [if_pos c]; exact hP j j0 (by omega)
      · rw [if_neg c, show j - (O.length : Int) = 0 by omega, show j = (i : Int) by omega]; rfl)
    refine ⟨O', e1.step fun k => ?_, e2, e3⟩
    rw [proof_reduced.l1, if_pos g2, if_pos (by omega), if_pos g2, if_pos a0, if_pos (by omega), if_pos b0, if_pos (by omega), if_pos (by omega), z, w]
theorem reduced_f {n : Int} {E : List S98} (R : Right n E) (P : List Int) {q : Int} (q0 : 0 ≤ q) (q1 : q ≤ 1024) : ∃ r : Int × List Int, Evl (fun k => proof_reduced.f k n E P q) r ∧
    (Pots n P → r.1 = 0 ∧ r.2.length = E.length ∧ ∀ j : Int, 0 ≤ j → j < (E.length : Int) → rd r.2 j = red P q (rd_T98 E j)) ∧ (¬ Pots n P → r = (221, [])) := by
  have n0 := R.n0
  have n1 := R.n1
  have m1 := R.m1
  by_cases h : (P.length : Int) = n
  · have loop : ∀ (d i : Nat), ((i + d : Nat) : Int) = n → (∀ v : Int, 0 ≤ v → v < (i : Int) → -4398046511104 ≤ rd P v ∧ rd P v ≤ 4398046511104) → ∃ r : Int × List Int, Evl (fun k => proof_reduced.l0 k P q P P.length i n E) r ∧
        (Pots n P → r.1 = 0 ∧ r.2.length = E.length ∧ ∀ j : Int, 0 ≤ j → j < (E.length : Int) → rd r.2 j = red P q (rd_T98 E j)) ∧ (¬ Pots n P → r = (221, [])) := by
      intro d
      induction d with
      | zero =>
        intro i hi hP
        have hh : Pots n P := ⟨h, fun v a b => hP v a (by omega)⟩
        obtain ⟨O', e1, e2, e3⟩ := reduced_l1 R hh q0 q1 E.length 0 [] (by omega) rfl (fun j a b => by omega)
        exact ⟨(0, O'), e1.step fun k => by rw [proof_reduced.l0, if_neg (by omega), if_pos (by omega), if_pos (by omega)]; rfl, fun _ => ⟨rfl, e2, e3⟩, fun c => absurd hh c⟩
      | succ d ih =>
        intro i hi hP
        have w : wrap64 ((i : Int) + 1) = ((i + 1 : Nat) : Int) := by rw [w1 (by omega) (by omega)]; rfl
        by_cases c1 : rd P i ≥ -4398046511104
        · by_cases c2 : rd P i ≤ 4398046511104
          · obtain ⟨r, e1, e2⟩ := ih (i + 1) (by omega) (fun v v0 v1 => by
              by_cases q : v = i
              · rw [q]; exact ⟨by omega, by omega⟩
              · exact hP v v0 (by omega))
            exact ⟨r, e1.step fun k => by rw [proof_reduced.l0, if_pos (by omega), if_pos (by omega), if_pos (by omega), if_pos c1, if_pos c2, w], e2⟩
          · exact ⟨(221, []), Evl.here fun k => by rw [proof_reduced.l0, if_pos (by omega), if_pos (by omega), if_pos (by omega), if_pos c1, if_neg c2], fun h => absurd (h.2 i (by omega) (by omega)).2 c2, fun _ => rfl⟩
        · exact ⟨(221, []), Evl.here fun k => by rw [proof_reduced.l0, if_pos (by omega), if_pos (by omega), if_pos (by omega), if_neg c1], fun h => absurd (h.2 i (by omega) (by omega)).1 c1, fun _ => rfl⟩
    obtain ⟨r, e1, e2⟩ := loop n.toNat 0 (by omega) (fun v a b => by omega)
    exact ⟨r, e1.congr fun k => by rw [proof_reduced.f, if_pos h]; rfl, e2⟩
  · exact ⟨(221, []), Evl.pure.congr fun k => by rw [proof_reduced.f, if_neg h], fun q => absurd q.1 h, fun _ => rfl⟩

/-- What amounts on the first edges cost, as the program adds. -/
def totw (E : List S98) (A : List Int) : Nat → Int
  | 0 => 0
  | i + 1 => wrap64 (totw E A i + wrap64 ((rd_T98 E i).f3 * rd A i))
/-- What they cost. -/
def cost (E : List S98) (A : List Int) : Nat → Int
  | 0 => 0
  | i + 1 => cost E A i + (rd_T98 E i).f3 * rd A i
theorem cost_one {n : Int} {e : S98} (r : RightE n e) {a : Int} (a0 : 0 ≤ a) (a1 : a ≤ 1048576) : -1099511627776 ≤ e.f3 * a ∧ e.f3 * a ≤ 1099511627776 := by
  have x := Int.mul_le_mul_of_nonneg_right r.d0 a0
  have y := Int.mul_le_mul_of_nonneg_right r.d1 a0
  omega
theorem totw_cost {n : Int} {E : List S98} (R : Right n E) {A : List Int} (h : Labs E.length A) : ∀ i : Nat, i ≤ E.length → totw E A i = cost E A i ∧ -(i * 1099511627776 : Int) ≤ cost E A i ∧ cost E A i ≤ (i * 1099511627776 : Int) := by
  have m1 := R.m1
  intro i
  induction i with
  | zero => intro _; simp [totw, cost]
  | succ i ih =>
    intro hi
    obtain ⟨a, b, c⟩ := ih (by omega)
    have l := h i (by omega) (by omega)
    have m := cost_one (R.e i (by omega) (by omega)) l.1 l.2
    simp only [totw, cost]
    rw [a, wr (x := (rd_T98 E i).f3 * rd A i) (by omega) (by omega), wr (by omega) (by omega)]
    push_cast
    exact ⟨rfl, by omega, by omega⟩
theorem total_f {n : Int} {E : List S98} (hm : (E.length : Int) ≤ 4096) {A : List Int} (hA : A.length = E.length) : Evl (fun k => compassref11_Total.f k n E A) (totw E A E.length) := by
  have loop : ∀ (d i : Nat), i + d = E.length → Evl (fun k => compassref11_Total.l0 k A (totw E A i) i n E) (totw E A E.length) := by
    intro d
    induction d with
    | zero => intro i hi; exact Evl.here fun k => by rw [compassref11_Total.l0, if_neg (by omega), show i = E.length by omega]
    | succ d ih =>
      intro i hi
      have w : wrap64 ((i : Int) + 1) = ((i + 1 : Nat) : Int) := by rw [w1 (by omega) (by omega)]; rfl
      exact (ih (i + 1) (by omega)).step fun k => by rw [compassref11_Total.l0, if_pos (by omega), if_pos (by omega), if_pos (by omega), w]; rfl
  exact (loop E.length 0 (by omega)).congr fun k => rfl

/-- Where what goes out of each node is alike, the weights at the nodes count alike. -/
theorem wsum_same (p : Int → Int) (E : List S98) (A O : List Int) (i : Nat) (v : Nat) (h : ∀ u : Int, 0 ≤ u → u < v → net E A u i = net E O u i) : wsum p E A i v = wsum p E O i v := by
  induction v with
  | zero => rfl
  | succ v ih => rw [wsum, wsum, ih fun u a b => h u a (by omega), h v (by omega) (by omega)]
/-- By the potentials no change of amounts that fits costs less. -/
theorem cost_dual {E : List S98} {A O P : List Int} (hA : ∀ i : Int, 0 ≤ i → i < (E.length : Int) → (red P 1 (rd_T98 E i) > 0 → rd A i ≤ rd O i) ∧ (red P 1 (rd_T98 E i) < 0 → rd O i ≤ rd A i)) : ∀ i : Nat, i ≤ E.length → cost E A i + esum (rd P) E A i ≤ cost E O i + esum (rd P) E O i := by
  intro i
  induction i with
  | zero => intro _; exact Int.le_refl _
  | succ i ih =>
    intro hi
    have a := ih (by omega)
    have b := hA i (by omega) (by omega)
    have one : ∀ x : Int, (rd_T98 E i).f3 * x + (rd P (rd_T98 E i).f0 * x - rd P (rd_T98 E i).f1 * x) = red P 1 (rd_T98 E i) * x := fun x => by
      unfold red
      rw [Int.one_mul, Int.sub_mul, Int.add_mul]; omega
    have key : red P 1 (rd_T98 E i) * rd A i ≤ red P 1 (rd_T98 E i) * rd O i := by
      rcases Int.lt_trichotomy (red P 1 (rd_T98 E i)) 0 with c | c | c
      · exact Int.mul_le_mul_of_nonpos_left (Int.le_of_lt c) (b.2 c)
      · rw [c, Int.zero_mul, Int.zero_mul]; exact Int.le_refl _
      · exact Int.mul_le_mul_of_nonneg_left (b.1 c) (Int.le_of_lt c)
    rw [← one, ← one] at key
    simp only [cost, esum]
    omega
theorem cost_least {n : Int} {E : List S98} (R : Right n E) {A O P : List Int} (hn : ∀ v : Int, 0 ≤ v → v < n → net E A v E.length = net E O v E.length) (hA : ∀ i : Int, 0 ≤ i → i < (E.length : Int) → (red P 1 (rd_T98 E i) > 0 → rd A i ≤ rd O i) ∧ (red P 1 (rd_T98 E i) < 0 → rd O i ≤ rd A i)) : cost E A E.length ≤ cost E O E.length := by
  have n0 := R.n0
  have a := cost_dual hA E.length (Nat.le_refl _)
  rw [← wsum_esum R (rd P) A E.length (Nat.le_refl _), ← wsum_esum R (rd P) O E.length (Nat.le_refl _), wsum_same (rd P) E A O E.length n.toNat (fun u u0 u1 => hn u u0 (by omega))] at a
  omega
end Go.Proofs.Ytkdoihcjhccliaa.G
namespace Go.Proofs.Ytkdoihcjhccliaa.G
open Go.RowKit Go.Proofs.Ytkdoihcjhccliaa.Q Go.Proofs.YtkdoihcjhccliaaW.PrintWords Go.Proofs.YtkdoihcjhccliaaW.PrintLast
set_option linter.unusedVariables false

theorem Walk.app {E : List S98} {u w v : Int} {k1 k2 : Nat} {c1 c2 : Int} (a : Walk E u w k1 c1) (b : Walk E w v k2 c2) : Walk E u v (k1 + k2) (c1 + c2) := by
  induction b with
  | nil => rw [Int.add_zero]; exact a
  | @cons k c i i0 i1 b ih => rw [← Int.add_assoc]; exact Walk.cons i0 i1 ih
theorem Walk.phi {E : List S98} {F : Int → Int} (hF : ∀ i : Int, 0 ≤ i → i < (E.length : Int) → F (rd_T98 E i).f1 ≤ F (rd_T98 E i).f0 + (rd_T98 E i).f3) {u v : Int} {k : Nat} {c : Int} (w : Walk E u v k c) : F v ≤ F u + c := by
  induction w with
  | nil => omega
  | @cons k c i i0 i1 w ih => have := hF i i0 i1; omega
/-- A walk, node by node. -/
theorem Walk.fn {E : List S98} {u v : Int} {k : Nat} {c : Int} (w : Walk E u v k c) : ∃ (f s : Nat → Int), f 0 = u ∧ f k = v ∧ s 0 = 0 ∧ s k = c ∧ ∀ i, i < k → ∃ j : Int, 0 ≤ j ∧ j < (E.length : Int) ∧ (rd_T98 E j).f0 = f i ∧ (rd_T98 E j).f1 = f (i + 1) ∧ s (i + 1) = s i + (rd_T98 E j).f3 := by
  induction w with
  | nil => exact ⟨fun _ => u, fun _ => 0, rfl, rfl, rfl, rfl, fun i h => by omega⟩
  | @cons k c j j0 j1 w ih =>
    obtain ⟨f, s, a1, a2, a3, a4, a5⟩ := ih
    have lt : ∀ i, i ≤ k → (if i ≤ k then f i else (rd_T98 E j).f1) = f i ∧ (if i ≤ k then s i else c + (rd_T98 E j).f3) = s i := fun i h => ⟨if_pos h, if_pos h⟩
    refine ⟨fun i => if i ≤ k then f i else (rd_T98 E j).f1, fun i => if i ≤ k then s i else c + (rd_T98 E j).f3, ?_, ?_, ?_, ?_, fun i hi => ?_⟩
    · show (if 0 ≤ k then _ else _) = _; rw [if_pos (by omega)]; exact a1
    · show (if k + 1 ≤ k then _ else _) = _; rw [if_neg (by omega)]
    · show (if 0 ≤ k then _ else _) = _; rw [if_pos (by omega)]; exact a3
    · show (if k + 1 ≤ k then _ else _) = _; rw [if_neg (by omega)]
    · show ∃ j', _ ∧ _ ∧ _ = (if i ≤ k then _ else _) ∧ _ = (if i + 1 ≤ k then _ else _) ∧ (if i + 1 ≤ k then _ else _) = (if i ≤ k then _ else _) + _
      rw [if_pos (show i ≤ k by omega), if_pos (show i ≤ k by omega)]
      by_cases q : i + 1 ≤ k
      · rw [if_pos q, if_pos q]; exact a5 i (by omega)
      · have e : i = k := by omega
        subst e
        rw [if_neg q, if_neg q]
        exact ⟨j, j0, j1, a2.symm, rfl, by rw [a4]⟩
theorem fn_walk {E : List S98} {f s : Nat → Int} {k : Nat} (h : ∀ i, i < k → ∃ j : Int, 0 ≤ j ∧ j < (E.length : Int) ∧ (rd_T98 E j).f0 = f i ∧ (rd_T98 E j).f1 = f (i + 1) ∧ s (i + 1) = s i + (rd_T98 E j).f3) (a : Nat) : ∀ d : Nat, a + d ≤ k → Walk E (f a) (f (a + d)) d (s (a + d) - s a)
  | 0, _ => by rw [Nat.add_zero, Int.sub_self]; exact Walk.nil
  | d + 1, hd => by
    obtain ⟨j, j0, j1, e0, e1, e2⟩ := h (a + d) (by omega)
    have w := fn_walk h a d (by omega)
    rw [← e0] at w
    have := Walk.cons j0 j1 w
    rw [e1, show s (a + d) - s a + (rd_T98 E j).f3 = s (a + (d + 1)) - s a by rw [← Nat.add_assoc, e2]; omega] at this
    exact this
/-- Where no circle costs less than nothing, a long walk can be cut. -/
theorem Walk.cut {n : Int} {E : List S98} {C : Int} (g : Gr n E C) {F : Int → Int} (hF : ∀ i : Int, 0 ≤ i → i < (E.length : Int) → F (rd_T98 E i).f1 ≤ F (rd_T98 E i).f0 + (rd_T98 E i).f3) {u v : Int} (u0 : 0 ≤ u) (u1 : u < n) (k : Nat) : ∀ c : Int, Walk E u v k c → ∃ (k' : Nat) (c' : Int), (k' : Int) ≤ n ∧ c' ≤ c ∧ Walk E u v k' c' := by
  induction k using Nat.strongRecOn with
  | _ k ih =>
    intro c w
    by_cases q : (k : Int) ≤ n
    · exact ⟨k, c, q, Int.le_refl _, w⟩
    · obtain ⟨f, s, a1, a2, a3, a4, a5⟩ := w.fn
      have n0 := g.n0
      have inn : ∀ i, i ≤ k → 0 ≤ f i ∧ f i < n := by
        intro i hi
        cases i with
        | zero => rw [a1]; exact ⟨u0, u1⟩
        | succ i =>
          obtain ⟨j, j0, j1, e0, e1, e2⟩ := a5 i (by omega)
          obtain ⟨-, b, -⟩ := g.e j j0 j1
          rw [e1] at b; exact b
      obtain ⟨a, b, ab, bn, eab⟩ := pigeon (m := n.toNat) f (fun i hi => by have := inn i (by omega); omega)
      have W1 := fn_walk a5 0 a (by omega)
      have W2 := fn_walk a5 a (b - a) (by omega)
      have W3 := fn_walk a5 b (k - b) (by omega)
      rw [show 0 + a = a by omega, a1, a3, Int.sub_zero] at W1
      rw [show a + (b - a) = b by omega] at W2
      rw [show b + (k - b) = k by omega, a2, a4, ← eab] at W3
      have p := W2.phi hF
      rw [eab] at p
      obtain ⟨k', c', x1, x2, x3⟩ := ih (a + (k - b)) (by omega) _ (W1.app W3)
      exact ⟨k', c', x1, by omega, x3⟩

/-- One edge, the first edges, rounds: each round reads the row of the last one. -/
def jst (E : List S98) (D X : List Int) (j : Nat) : List Int := if rd D (rd_T98 E j).f0 + (rd_T98 E j).f3 < rd X (rd_T98 E j).f1 then X.set (rd_T98 E j).f1.toNat (rd D (rd_T98 E j).f0 + (rd_T98 E j).f3) else X
def jpa (E : List S98) (D : List Int) : Nat → List Int
  | 0 => D
  | i + 1 => jst E D (jpa E D i) i
def jac (n : Int) (E : List S98) : Nat → List Int
  | 0 => List.replicate n.toNat 0
  | r + 1 => jpa E (jac n E r) E.length
theorem jst_len (E : List S98) (D X : List Int) (j : Nat) : (jst E D X j).length = X.length := by unfold jst; split; rw [List.length_set]; rfl
theorem jpa_len (E : List S98) (D : List Int) : ∀ i, (jpa E D i).length = D.length
  | 0 => rfl
  | i + 1 => by rw [jpa, jst_len, jpa_len E D i]
theorem jac_len (n : Int) (E : List S98) : ∀ r, (jac n E r).length = n.toNat
  | 0 => List.length_replicate
  | r + 1 => by rw [jac, jpa_len, jac_len n E r]
theorem jst_rd {n : Int} {E : List S98} {C : Int} (g : Gr n E C) {D X : List Int} (hX : (X.length : Int) = n) {j : Nat} (hj : j < E.length) (v : Int) (v0 : 0 ≤ v) :
    rd (jst E D X j) v = if rd D (rd_T98 E j).f0 + (rd_T98 E j).f3 < rd X (rd_T98 E j).f1 ∧ v = (rd_T98 E j).f1 then rd D (rd_T98 E j).f0 + (rd_T98 E j).f3 else rd X v := by
  obtain ⟨-, ⟨b0, b1⟩, -⟩ := g.e j (by omega) (by omega)
  unfold jst
  by_cases q : rd D (rd_T98 E j).f0 + (rd_T98 E j).f3 < rd X (rd_T98 E j).f1
  · rw [if_pos q, rd_set _ _ _ _ b0 (by omega) v0]
    by_cases z : v = (rd_T98 E j).f1
    · rw [if_pos z, if_pos ⟨q, z⟩]
    · rw [if_neg z, if_neg fun h => z h.2]
  · rw [if_neg q, if_neg fun h => q h.1]
theorem jst_le {n : Int} {E : List S98} {C : Int} (g : Gr n E C) {D X : List Int} (hX : (X.length : Int) = n) {j : Nat} (hj : j < E.length) (v : Int) (v0 : 0 ≤ v) : rd (jst E D X j) v ≤ rd X v := by
  rw [jst_rd g hX hj v v0]
  split
  · rename_i h; rw [h.2]; omega
  · exact Int.le_refl _
theorem jpa_le {n : Int} {E : List S98} {C : Int} (g : Gr n E C) {D : List Int} (hD : (D.length : Int) = n) (v : Int) (v0 : 0 ≤ v) : ∀ i, i ≤ E.length → rd (jpa E D i) v ≤ rd D v
  | 0, _ => Int.le_refl _
  | i + 1, h => by
    have a := jpa_le g hD v v0 i (by omega)
    have b := jst_le g (D := D) (X := jpa E D i) (by rw [jpa_len]; exact hD) (j := i) (by omega) v v0
    rw [jpa]; omega
theorem jpa_rel {n : Int} {E : List S98} {C : Int} (g : Gr n E C) {D : List Int} (hD : (D.length : Int) = n) : ∀ i, i ≤ E.length → ∀ j : Nat, j < i → rd (jpa E D i) (rd_T98 E j).f1 ≤ rd D (rd_T98 E j).f0 + (rd_T98 E j).f3
  | 0, _, j, h => by omega
  | i + 1, hi, j, h => by
    obtain ⟨-, ⟨b0, b1⟩, -⟩ := g.e j (by omega) (by omega)
    have hl : ((jpa E D i).length : Int) = n := by rw [jpa_len]; exact hD
    by_cases q : j = i
    · subst q
      rw [jpa, jst_rd g hl (by omega) _ b0]
      by_cases z : rd D (rd_T98 E j).f0 + (rd_T98 E j).f3 < rd (jpa E D j) (rd_T98 E j).f1
      · rw [if_pos ⟨z, rfl⟩]; omega
      · rw [if_neg fun h => z h.1]; omega
    · have a := jpa_rel g hD i (by omega) j (by omega)
      have b := jst_le g (D := D) hl (j := i) (by omega) _ b0
      rw [jpa]; omega
theorem jpa_got {n : Int} {E : List S98} {C : Int} (g : Gr n E C) {D : List Int} (hD : (D.length : Int) = n) (v : Int) (v0 : 0 ≤ v) : ∀ i, i ≤ E.length → rd (jpa E D i) v = rd D v ∨ ∃ j : Nat, j < E.length ∧ v = (rd_T98 E j).f1 ∧ rd (jpa E D i) v = rd D (rd_T98 E j).f0 + (rd_T98 E j).f3
  | 0, _ => Or.inl rfl
  | i + 1, hi => by
    have hl : ((jpa E D i).length : Int) = n := by rw [jpa_len]; exact hD
    rw [jpa, jst_rd g hl (by omega) v v0]
    by_cases z : rd D (rd_T98 E i).f0 + (rd_T98 E i).f3 < rd (jpa E D i) (rd_T98 E i).f1 ∧ v = (rd_T98 E i).f1
    · rw [if_pos z]; exact Or.inr ⟨i, by omega, z.2, rfl⟩
    · rw [if_neg z]; exact jpa_got g hD v v0 i (by omega)
theorem jac_hi {n : Int} {E : List S98} {C : Int} (g : Gr n E C) (v : Int) (v0 : 0 ≤ v) (v1 : v < n) : ∀ r, rd (jac n E r) v ≤ 0
  | 0 => by rw [jac, rd_replicate _ _ _ v0 (by omega)]; exact Int.le_refl _
  | r + 1 => by
    have n0 := g.n0
    have a := jpa_le g (D := jac n E r) (by rw [jac_len]; omega) v v0 E.length (Nat.le_refl _)
    have := jac_hi g v v0 v1 r
    rw [jac]; omega
theorem jpa_lo {n : Int} {E : List S98} {C : Int} (g : Gr n E C) {D : List Int} (hD : (D.length : Int) = n) {z : Int} (h : ∀ v : Int, 0 ≤ v → v < n → -z ≤ rd D v) (i : Nat) (hi : i ≤ E.length) (v : Int) (v0 : 0 ≤ v) (v1 : v < n) : -(z + C) ≤ rd (jpa E D i) v := by
  have c0 := g.c0
  rcases jpa_got g hD v v0 i hi with e | ⟨j, j1, e1, e2⟩
  · rw [e]; have := h v v0 v1; omega
  · obtain ⟨⟨a0, a1⟩, -, d0, d1⟩ := g.e j (by omega) (by omega)
    have := h _ a0 a1
    rw [e2]; omega
theorem jac_lo {n : Int} {E : List S98} {C : Int} (g : Gr n E C) : ∀ (r : Nat) (v : Int), 0 ≤ v → v < n → -((r : Int) * C) ≤ rd (jac n E r) v
  | 0, v, v0, v1 => by rw [jac, rd_replicate _ _ _ v0 (by omega)]; simp
  | r + 1, v, v0, v1 => by
    have n0 := g.n0
    have := jpa_lo g (D := jac n E r) (by rw [jac_len]; omega) (jac_lo g r) E.length (Nat.le_refl _) v v0 v1
    rw [jac, Int.natCast_add, Int.add_mul]
    rw [show ((1 : Nat) : Int) * C = C by simp]; exact this
theorem jac_walk {n : Int} {E : List S98} {C : Int} (g : Gr n E C) {u : Int} (u0 : 0 ≤ u) (u1 : u < n) {v : Int} {k : Nat} {c : Int} (w : Walk E u v k c) : ∀ r : Nat, k ≤ r → rd (jac n E r) v ≤ c := by
  induction w with
  | nil => intro r _; exact jac_hi g u u0 u1 r
  | @cons k c j j0 j1 w ih =>
    intro r hr
    obtain ⟨r, rfl⟩ : ∃ q, r = q + 1 := ⟨r - 1, by omega⟩
    have n0 := g.n0
    have a := ih r (by omega)
    have b := jpa_rel g (D := jac n E r) (by rw [jac_len]; omega) E.length (Nat.le_refl _) j.toNat (by omega)
    rw [show ((j.toNat : Nat) : Int) = j by omega] at b
    rw [jac]; omega
theorem jac_got {n : Int} {E : List S98} {C : Int} (g : Gr n E C) : ∀ (r : Nat) (v : Int), 0 ≤ v → v < n → ∃ (u : Int) (k : Nat), 0 ≤ u ∧ u < n ∧ k ≤ r ∧ Walk E u v k (rd (jac n E r) v)
  | 0, v, v0, v1 => ⟨v, 0, v0, v1, Nat.le_refl _, by rw [jac, rd_replicate _ _ _ v0 (by omega)]; exact Walk.nil⟩
  | r + 1, v, v0, v1 => by
    have n0 := g.n0
    have hD : ((jac n E r).length : Int) = n := by rw [jac_len]; omega
    rcases jpa_got g hD v v0 E.length (Nat.le_refl _) with e | ⟨j, j1, e1, e2⟩
    · obtain ⟨u, k, a, b, c, d⟩ := jac_got g r v v0 v1
      exact ⟨u, k, a, b, by omega, by rw [jac, e]; exact d⟩
    · obtain ⟨⟨a0, a1⟩, -, -⟩ := g.e j (by omega) (by omega)
      obtain ⟨u, k, a, b, c, d⟩ := jac_got g r _ a0 a1
      refine ⟨u, k + 1, a, b, by omega, ?_⟩
      rw [jac, e2, e1]
      exact Walk.cons (by omega) (by omega) d
/-- The rounds settle. -/
theorem jac_feas {n : Int} {E : List S98} {C : Int} (g : Gr n E C) {F : Int → Int} (hF : ∀ i : Int, 0 ≤ i → i < (E.length : Int) → F (rd_T98 E i).f1 ≤ F (rd_T98 E i).f0 + (rd_T98 E i).f3) (i : Int) (i0 : 0 ≤ i) (i1 : i < (E.length : Int)) : rd (jac n E n.toNat) (rd_T98 E i).f1 ≤ rd (jac n E n.toNat) (rd_T98 E i).f0 + (rd_T98 E i).f3 := by
  have n0 := g.n0
  obtain ⟨⟨a0, a1⟩, -, -⟩ := g.e i i0 i1
  obtain ⟨u, k, u0, u1, hk, w⟩ := jac_got g n.toNat _ a0 a1
  obtain ⟨k', c', x1, x2, x3⟩ := Walk.cut g hF u0 u1 _ _ (Walk.cons i0 i1 w)
  have := jac_walk g u0 u1 x3 n.toNat (by omega)
  omega

theorem pot_ws {n : Int} {E : List S98} {C : Int} (g : Gr n E C) {r : Nat} (hr : (r : Int) ≤ n) {i : Nat} (hi : i < E.length) : wrap64 (rd (jac n E r) (rd_T98 E i).f0 + (rd_T98 E i).f3) = rd (jac n E r) (rd_T98 E i).f0 + (rd_T98 E i).f3 := by
  have n1 := g.n1
  have c0 := g.c0
  have c1 := g.c1
  obtain ⟨⟨a0, a1⟩, -, d0, d1⟩ := g.e i (by omega) (by omega)
  have lo := jac_lo g r _ a0 a1
  have hi := jac_hi g _ a0 a1 r
  have b : (r : Int) * C ≤ 1100 * 134217728 := Int.mul_le_mul (by omega) c1 c0 (by decide)
  generalize (r : Int) * C = z at lo b
  exact wr (by omega) (by omega)
theorem rounds_l1 {n : Int} {E : List S98} {C : Int} (g : Gr n E C) {r : Nat} (hr : (r : Int) ≤ n) (d : Nat) : ∀ i : Nat, i + d = E.length →
    ∀ z, Evl (fun k => compassref08_rounds.l0 k (jac n E (r + 1)) n ((r : Int) + 1) n E) z → Evl (fun k => compassref08_rounds.l1 k (jac n E r) n r (jpa E (jac n E r) i) i n E) z := by
  have n0 := g.n0
  have n1 := g.n1
  have m1 := g.m1
  induction d with
  | zero =>
    intro i hi z hz
    have e : i = E.length := by omega
    subst e
    exact hz.step fun k => by rw [compassref08_rounds.l1, if_neg (by omega), w1 (by omega) (by omega)]; rfl
  | succ d ih =>
    intro i hi z hz
    have gi : (i : Int) < (E.length : Int) := by omega
    have g0 : (0 : Int) ≤ i := by omega
    have il : i < E.length := by omega
    have hD : ((jac n E r).length : Int) = n := by rw [jac_len]; omega
    have hX : ((jpa E (jac n E r) i).length : Int) = n := by rw [jpa_len]; exact hD
    have w : wrap64 ((i : Int) + 1) = ((i + 1 : Nat) : Int) := by rw [w1 (by omega) (by omega)]; rfl
    obtain ⟨⟨a0, a1⟩, ⟨b0, b1⟩, -⟩ := g.e i g0 gi
    have ga : (rd_T98 E i).f0 < ((jac n E r).length : Int) := by omega
    have gb : (rd_T98 E i).f1 < ((jpa E (jac n E r) i).length : Int) := by omega
    have hi0 := jac_hi g _ a0 a1 r
    have big : rd (jac n E r) (rd_T98 E i).f0 < 4611686018427387904 := by omega
    have ws := pot_ws g hr il
    have nxt := ih (i + 1) (by omega) z hz
    by_cases q : rd (jac n E r) (rd_T98 E i).f0 + (rd_T98 E i).f3 < rd (jpa E (jac n E r) i) (rd_T98 E i).f1
    · have ps : jpa E (jac n E r) (i + 1) = (jpa E (jac n E r) i).set (rd_T98 E i).f1.toNat (rd (jac n E r) (rd_T98 E i).f0 + (rd_T98 E i).f3) := by rw [jpa, jst, if_pos q]
      refine nxt.step fun k => ?_
      rw [compassref08_rounds.l1, if_pos gi, if_pos g0, if_pos a0, if_pos ga, if_pos big, if_pos b0, if_pos gb, ws, if_pos q, w, ps]
    · have ps : jpa E (jac n E r) (i + 1) = jpa E (jac n E r) i := by rw [jpa, jst, if_neg q]
      rw [ps] at nxt
      refine nxt.step fun k => ?_
      rw [compassref08_rounds.l1, if_pos gi, if_pos g0, if_pos a0, if_pos ga, if_pos big, if_pos b0, if_pos gb, ws, if_neg q, w]
theorem rounds_l0 {n : Int} {E : List S98} {C : Int} (g : Gr n E C) (d : Nat) : ∀ r : Nat, ((r + d : Nat) : Int) = n → Evl (fun k => compassref08_rounds.l0 k (jac n E r) n r n E) (jac n E n.toNat) := by
  have n0 := g.n0
  have n1 := g.n1
  induction d with
  | zero =>
    intro r hr
    have e : r = n.toNat := by omega
    subst e
    exact Evl.here fun k => by rw [compassref08_rounds.l0, if_neg (by omega)]
  | succ d ih =>
    intro r hr
    have hl := jac_len n E r
    have a := rounds_l1 g (r := r) (by omega) E.length 0 (by omega) _ ((ih (r + 1) (by omega)).congr fun k => rfl)
    exact a.step fun k => by rw [compassref08_rounds.l0, if_pos (by omega), Option.bind_some, if_pos (by rw [hl]; simp; omega), List.nil_append]; rfl
theorem settled_f {n : Int} {E : List S98} {C : Int} (g : Gr n E C) (hf : ∀ i : Int, 0 ≤ i → i < (E.length : Int) → rd (jac n E n.toNat) (rd_T98 E i).f1 ≤ rd (jac n E n.toNat) (rd_T98 E i).f0 + (rd_T98 E i).f3) : Evl (fun k => compassref08_settled.f k n E (jac n E n.toNat)) true := by
  have n0 := g.n0
  have m1 := g.m1
  have hD : ((jac n E n.toNat).length : Int) = n := by rw [jac_len]; omega
  have loop : ∀ (d i : Nat), i + d = E.length → Evl (fun k => compassref08_settled.l0 k (jac n E n.toNat) i n E) true := by
    intro d
    induction d with
    | zero => intro i hi; exact Evl.here fun k => by rw [compassref08_settled.l0, if_neg (by omega)]
    | succ d ih =>
      intro i hi
      have gi : (i : Int) < (E.length : Int) := by omega
      have g0 : (0 : Int) ≤ i := by omega
      have w : wrap64 ((i : Int) + 1) = ((i + 1 : Nat) : Int) := by rw [w1 (by omega) (by omega)]; rfl
      obtain ⟨⟨a0, a1⟩, ⟨b0, b1⟩, -⟩ := g.e i g0 gi
      have ga : (rd_T98 E i).f0 < ((jac n E n.toNat).length : Int) := by omega
      have gb : (rd_T98 E i).f1 < ((jac n E n.toNat).length : Int) := by omega
      have hi0 := jac_hi g _ a0 a1 n.toNat
      have big : rd (jac n E n.toNat) (rd_T98 E i).f0 < 4611686018427387904 := by omega
      have ws := pot_ws g (r := n.toNat) (by omega) (i := i) (by omega)
      have f := hf i g0 gi
      refine (ih (i + 1) (by omega)).step fun k => ?_
      rw [compassref08_settled.l0, if_pos gi, if_pos g0, if_pos a0, if_pos ga, if_pos big, if_pos b0, if_pos gb, ws, if_neg (by omega), w]
  exact (loop E.length 0 (by omega)).congr fun k => rfl
/-- Potentials are found where there are any. -/
theorem potentials_f {n : Int} {E : List S98} (R : Right n E) {C : Int} (g : Gr n E C) (c2 : C ≤ 1048576) {F : Int → Int} (hF : ∀ i : Int, 0 ≤ i → i < (E.length : Int) → F (rd_T98 E i).f1 ≤ F (rd_T98 E i).f0 + (rd_T98 E i).f3) :
    ∃ P, Evl (fun k => compassref08_Potentials.f k n E) (P, 0) ∧ Pots n P ∧ ∀ i : Int, 0 ≤ i → i < (E.length : Int) → rd P (rd_T98 E i).f1 ≤ rd P (rd_T98 E i).f0 + (rd_T98 E i).f3 := by
  obtain ⟨c, a, -, g2, -, -, g5⟩ := check_f n E
  have hc := g5 R
  subst hc
  have n0 := g.n0
  have n1 := g.n1
  have hf := fun i i0 i1 => jac_feas g hF i i0 i1
  refine ⟨jac n E n.toNat, ?_, ⟨by rw [jac_len]; omega, fun v v0 v1 => ?_⟩, hf⟩
  · refine (Evl.bind (h := fun k bt586 => if bt586.1 = 0 then (if 0 ≤ n then (if (n : Int).toNat ≤ 35184372088832 then ((compassref08_rounds.f k n E (List.replicate (n : Int).toNat 0) n).bind fun t591 => ((compassref08_settled.f k n E t591).bind fun t594 => (if t594 = true then (some (t591, (0 : Int))) else (some (([] : List Int), 80))))) else (none)) else (none)) else (some (([] : List Int), bt586.1))) g2 ?_).congr fun k => rfl
    refine Evl.congr (h := fun k => (compassref08_rounds.f k n E (List.replicate (n : Int).toNat 0) n).bind fun t591 => ((compassref08_settled.f k n E t591).bind fun t594 => (if t594 = true then (some (t591, (0 : Int))) else (some (([] : List Int), 80))))) ?_ fun k => by rw [if_pos rfl, if_pos n0, if_pos (by omega)]
    refine Evl.bind (h := fun k t591 => (compassref08_settled.f k n E t591).bind fun t594 => (if t594 = true then (some (t591, (0 : Int))) else (some (([] : List Int), 80)))) ((rounds_l0 g n.toNat 0 (by omega)).congr fun k => rfl) ?_
    exact Evl.bind (h := fun k t594 => if t594 = true then (some (jac n E n.toNat, (0 : Int))) else (some (([] : List Int), 80))) (settled_f g hf) (Evl.pure.congr fun k => by rw [if_pos rfl])
  · have hi := jac_hi g v v0 v1 n.toNat
    have lo := jac_lo g n.toNat v v0 v1
    have b : ((n.toNat : Nat) : Int) * C ≤ 1100 * 1048576 := Int.mul_le_mul (by omega) c2 g.c0 (by decide)
    generalize ((n.toNat : Nat) : Int) * C = z at lo b
    exact ⟨by omega, by omega⟩
end Go.Proofs.Ytkdoihcjhccliaa.G
namespace Go.Proofs.Ytkdoihcjhccliaa.G
open Go.RowKit Go.Proofs.Ytkdoihcjhccliaa.Q Go.Proofs.YtkdoihcjhccliaaW.PrintWords Go.Proofs.YtkdoihcjhccliaaW.PrintLast
set_option linter.unusedVariables false

/-- Where an edge of the residual begins, where it ends, how much may go over it, what it costs. -/
def rf (E : List S98) (i : Int) : Int := if i % 2 = 0 then (rd_T98 E (i / 2)).f0 else (rd_T98 E (i / 2)).f1
def rt (E : List S98) (i : Int) : Int := if i % 2 = 0 then (rd_T98 E (i / 2)).f1 else (rd_T98 E (i / 2)).f0
def rc (E : List S98) (A : List Int) (i : Int) : Int := if i % 2 = 0 then (rd_T98 E (i / 2)).f2 - rd A (i / 2) else rd A (i / 2)
def rk (E : List S98) (i : Int) : Int := if i % 2 = 0 then (rd_T98 E (i / 2)).f3 else -(rd_T98 E (i / 2)).f3
/-- X is the residual of these amounts. -/
structure Resid (E : List S98) (A : List Int) (X : List S98) : Prop where
  len : X.length = 2 * E.length
  el : ∀ i : Int, 0 ≤ i → i < 2 * (E.length : Int) → rd_T98 X i = ⟨rf E i, rt E i, rc E A i, rk E i⟩

theorem rd98_lt (X Y : List S98) (j : Int) (h0 : 0 ≤ j) (h : j < (X.length : Int)) : rd_T98 (X ++ Y) j = rd_T98 X j := by
  unfold rd_T98; rw [getD_append, if_pos (by omega)]
theorem rd98_eq (X : List S98) (e : S98) (j : Int) (h : j = (X.length : Int)) : rd_T98 (X ++ [e]) j = e := by
  subst h; unfold rd_T98; rw [getD_append, if_neg (by omega)]; simp

theorem resid_l0 {n : Int} {E : List S98} (R : Right n E) {A : List Int} (hA : A.length = E.length) (fit : Amts E A) (d : Nat) : ∀ (i : Nat) (X : List S98), i + d = E.length → X.length = 2 * i →
    (∀ j : Int, 0 ≤ j → j < 2 * (i : Int) → rd_T98 X j = ⟨rf E j, rt E j, rc E A j, rk E j⟩) → ∃ Y, Evl (fun k => compassref11_Residual.l0 k A i n E n X) (n, Y) ∧ Resid E A Y := by
  have m1 := R.m1
  induction d with
  | zero =>
    intro i X hi hX h
    refine ⟨X, Evl.here fun k => by rw [compassref11_Residual.l0, if_neg (by omega)], ⟨by omega, fun j h0 h1 => h j h0 (by omega)⟩⟩
  | succ d ih =>
    intro i X hi hX h
    have e := R.e i (by omega) (by omega)
    have a := fit i (by omega) (by omega)
    have c1 := e.c1
    have d0 := e.d0
    have d1 := e.d1
    have ev : (2 * (i : Int)) % 2 = 0 := by omega
    have ed : (2 * (i : Int)) / 2 = i := by omega
    have ov : ¬ (2 * (i : Int) + 1) % 2 = 0 := by omega
    have od : (2 * (i : Int) + 1) / 2 = i := by omega
    have key : ∀ j : Int, 0 ≤ j → j < 2 * ((i + 1 : Nat) : Int) → rd_T98 (X ++ [(⟨(rd_T98 E i).f0, (rd_T98 E i).f1, wrap64 (((rd_T98 E i).f2) - (rd A i)), (rd_T98 E i).f3⟩ : S98)] ++ [(⟨(rd_T98 E i).f1, (rd_T98 E i).f0, rd A i, wrap64 (-((rd_T98 E i).f3))⟩ : S98)]) j = ⟨rf E j, rt E j, rc E A j, rk E j⟩ := by
      intro j h0 h1
      by_cases q : j < 2 * (i : Int)
      · rw [rd98_lt _ _ _ h0 (by simp; omega), rd98_lt _ _ _ h0 (by omega)]; exact h j h0 q
      · by_cases q1 : j = 2 * (i : Int)
        · rw [rd98_lt _ _ _ h0 (by simp; omega), rd98_eq _ _ _ (by omega), q1]
          unfold rf rt rc rk
          rw [if_pos ev, if_pos ev, if_pos ev, if_pos ev, ed, wr (by omega) (by omega)]
        · have q2 : j = 2 * (i : Int) + 1 := by omega
          rw [rd98_eq _ _ _ (by simp; omega), q2]
          unfold rf rt rc rk
          rw [if_neg ov, if_neg ov, if_neg ov, if_neg ov, od, wr (by omega) (by omega)]
    obtain ⟨Y, y1, y2⟩ := ih (i + 1) _ (by omega) (by simp; omega) key
    refine ⟨Y, y1.step fun k => ?_, y2⟩
    rw [compassref11_Residual.l0, if_pos (by omega), if_pos (by omega), if_pos (by omega), if_pos (by omega), Option.bind_some, if_pos (by simp; omega), w1 (by omega) (by omega)]; rfl
theorem resid_f {n : Int} {E : List S98} (R : Right n E) {A : List Int} (hA : A.length = E.length) (fit : Amts E A) : ∃ X, Evl (fun k => compassref11_Residual.f k n E A) (n, X) ∧ Resid E A X :=
  resid_l0 R hA fit E.length 0 [] (by omega) rfl fun j h0 h1 => by omega

/-- Changes along edges of the residual, one behind the other. -/
def put (A : List Int) (i x : Int) : List Int := A.set (i / 2).toNat (if i % 2 = 0 then rd A (i / 2) + x else rd A (i / 2) - x)
def chg (x : Int) : List Int → List Int → List Int
  | A, [] => A
  | A, i :: L => chg x (put A i x) L
/-- The changes fit: each edge once, as far as there is room. -/
structure Fit (E : List S98) (A L : List Int) (x : Int) : Prop where
  x0 : 0 ≤ x
  el : ∀ i ∈ L, 0 ≤ i ∧ i < 2 * (E.length : Int) ∧ x ≤ rc E A i
  one : L.Pairwise fun a b => a / 2 ≠ b / 2

theorem put_rd {E : List S98} {A : List Int} {i x : Int} (hA : A.length = E.length) (h0 : 0 ≤ i) (h1 : i < 2 * (E.length : Int)) (j : Int) (j0 : 0 ≤ j) : rd (put A i x) j = if j = i / 2 then (if i % 2 = 0 then rd A (i / 2) + x else rd A (i / 2) - x) else rd A j :=
  rd_set _ _ _ _ (by omega) (by omega) j0
theorem put_len (A : List Int) (i x : Int) : (put A i x).length = A.length := by unfold put; rw [List.length_set]
theorem put_rc {E : List S98} {A : List Int} {i x : Int} (hA : A.length = E.length) (h0 : 0 ≤ i) (h1 : i < 2 * (E.length : Int)) {j : Int} (j0 : 0 ≤ j) (hj : i / 2 ≠ j / 2) : rc E (put A i x) j = rc E A j := by
  have z : rd (put A i x) (j / 2) = rd A (j / 2) := by rw [put_rd hA h0 h1 _ (by omega), if_neg (fun e => hj e.symm)]
  unfold rc; rw [z]
theorem put_fit {E : List S98} {A : List Int} {i x : Int} (hA : A.length = E.length) (fit : Amts E A) (h0 : 0 ≤ i) (h1 : i < 2 * (E.length : Int)) (x0 : 0 ≤ x) (hx : x ≤ rc E A i) : Amts E (put A i x) := by
  intro j j0 j1
  have a := fit j j0 j1
  rw [put_rd hA h0 h1 j j0]
  unfold rc at hx
  by_cases q : j = i / 2
  · rw [if_pos q]; rw [q] at a ⊢
    split at hx <;> rename_i z
    · rw [if_pos z]; omega
    · rw [if_neg z]; omega
  · rw [if_neg q]; exact a
theorem Fit.tail {E : List S98} {A L : List Int} {i x : Int} (hA : A.length = E.length) (h : Fit E A (i :: L) x) : Fit E (put A i x) L x := by
  obtain ⟨a0, a1, -⟩ := h.el i (List.mem_cons_self ..)
  have p := List.pairwise_cons.mp h.one
  refine ⟨h.x0, fun j hj => ?_, p.2⟩
  obtain ⟨b0, b1, b2⟩ := h.el j (List.mem_cons_of_mem _ hj)
  exact ⟨b0, b1, by rw [put_rc hA a0 a1 b0 (p.1 j hj)]; exact b2⟩
theorem chg_len (x : Int) : ∀ (L A : List Int), (chg x A L).length = A.length
  | [], A => rfl
  | i :: L, A => by rw [chg, chg_len x L, put_len]
theorem chg_fit {E : List S98} {x : Int} : ∀ (L A : List Int), A.length = E.length → Amts E A → Fit E A L x → Amts E (chg x A L)
  | [], A, _, fit, _ => fit
  | i :: L, A, hA, fit, h => by
    obtain ⟨a0, a1, a2⟩ := h.el i (List.mem_cons_self ..)
    exact chg_fit L _ (by rw [put_len]; exact hA) (put_fit hA fit a0 a1 h.x0 a2) (h.tail hA)

theorem net_put {E : List S98} {A : List Int} {i x : Int} (hA : A.length = E.length) (h0 : 0 ≤ i) (h1 : i < 2 * (E.length : Int)) (v : Int) : ∀ m : Nat, m ≤ E.length →
    net E (put A i x) v m = net E A v m + (if i / 2 < (m : Int) then (if rf E i = v then x else 0) - (if rt E i = v then x else 0) else 0) := by
  intro m
  induction m with
  | zero => intro _; rw [if_neg (by omega)]; rfl
  | succ m ih =>
    intro hm
    simp only [net]
    rw [ih (by omega), put_rd hA h0 h1 m (by omega)]
    by_cases q : (m : Int) = i / 2
    · rw [if_pos q, if_neg (show ¬ i / 2 < (m : Int) by omega), if_pos (show i / 2 < ((m + 1 : Nat) : Int) by omega), ← q]
      unfold rf rt
      rw [← q]
      by_cases e : i % 2 = 0
      · rw [if_pos e, if_pos e, if_pos e]
        by_cases u1 : (rd_T98 E m).f0 = v <;> by_cases u2 : (rd_T98 E m).f1 = v <;> simp only [u1, u2, eq_self, if_true, if_false] <;> omega
      · rw [if_neg e, if_neg e, if_neg e]
        by_cases u1 : (rd_T98 E m).f0 = v <;> by_cases u2 : (rd_T98 E m).f1 = v <;> simp only [u1, u2, eq_self, if_true, if_false] <;> omega
    · rw [if_neg q]
      by_cases q1 : i / 2 < (m : Int)
      · rw [if_pos q1, if_pos (show i / 2 < ((m + 1 : Nat) : Int) by omega)]; omega
      · rw [if_neg q1, if_neg (show ¬ i / 2 < ((m + 1 : Nat) : Int) by omega)]; omega
/-- How often edges leave a node, less how often they come to it. -/
def flux (E : List S98) (v : Int) : List Int → Int
  | [] => 0
  | i :: L => flux E v L + (if rf E i = v then 1 else 0) - (if rt E i = v then 1 else 0)
theorem net_chg {E : List S98} {x v : Int} : ∀ (L A : List Int), A.length = E.length → Fit E A L x → net E (chg x A L) v E.length = net E A v E.length + x * flux E v L
  | [], A, _, _ => by rw [chg, flux]; omega
  | i :: L, A, hA, h => by
    obtain ⟨a0, a1, a2⟩ := h.el i (List.mem_cons_self ..)
    rw [chg, net_chg L _ (by rw [put_len]; exact hA) (h.tail hA), net_put hA a0 a1 v _ (Nat.le_refl _), if_pos (by omega), flux, Int.mul_sub, Int.mul_add]
    split <;> split <;> omega

theorem change_l0 {n : Int} {E : List S98} (R : Right n E) {L : List Int} {x : Int} (hL : (L.length : Int) ≤ 1000000) (d : Nat) : ∀ (i : Nat) (A : List Int), i + d = L.length → A.length = E.length → Amts E A → Fit E A (L.drop i) x →
    Evl (fun k => compassref11_change.l0 k L x A i) (chg x A (L.drop i)) := by
  have m1 := R.m1
  induction d with
  | zero =>
    intro i A hi hA fit h
    rw [List.drop_eq_nil_of_le (by omega)]
    exact Evl.here fun k => by rw [compassref11_change.l0, if_neg (by omega)]; rfl
  | succ d ih =>
    intro i A hi hA fit h
    have e : L.drop i = rd L i :: L.drop (i + 1) := by
      rw [List.drop_eq_getElem_cons (by omega)]; unfold rd; rw [List.getD_eq_getElem?_getD, show ((i : Int).toNat) = i by omega, List.getElem?_eq_getElem (by omega)]; rfl
    rw [e] at h ⊢
    obtain ⟨a0, a1, a2⟩ := h.el (rd L i) (List.mem_cons_self ..)
    have t1 := ih (i + 1) (put A (rd L i) x) (by omega) (by rw [put_len]; exact hA) (put_fit hA fit a0 a1 h.x0 a2) (h.tail hA)
    have ft := fit (rd L i / 2) (by omega) (by omega)
    have c1 := (R.e (rd L i / 2) (by omega) (by omega)).c1
    have x0 := h.x0
    refine t1.step fun k => ?_
    rw [compassref11_change.l0, if_pos (by omega), if_pos (by omega), Int.tmod_eq_emod_of_nonneg a0, Int.tdiv_eq_ediv_of_nonneg a0, wr (by omega) (by omega), w1 (by omega) (by omega)]
    unfold rc at a2
    by_cases q : rd L i % 2 = 0
    · rw [if_pos q] at a2
      rw [if_pos q, if_pos (by omega), if_pos (by omega), wr (by omega) (by omega), put, if_pos q]; rfl
    · rw [if_neg q] at a2
      rw [if_neg q, if_pos (by omega), if_pos (by omega), wr (by omega) (by omega), put, if_neg q]; rfl
theorem change_f {n : Int} {E : List S98} (R : Right n E) {L A : List Int} {x : Int} (hL : (L.length : Int) ≤ 1000000) (hA : A.length = E.length) (fit : Amts E A) (h : Fit E A L x) : Evl (fun k => compassref11_change.f k A L x) (chg x A L) := by
  have m1 := R.m1
  exact (change_l0 R hL L.length 0 A (by omega) hA fit h).congr fun k => by rw [compassref11_change.f, Option.bind_some, if_pos (by simp; omega), List.nil_append]; rfl

theorem room_l0 {E : List S98} {A L : List Int} {X : List S98} (n : Int) (hX : Resid E A X) (hL : (L.length : Int) ≤ 1000000) (hel : ∀ i ∈ L, 0 ≤ i ∧ i < 2 * (E.length : Int)) (d : Nat) : ∀ (i : Nat) (x : Int), i + d = L.length →
    ∃ r, Evl (fun k => compassref11_room.l0 k L x i n X) r ∧ r ≤ x ∧ (∀ j ∈ L.drop i, r ≤ rc E A j) ∧ (r = x ∨ ∃ j ∈ L, r = rc E A j) := by
  induction d with
  | zero =>
    intro i x hi
    refine ⟨x, Evl.here fun k => by rw [compassref11_room.l0, if_neg (by omega)], Int.le_refl _, fun j hj => ?_, Or.inl rfl⟩
    rw [List.drop_eq_nil_of_le (by omega)] at hj; cases hj
  | succ d ih =>
    intro i x hi
    have e : L.drop i = rd L i :: L.drop (i + 1) := by
      rw [List.drop_eq_getElem_cons (by omega)]; unfold rd; rw [List.getD_eq_getElem?_getD, show ((i : Int).toNat) = i by omega, List.getElem?_eq_getElem (by omega)]; rfl
    have mem := rd_mem L i (by omega) (by omega)
    obtain ⟨a0, a1⟩ := hel _ mem
    have xe : (rd_T98 X (rd L i)).f2 = rc E A (rd L i) := by rw [hX.el _ a0 a1]
    have hx := hX.len
    have st : ∀ y : Int, (if rc E A (rd L i) < x then rc E A (rd L i) else x) = y → ∀ r, Evl (fun k => compassref11_room.l0 k L y ((i + 1 : Nat) : Int) n X) r → Evl (fun k => compassref11_room.l0 k L x i n X) r := by
      intro y hy r hr
      refine hr.step fun k => ?_
      rw [compassref11_room.l0, if_pos (by omega), if_pos (by omega), if_pos a0, if_pos (by omega), xe, w1 (by omega) (by omega)]
      by_cases q : rc E A (rd L i) < x
      · rw [if_pos q] at hy ⊢; rw [hy]; rfl
      · rw [if_neg q] at hy ⊢; rw [hy]; rfl
    by_cases q : rc E A (rd L i) < x
    · obtain ⟨r, r1, r2, r3, r4⟩ := ih (i + 1) (rc E A (rd L i)) (by omega)
      refine ⟨r, st _ (if_pos q) r r1, by omega, fun j hj => ?_, Or.inr ?_⟩
      · rw [e] at hj
        rcases List.mem_cons.mp hj with rfl | hj
        · exact r2
        · exact r3 j hj
      · rcases r4 with rfl | h
        · exact ⟨_, mem, rfl⟩
        · exact h
    · obtain ⟨r, r1, r2, r3, r4⟩ := ih (i + 1) x (by omega)
      refine ⟨r, st _ (if_neg q) r r1, r2, fun j hj => ?_, r4⟩
      rw [e] at hj
      rcases List.mem_cons.mp hj with rfl | hj
      · omega
      · exact r3 j hj
theorem room_f {E : List S98} {A L : List Int} {X : List S98} (n : Int) (hX : Resid E A X) (hL : (L.length : Int) ≤ 1000000) (h0 : L ≠ []) (hel : ∀ i ∈ L, 0 ≤ i ∧ i < 2 * (E.length : Int)) :
    ∃ r, Evl (fun k => compassref11_room.f k n X L) r ∧ (∀ j ∈ L, r ≤ rc E A j) ∧ ∃ j ∈ L, r = rc E A j := by
  have l0 : 0 < L.length := List.length_pos_iff.mpr h0
  have mem := rd_mem L 0 (by omega) (by omega)
  obtain ⟨a0, a1⟩ := hel _ mem
  have xe : (rd_T98 X (rd L 0)).f2 = rc E A (rd L 0) := by rw [hX.el _ a0 a1]
  have hx := hX.len
  obtain ⟨r, r1, r2, r3, r4⟩ := room_l0 n hX hL hel (L.length - 1) 1 (rc E A (rd L 0)) (by omega)
  refine ⟨r, r1.congr fun k => ?_, fun j hj => ?_, ?_⟩
  · rw [compassref11_room.f, if_pos (by omega), if_pos a0, if_pos (by omega), xe]; rfl
  · cases L with
    | nil => exact absurd rfl h0
    | cons a L =>
      rcases List.mem_cons.mp hj with rfl | hj
      · exact r2
      · exact r3 j hj
  · rcases r4 with rfl | h
    · exact ⟨_, mem, rfl⟩
    · exact h
end Go.Proofs.Ytkdoihcjhccliaa.G
namespace Go.Proofs.Ytkdoihcjhccliaa.G
open Go.RowKit Go.Proofs.Ytkdoihcjhccliaa.Q Go.Proofs.YtkdoihcjhccliaaW.PrintWords Go.Proofs.YtkdoihcjhccliaaW.PrintLast
set_option linter.unusedVariables false

theorem rf_in {n : Int} {E : List S98} (R : Right n E) {i : Int} (h0 : 0 ≤ i) (h1 : i < 2 * (E.length : Int)) : 0 ≤ rf E i ∧ rf E i < n := by
  have e := R.e (i / 2) (by omega) (by omega)
  unfold rf; split
  · exact ⟨e.a0, e.a1⟩
  · exact ⟨e.b0, e.b1⟩
theorem rt_in {n : Int} {E : List S98} (R : Right n E) {i : Int} (h0 : 0 ≤ i) (h1 : i < 2 * (E.length : Int)) : 0 ≤ rt E i ∧ rt E i < n := by
  have e := R.e (i / 2) (by omega) (by omega)
  unfold rt; split
  · exact ⟨e.b0, e.b1⟩
  · exact ⟨e.a0, e.a1⟩

/-- How many nodes are not come to. -/
def un : List Int → Nat
  | [] => 0
  | x :: V => un V + (if x = -2 then 1 else 0)
theorem un_set : ∀ (V : List Int) (j : Nat) (x : Int), j < V.length → V.getD j 0 = -2 → x ≠ -2 → un (V.set j x) + 1 = un V
  | [], j, x, h, _, _ => by simp at h
  | y :: V, 0, x, _, h, hx => by
    have hy : y = -2 := h
    rw [List.set_cons_zero, un, un, if_neg hx, if_pos hy]
  | y :: V, j + 1, x, h, hj, hx => by
    have a := un_set V j x (by simpa using h) hj hx
    rw [List.set_cons_succ, un, un]; omega
theorem un_le : ∀ V : List Int, un V ≤ V.length
  | [] => Nat.le_refl _
  | y :: V => by have := un_le V; rw [un, List.length_cons]; split <;> omega
theorem un_zero : ∀ (V : List Int), un V = 0 → ∀ j : Nat, j < V.length → V.getD j 0 ≠ -2
  | [], _, j, h => by simp at h
  | y :: V, hu, 0, _ => by
    intro hy
    have hy' : y = -2 := hy
    rw [un, if_pos hy'] at hu; omega
  | y :: V, hu, j + 1, h => un_zero V (by rw [un] at hu; omega) j (by simpa using h)

/-- The nodes that were come to, each by an edge with room from one of a lesser height. -/
structure Tree (n : Int) (E : List S98) (A : List Int) (s : Int) (V : List Int) (h : Int → Nat) : Prop where
  len : (V.length : Int) = n
  src : rd V s = -1
  top : ∀ v, h v + un V ≤ n.toNat
  el : ∀ v : Int, 0 ≤ v → v < n → rd V v = -2 ∨ (v = s ∧ rd V v = -1) ∨ (v ≠ s ∧ 0 ≤ rd V v ∧ rd V v < 2 * (E.length : Int) ∧ rt E (rd V v) = v ∧ 0 < rc E A (rd V v) ∧ -1 ≤ rd V (rf E (rd V v)) ∧ h (rf E (rd V v)) < h v)
/-- No edge with room leads out of what was come to. -/
def ClosedR (E : List S98) (A V : List Int) : Prop := ∀ i : Int, 0 ≤ i → i < 2 * (E.length : Int) → 0 < rc E A i → -1 ≤ rd V (rf E i) → rd V (rt E i) ≠ -2

theorem Tree.grow {n : Int} {E : List S98} (R : Right n E) {A V : List Int} {s : Int} {h : Int → Nat} (T : Tree n E A s V h) {i : Int} (h0 : 0 ≤ i) (h1 : i < 2 * (E.length : Int)) (c : 0 < rc E A i) (f : -1 ≤ rd V (rf E i)) (t : rd V (rt E i) = -2) (s0 : 0 ≤ s) (s1 : s < n) :
    ∃ h' : Int → Nat, Tree n E A s (V.set (rt E i).toNat i) h' ∧ un (V.set (rt E i).toNat i) < un V := by
  obtain ⟨f0, f1⟩ := rf_in R h0 h1
  obtain ⟨t0, t1⟩ := rt_in R h0 h1
  have hl := T.len
  have u : un (V.set (rt E i).toNat i) + 1 = un V := un_set V _ i (by omega) t (by omega)
  have ts : rt E i ≠ s := fun e => by rw [e, T.src] at t; omega
  have rv : ∀ v : Int, 0 ≤ v → rd (V.set (rt E i).toNat i) v = if v = rt E i then i else rd V v := fun v v0 => rd_set _ _ _ _ t0 (by omega) v0
  have ft : rf E i ≠ rt E i := fun e => by rw [e] at f; omega
  refine ⟨fun v => if v = rt E i then h (rf E i) + 1 else h v, ⟨by rw [List.length_set]; exact hl, ?_, fun v => ?_, fun v v0 v1 => ?_⟩, by omega⟩
  · rw [rv s s0, if_neg (fun e => ts e.symm)]; exact T.src
  · show (if v = rt E i then h (rf E i) + 1 else h v) + _ ≤ _
    have a := T.top v
    have b := T.top (rf E i)
    split <;> omega
  · rw [rv v v0]
    by_cases q : v = rt E i
    · rw [if_pos q]
      refine Or.inr (Or.inr ⟨fun e => ts (q.symm.trans e), h0, h1, q.symm, c, ?_, ?_⟩)
      · rw [rv _ f0, if_neg ft]; exact f
      · show (if rf E i = rt E i then h (rf E i) + 1 else h (rf E i)) < (if v = rt E i then h (rf E i) + 1 else h v)
        rw [if_pos q, if_neg ft]; omega
    · rw [if_neg q]
      rcases T.el v v0 v1 with a | a | ⟨a1, a2, a3, a4, a5, a6, a7⟩
      · exact Or.inl a
      · exact Or.inr (Or.inl a)
      · obtain ⟨g0, g1⟩ := rf_in R a2 a3
        have gt : rf E (rd V v) ≠ rt E i := fun e => by rw [e] at a6; omega
        refine Or.inr (Or.inr ⟨a1, a2, a3, a4, a5, ?_, ?_⟩)
        · rw [rv _ g0, if_neg gt]; exact a6
        · show (if rf E (rd V v) = rt E i then h (rf E i) + 1 else h (rf E (rd V v))) < (if v = rt E i then h (rf E i) + 1 else h v)
          rw [if_neg gt, if_neg q]; exact a7

/-- One round over the edges. -/
theorem reach_l2 {n : Int} {E : List S98} (R : Right n E) {A : List Int} {s : Int} {X : List S98} (hX : Resid E A X) (s0 : 0 ≤ s) (s1 : s < n) (x7 : Int) (d : Nat) : ∀ (i : Nat) (V : List Int) (h : Int → Nat), i + d = 2 * E.length → Tree n E A s V h →
    ∃ (V' : List Int) (h' : Int → Nat), Tree n E A s V' h' ∧ ((V' = V ∧ ∀ j : Int, (i : Int) ≤ j → j < 2 * (E.length : Int) → 0 < rc E A j → -1 ≤ rd V (rf E j) → rd V (rt E j) ≠ -2) ∨ (un V' < un V ∧ ¬ ClosedR E A V)) ∧
      ∀ r, Evl (fun k => compassref11_reach.l1 k V' (wrap64 (x7 + 1)) n X) r → Evl (fun k => compassref11_reach.l2 k V x7 i n X) r := by
  have m1 := R.m1
  have hx := hX.len
  induction d with
  | zero =>
    intro i V h hi T
    refine ⟨V, h, T, Or.inl ⟨rfl, fun j j0 j1 => by omega⟩, fun r hr => hr.step fun k => by rw [compassref11_reach.l2, if_neg (by omega)]⟩
  | succ d ih =>
    intro i V h hi T
    have hl := T.len
    have i0 : (0 : Int) ≤ i := by omega
    have i1 : (i : Int) < 2 * (E.length : Int) := by omega
    have g : (i : Int) < (X.length : Int) := by omega
    have id : i + 1 + d = 2 * E.length := by omega
    have w : wrap64 ((i : Int) + 1) = ((i + 1 : Nat) : Int) := by rw [w1 (by omega) (by omega)]; rfl
    obtain ⟨f0, f1⟩ := rf_in R i0 i1
    obtain ⟨t0, t1⟩ := rt_in R i0 i1
    rw [← hl] at f1 t1
    have xe := hX.el i i0 i1
    have x0 : (rd_T98 X i).f0 = rf E i := by rw [xe]
    have x1 : (rd_T98 X i).f1 = rt E i := by rw [xe]
    have x2 : (rd_T98 X i).f2 = rc E A i := by rw [xe]
    have stay : (0 < rc E A i → -1 ≤ rd V (rf E i) → rd V (rt E i) ≠ -2) → (∀ r k, compassref11_reach.l2 k V x7 ((i + 1 : Nat) : Int) n X = r → compassref11_reach.l2 (k + 1) V x7 i n X = r) →
        ∃ (V' : List Int) (h' : Int → Nat), Tree n E A s V' h' ∧ ((V' = V ∧ ∀ j : Int, (i : Int) ≤ j → j < 2 * (E.length : Int) → 0 < rc E A j → -1 ≤ rd V (rf E j) → rd V (rt E j) ≠ -2) ∨ (un V' < un V ∧ ¬ ClosedR E A V)) ∧
          ∀ r, Evl (fun k => compassref11_reach.l1 k V' (wrap64 (x7 + 1)) n X) r → Evl (fun k => compassref11_reach.l2 k V x7 i n X) r := by
      intro no st
      obtain ⟨V', h', a1, a2, a3⟩ := ih (i + 1) V h id T
      refine ⟨V', h', a1, ?_, fun r hr => (a3 r hr).step fun k => st _ k rfl⟩
      rcases a2 with ⟨b1, b2⟩ | b
      · refine Or.inl ⟨b1, fun j j0 j1 => ?_⟩
        by_cases q : j = i
        · rw [q]; exact no
        · exact b2 j (by rw [Int.natCast_add]; exact Int.lt_iff_add_one_le.mp (Int.lt_iff_le_and_ne.mpr ⟨j0, fun z => q z.symm⟩)) j1
      · exact Or.inr b
    by_cases c : rc E A i > 0
    · by_cases f : rd V (rf E i) ≥ -1
      · by_cases t : rd V (rt E i) = -2
        · obtain ⟨h1, T1, u1⟩ := T.grow R i0 i1 c f t s0 s1
          obtain ⟨V', h', a1, a2, a3⟩ := ih (i + 1) _ h1 id T1
          refine ⟨V', h', a1, Or.inr ⟨?_, fun z => z i i0 i1 c f t⟩, fun r hr => (a3 r hr).step fun k => ?_⟩
          · rcases a2 with ⟨b1, b2⟩ | b
            · rw [b1]; exact u1
            · exact Nat.lt_trans b.1 u1
          · rw [compassref11_reach.l2, if_pos g, if_pos i0, x2, x0, x1, if_pos c, if_pos f0, if_pos f1, if_pos f, if_pos t0, if_pos t1, if_pos t, w]
        · exact stay (fun _ _ => t) fun r k e => by rw [compassref11_reach.l2, if_pos g, if_pos i0, x2, x0, x1, if_pos c, if_pos f0, if_pos f1, if_pos f, if_pos t0, if_pos t1, if_neg t, w]; exact e
      · exact stay (fun _ z => absurd z f) fun r k e => by rw [compassref11_reach.l2, if_pos g, if_pos i0, x2, x0, x1, if_pos c, if_pos f0, if_pos f1, if_neg f, w]; exact e
    · exact stay (fun z => absurd z c) fun r k e => by rw [compassref11_reach.l2, if_pos g, if_pos i0, x2, x0, x1, if_neg c, w]; exact e

theorem reach_l1 {n : Int} {E : List S98} (R : Right n E) {A : List Int} {s : Int} {X : List S98} (hX : Resid E A X) (s0 : 0 ≤ s) (s1 : s < n) (d : Nat) : ∀ (i : Nat) (V : List Int) (h : Int → Nat), ((i + d : Nat) : Int) = n → Tree n E A s V h → (un V ≤ d ∨ ClosedR E A V) →
    ∃ (V' : List Int) (h' : Int → Nat), Evl (fun k => compassref11_reach.l1 k V i n X) V' ∧ Tree n E A s V' h' ∧ ClosedR E A V' := by
  have n1 := R.n1
  induction d with
  | zero =>
    intro i V h hi T u
    refine ⟨V, h, Evl.here fun k => by rw [compassref11_reach.l1, if_neg (by omega)], T, ?_⟩
    rcases u with u | u
    · intro i i0 i1 _ _
      obtain ⟨t0, t1⟩ := rt_in R i0 i1
      have hl := T.len
      exact un_zero V (by omega) _ (by omega)
    · exact u
  | succ d ih =>
    intro i V h hi T u
    obtain ⟨V1, h1, T1, a2, a3⟩ := reach_l2 R hX s0 s1 i (2 * E.length) 0 V h (by omega) T
    have w : wrap64 ((i : Int) + 1) = ((i + 1 : Nat) : Int) := by rw [w1 (by omega) (by omega)]; rfl
    rw [w] at a3
    obtain ⟨V', h', b1, b2, b3⟩ := ih (i + 1) V1 h1 (by omega) T1 (by
      rcases a2 with ⟨c1, c2⟩ | ⟨c1, c2⟩
      · right; rw [c1]; exact fun j j0 j1 => c2 j (by omega) j1
      · rcases u with u | u
        · left; omega
        · exact absurd u c2)
    exact ⟨V', h', (a3 V' b1).step fun k => by rw [compassref11_reach.l1, if_pos (by omega)]; rfl, b2, b3⟩

theorem un_replicate (m : Nat) : un (List.replicate m (-2)) = m := by
  induction m with
  | zero => rfl
  | succ m ih => rw [List.replicate_succ, un, ih, if_pos rfl]
theorem reach_l0 {n s : Int} {X : List S98} (n1 : n ≤ 1024) (s0 : 0 ≤ s) (s1 : s < n) (d : Nat) : ∀ (i : Nat) (V : List Int), ((i + d : Nat) : Int) = n → (V.length : Int) = n → (∀ j : Int, 0 ≤ j → j < (i : Int) → rd V j = -2) →
    ∀ r, Evl (fun k => compassref11_reach.l1 k ((List.replicate n.toNat (-2)).set s.toNat (-1)) 0 n X) r → Evl (fun k => compassref11_reach.l0 k s V i n X) r := by
  induction d with
  | zero =>
    intro i V hi hV h r hr
    have e : V = List.replicate n.toNat (-2) := ext_rd _ _ (by rw [List.length_replicate]; omega) fun j j0 j1 => by rw [h j j0 (by omega), rd_replicate _ _ _ j0 (by omega)]
    refine hr.step fun k => ?_
    rw [compassref11_reach.l0, if_neg (by omega), if_pos s0, if_pos (by omega), e]
  | succ d ih =>
    intro i V hi hV h r hr
    have w : wrap64 ((i : Int) + 1) = ((i + 1 : Nat) : Int) := by rw [w1 (by omega) (by omega)]; rfl
    refine (ih (i + 1) (V.set (i : Int).toNat (-2)) (by omega) (by rw [List.length_set]; exact hV) (fun j j0 j1 => ?_) r hr).step fun k => ?_
    · rw [rd_set _ _ _ _ (by omega) (by omega) j0]
      by_cases q : j = i
      · rw [if_pos q]
      · rw [if_neg q]; exact h j j0 (by omega)
    · rw [compassref11_reach.l0, if_pos (by omega), if_pos (by omega), if_pos (by omega), w]
theorem reach_f {n : Int} {E : List S98} (R : Right n E) {A : List Int} {s : Int} {X : List S98} (hX : Resid E A X) (s0 : 0 ≤ s) (s1 : s < n) :
    ∃ (V : List Int) (h : Int → Nat), Evl (fun k => compassref11_reach.f k n X s) V ∧ Tree n E A s V h ∧ ClosedR E A V := by
  have n0 := R.n0
  have n1 := R.n1
  have hl : ((List.replicate n.toNat (-2 : Int)).length : Int) = n := by rw [List.length_replicate]; omega
  have rv : ∀ v : Int, 0 ≤ v → v < n → rd ((List.replicate n.toNat (-2 : Int)).set s.toNat (-1)) v = if v = s then -1 else -2 := fun v v0 v1 => by
    rw [rd_set _ _ _ _ s0 (by omega) v0, rd_replicate _ _ _ v0 (by omega)]
  have u : un ((List.replicate n.toNat (-2 : Int)).set s.toNat (-1)) + 1 = n.toNat := by
    rw [un_set _ _ _ (by omega) ((rd_replicate _ _ _ s0 (by omega) : rd (List.replicate n.toNat (-2 : Int)) s = -2)) (by decide), un_replicate]
  have T : Tree n E A s ((List.replicate n.toNat (-2 : Int)).set s.toNat (-1)) (fun _ => 0) := by
    refine ⟨by rw [List.length_set]; exact hl, by rw [rv s s0 s1, if_pos rfl], fun v => by omega, fun v v0 v1 => ?_⟩
    rw [rv v v0 v1]
    by_cases q : v = s
    · exact Or.inr (Or.inl ⟨q, if_pos q⟩)
    · exact Or.inl (if_neg q)
  obtain ⟨V, h, a1, a2, a3⟩ := reach_l1 R hX s0 s1 n.toNat 0 _ _ (by omega) T (Or.inl (by omega))
  refine ⟨V, h, (reach_l0 n1 s0 s1 n.toNat 0 (List.replicate n.toNat 0) (by omega) (by rw [List.length_replicate]; omega) (fun j j0 j1 => by omega) V a1).congr fun k => ?_, a2, a3⟩
  rw [compassref11_reach.f, if_pos n0, if_pos (by omega)]; rfl
end Go.Proofs.Ytkdoihcjhccliaa.G
namespace Go.Proofs.Ytkdoihcjhccliaa.G
open Go.RowKit Go.Proofs.Ytkdoihcjhccliaa.Q Go.Proofs.YtkdoihcjhccliaaW.PrintWords Go.Proofs.YtkdoihcjhccliaaW.PrintLast
set_option linter.unusedVariables false

/-- The way back from a node to s. -/
inductive Way (E : List S98) (V : List Int) (s : Int) : Int → List Int → Prop
  | nil : Way E V s s []
  | cons {v : Int} {L : List Int} : v ≠ s → Way E V s (rf E (rd V v)) L → Way E V s v (rd V v :: L)

theorem Tree.way {n : Int} {E : List S98} (R : Right n E) {A V : List Int} {s : Int} {h : Int → Nat} (T : Tree n E A s V h) : ∀ (N : Nat) (v : Int), h v ≤ N → 0 ≤ v → v < n → -1 ≤ rd V v → ∃ L, Way E V s v L := by
  intro N
  induction N with
  | zero =>
    intro v hv v0 v1 r
    rcases T.el v v0 v1 with a | a | a
    · omega
    · rw [a.1]; exact ⟨[], Way.nil⟩
    · have := a.2.2.2.2.2.2; omega
  | succ N ih =>
    intro v hv v0 v1 r
    rcases T.el v v0 v1 with a | a | ⟨a1, a2, a3, a4, a5, a6, a7⟩
    · omega
    · rw [a.1]; exact ⟨[], Way.nil⟩
    · obtain ⟨f0, f1⟩ := rf_in R a2 a3
      obtain ⟨L, hL⟩ := ih (rf E (rd V v)) (by omega) f0 f1 a6
      exact ⟨_, Way.cons a1 hL⟩

/-- What a way is good for. -/
structure Good (E : List S98) (A : List Int) (V : List Int) (s : Int) (h : Int → Nat) (v : Int) (L : List Int) : Prop where
  el : ∀ i ∈ L, 0 ≤ i ∧ i < 2 * (E.length : Int) ∧ 0 < rc E A i ∧ h (rf E i) < h (rt E i) ∧ h (rt E i) ≤ h v
  one : L.Pairwise fun a b => a / 2 ≠ b / 2
  len : L.length ≤ h v
  fl : ∀ w : Int, flux E w L = (if s = w then 1 else 0) - (if v = w then 1 else 0)
theorem Tree.good {n : Int} {E : List S98} (R : Right n E) {A V : List Int} {s : Int} {h : Int → Nat} (T : Tree n E A s V h) {v : Int} {L : List Int} (W : Way E V s v L) : 0 ≤ v → v < n → -1 ≤ rd V v → Good E A V s h v L := by
  induction W with
  | nil => exact fun v0 v1 r => ⟨fun i hi => (by cases hi), List.Pairwise.nil, Nat.zero_le _, fun w => (by rw [flux]; omega)⟩
  | @cons v L vs W ih =>
    intro v0 v1 r
    rcases T.el v v0 v1 with a | a | ⟨a1, a2, a3, a4, a5, a6, a7⟩
    · omega
    · exact absurd a.1 vs
    · obtain ⟨f0, f1⟩ := rf_in R a2 a3
      have G := ih f0 f1 a6
      refine ⟨fun i hi => ?_, List.pairwise_cons.mpr ⟨fun j hj e => ?_, G.one⟩, ?_, fun w => ?_⟩
      · rcases List.mem_cons.mp hi with rfl | hi
        · exact ⟨a2, a3, a5, by rw [a4]; exact a7, by rw [a4]; exact Nat.le_refl _⟩
        · obtain ⟨b1, b2, b3, b4, b5⟩ := G.el i hi
          exact ⟨b1, b2, b3, b4, by omega⟩
      · obtain ⟨b1, b2, b3, b4, b5⟩ := G.el j hj
        by_cases q : rd V v = j
        · rw [← q, a4] at b5; omega
        · have c : rf E j = rt E (rd V v) ∧ rt E j = rf E (rd V v) := by
            unfold rf rt
            rw [← e]
            by_cases z : rd V v % 2 = 0
            · rw [if_neg (show ¬ j % 2 = 0 by omega), if_neg (show ¬ j % 2 = 0 by omega), if_pos z, if_pos z]; exact ⟨rfl, rfl⟩
            · rw [if_pos (show j % 2 = 0 by omega), if_pos (show j % 2 = 0 by omega), if_neg z, if_neg z]; exact ⟨rfl, rfl⟩
          rw [c.1, a4] at b4
          omega
      · have := G.len; rw [List.length_cons]; omega
      · rw [flux, G.fl w, a4]
        by_cases u1 : s = w <;> by_cases u2 : rf E (rd V v) = w <;> by_cases u3 : v = w <;> simp only [u1, u2, u3, if_true, if_false] <;> omega

/-- A flow that is on its way. -/
structure Mid (n : Int) (E : List S98) (s t : Int) (A : List Int) : Prop where
  len : A.length = E.length
  fit : Amts E A
  kept : ∀ v : Int, 0 ≤ v → v < n → v ≠ s → v ≠ t → net E A v E.length = 0
/-- A side that a flow fills. -/
structure Side (n : Int) (E : List S98) (s t : Int) (A : List Int) (B : List Bool) : Prop where
  len : (B.length : Int) = n
  src : rdOf false B s = true
  snk : rdOf false B t = false
  full : ∀ i : Int, 0 ≤ i → i < (E.length : Int) → rdOf false B (rd_T98 E i).f0 = true → rdOf false B (rd_T98 E i).f1 = false → rd A i = (rd_T98 E i).f2
  bare : ∀ i : Int, 0 ≤ i → i < (E.length : Int) → rdOf false B (rd_T98 E i).f0 = false → rdOf false B (rd_T98 E i).f1 = true → rd A i = 0

theorem maxflow_l1 {n : Int} {E : List S98} (n1 : n ≤ 1024) {A V : List Int} (hV : (V.length : Int) = n) (d : Nat) : ∀ (i : Nat) (B : List Bool), ((i + d : Nat) : Int) = n → (B.length : Int) = n → (∀ j : Int, 0 ≤ j → j < (i : Int) → rdOf false B j = decide (-1 ≤ rd V j)) →
    ∃ B', Evl (fun k => compassref11_MaxFlow.l1 k A V B i n E) (A, B') ∧ (B'.length : Int) = n ∧ ∀ j : Int, 0 ≤ j → j < n → rdOf false B' j = decide (-1 ≤ rd V j) := by
  induction d with
  | zero =>
    intro i B hi hB h
    exact ⟨B, Evl.here fun k => by rw [compassref11_MaxFlow.l1, if_neg (by omega)], hB, fun j j0 j1 => h j j0 (by omega)⟩
  | succ d ih =>
    intro i B hi hB h
    have w : wrap64 ((i : Int) + 1) = ((i + 1 : Nat) : Int) := by rw [w1 (by omega) (by omega)]; rfl
    obtain ⟨B', b1, b2, b3⟩ := ih (i + 1) (B.set (i : Int).toNat (decide (rd V i ≥ -1))) (by omega) (by rw [List.length_set]; exact hB) (fun j j0 j1 => by
      rw [rdOf_set _ _ _ _ _ (by omega) (by omega) j0]
      by_cases q : j = i
      · rw [if_pos q, q]
      · rw [if_neg q]; exact h j j0 (by omega))
    exact ⟨B', b1.step fun k => by rw [compassref11_MaxFlow.l1, if_pos (by omega), if_pos (by omega), if_pos (by omega), if_pos (by omega), w], b2, b3⟩

/-- The walk back along the ways. -/
theorem maxflow_l2 {n : Int} {E : List S98} (R : Right n E) {A V : List Int} {s t : Int} {h : Int → Nat} {X : List S98} (hX : Resid E A X) (T : Tree n E A s V h) {v : Int} {L : List Int} (W : Way E V s v L) : 0 ≤ v → v < n → -1 ≤ rd V v → ∀ (M : List Int), (M.length : Int) + h v ≤ 1000000 →
    ∀ r, Evl (fun k => (compassref11_room.f k n X (M ++ L)).bind fun t390 => ((compassref11_change.f k A (M ++ L) t390).bind fun t391 => (compassref11_MaxFlow.l0 k s t t391 n E))) r → Evl (fun k => compassref11_MaxFlow.l2 k s t A V M v n E n X) r := by
  induction W with
  | nil =>
    intro v0 v1 r M hM r hr
    rw [List.append_nil] at hr
    exact hr.step fun k => by rw [compassref11_MaxFlow.l2, if_pos rfl]
  | @cons v L vs W ih =>
    intro v0 v1 r M hM r hr
    rcases T.el v v0 v1 with a | a | ⟨a1, a2, a3, a4, a5, a6, a7⟩
    · omega
    · exact absurd a.1 vs
    · obtain ⟨f0, f1⟩ := rf_in R a2 a3
      have hx := hX.len
      have hl := T.len
      have x0 : (rd_T98 X (rd V v)).f0 = rf E (rd V v) := by rw [hX.el _ a2 a3]
      have ml : ((M ++ [rd V v]).length : Int) = (M.length : Int) + 1 := by rw [List.length_append]; rfl
      refine (ih f0 f1 a6 (M ++ [rd V v]) (by omega) r (by rw [List.append_assoc]; exact hr)).step fun k => ?_
      rw [compassref11_MaxFlow.l2, if_neg vs, if_pos v0, if_pos (by omega), if_pos (by omega), if_pos a2, if_pos (by omega), x0]

theorem net_top {n : Int} {E : List S98} (R : Right n E) {A : List Int} (fit : Amts E A) (v : Int) : net E A v E.length ≤ 4294967296 := by
  have := (net_le (E := E) (v := v) (fit.labs R) E.length (Nat.le_refl _)).2
  have := R.m1
  omega

theorem maxflow_step {n : Int} {E : List S98} (R : Right n E) {s t : Int} (s0 : 0 ≤ s) (s1 : s < n) (t0 : 0 ≤ t) (t1 : t < n) (st : s ≠ t) {A : List Int} (M : Mid n E s t A) :
    (∃ B, Evl (fun k => compassref11_MaxFlow.l0 k s t A n E) (A, B) ∧ Side n E s t A B) ∨
      ∃ A', Mid n E s t A' ∧ net E A s E.length < net E A' s E.length ∧ ∀ r, Evl (fun k => compassref11_MaxFlow.l0 k s t A' n E) r → Evl (fun k => compassref11_MaxFlow.l0 k s t A n E) r := by
  have n0 := R.n0
  have n1 := R.n1
  have m1 := R.m1
  obtain ⟨X, x1, hX⟩ := resid_f R M.len M.fit
  obtain ⟨V, h, v1, T, C⟩ := reach_f R hX s0 s1
  have hl := T.len
  have start : ∀ {r}, Evl (fun k => if rd V t = -2 then (if 0 ≤ n then (if (n : Int).toNat ≤ 281474976710656 then (compassref11_MaxFlow.l1 k A V (List.replicate (n : Int).toNat false) 0 n E) else (none)) else (none)) else (compassref11_MaxFlow.l2 k s t A V ([] : List Int) t n E n X)) r → Evl (fun k => compassref11_MaxFlow.l0 k s t A n E) r := fun hr =>
    (Evl.bind (h := fun k bt376 => (compassref11_reach.f k bt376.1 bt376.2 s).bind fun t381 => (if 0 ≤ t then (if t < (t381.length : Int) then (if rd t381 t = (-2) then (if 0 ≤ n then (if (n : Int).toNat ≤ 281474976710656 then (compassref11_MaxFlow.l1 k A t381 (List.replicate (n : Int).toNat false) 0 n E) else (none)) else (none)) else (compassref11_MaxFlow.l2 k s t A t381 ([] : List Int) t n E bt376.1 bt376.2)) else (none)) else (none))) x1
      (Evl.bind (h := fun k t381 => if 0 ≤ t then (if t < (t381.length : Int) then (if rd t381 t = (-2) then (if 0 ≤ n then (if (n : Int).toNat ≤ 281474976710656 then (compassref11_MaxFlow.l1 k A t381 (List.replicate (n : Int).toNat false) 0 n E) else (none)) else (none)) else (compassref11_MaxFlow.l2 k s t A t381 ([] : List Int) t n E n X)) else (none)) else (none)) v1 (hr.congr fun k => by rw [if_pos t0, if_pos (by omega)]))).step fun k => by rw [compassref11_MaxFlow.l0]
  by_cases q : rd V t = -2
  · left
    obtain ⟨B, b1, b2, b3⟩ := maxflow_l1 n1 (A := A) (E := E) hl n.toNat 0 (List.replicate n.toNat false) (by omega) (by rw [List.length_replicate]; omega) (fun j j0 j1 => by omega)
    refine ⟨B, start (b1.congr fun k => by rw [if_pos q, if_pos n0, if_pos (by omega)]; rfl), b2, by rw [b3 s s0 s1, T.src]; rfl, by rw [b3 t t0 t1, q]; rfl, fun i i0 i1 z0 z1 => ?_, fun i i0 i1 z0 z1 => ?_⟩
    · have e := R.e i i0 i1
      have c := C (2 * i) (by omega) (by omega)
      have a := M.fit i i0 i1
      rw [b3 _ e.a0 e.a1] at z0
      rw [b3 _ e.b0 e.b1] at z1
      have z0 := of_decide_eq_true z0
      have z1 := of_decide_eq_false z1
      unfold rc rf rt at c
      rw [if_pos (by omega), if_pos (by omega), if_pos (by omega), show 2 * i / 2 = i by omega] at c
      rcases T.el _ e.b0 e.b1 with y | y | y
      · by_cases g : 0 < (rd_T98 E i).f2 - rd A i
        · exact absurd y (c g z0)
        · omega
      · omega
      · omega
    · have e := R.e i i0 i1
      have c := C (2 * i + 1) (by omega) (by omega)
      have a := M.fit i i0 i1
      rw [b3 _ e.a0 e.a1] at z0
      rw [b3 _ e.b0 e.b1] at z1
      have z0 := of_decide_eq_false z0
      have z1 := of_decide_eq_true z1
      unfold rc rf rt at c
      rw [if_neg (by omega), if_neg (by omega), if_neg (by omega), show (2 * i + 1) / 2 = i by omega] at c
      rcases T.el _ e.a0 e.a1 with y | y | y
      · by_cases g : 0 < rd A i
        · exact absurd y (c g z1)
        · omega
      · omega
      · omega
  · right
    have rt1 : -1 ≤ rd V t := by
      rcases T.el t t0 t1 with y | y | y
      · exact absurd y q
      · omega
      · omega
    obtain ⟨L, W⟩ := T.way R (h t) t (Nat.le_refl _) t0 t1 rt1
    have G := T.good R W t0 t1 rt1
    have ht := T.top t
    have Ln : L ≠ [] := by
      cases W with
      | nil => exact absurd rfl st
      | cons _ _ => simp
    have Ll : (L.length : Int) ≤ 1000000 := by have := G.len; omega
    obtain ⟨x, r1, r2, j, r3, r4⟩ := room_f n hX Ll Ln (fun i hi => ⟨(G.el i hi).1, (G.el i hi).2.1⟩)
    have xp : 0 < x := by rw [r4]; exact (G.el j r3).2.2.1
    have F : Fit E A L x := ⟨by omega, fun i hi => ⟨(G.el i hi).1, (G.el i hi).2.1, r2 i hi⟩, G.one⟩
    have net' : ∀ w, net E (chg x A L) w E.length = net E A w E.length + x * flux E w L := fun w => net_chg L A M.len F
    refine ⟨chg x A L, ⟨by rw [chg_len]; exact M.len, chg_fit L A M.len M.fit F, fun v v0 v1 a b => ?_⟩, ?_, fun r hr => ?_⟩
    · rw [net', G.fl, M.kept v v0 v1 a b, if_neg (fun e => a e.symm), if_neg (fun e => b e.symm)]; omega
    · rw [net', G.fl, if_pos rfl, if_neg (fun e => st e.symm)]; omega
    · refine start ((maxflow_l2 R hX T W t0 t1 rt1 [] (by rw [List.length_nil]; omega) r ?_).congr fun k => by rw [if_neg q])
      rw [List.nil_append]
      exact Evl.bind (h := fun k t390 => (compassref11_change.f k A L t390).bind fun t391 => compassref11_MaxFlow.l0 k s t t391 n E) r1 (Evl.bind (h := fun k t391 => compassref11_MaxFlow.l0 k s t t391 n E) (change_f R Ll M.len M.fit F) hr)

theorem maxflow_l0 {n : Int} {E : List S98} (R : Right n E) {s t : Int} (s0 : 0 ≤ s) (s1 : s < n) (t0 : 0 ≤ t) (t1 : t < n) (st : s ≠ t) (N : Nat) : ∀ A : List Int, (4294967296 - net E A s E.length).toNat ≤ N → Mid n E s t A →
    ∃ A' B, Evl (fun k => compassref11_MaxFlow.l0 k s t A n E) (A', B) ∧ Mid n E s t A' ∧ Side n E s t A' B := by
  induction N with
  | zero =>
    intro A hN M
    rcases maxflow_step R s0 s1 t0 t1 st M with ⟨B, b1, b2⟩ | ⟨A', a1, a2, a3⟩
    · exact ⟨A, B, b1, M, b2⟩
    · have := net_top R a1.fit s; omega
  | succ N ih =>
    intro A hN M
    rcases maxflow_step R s0 s1 t0 t1 st M with ⟨B, b1, b2⟩ | ⟨A', a1, a2, a3⟩
    · exact ⟨A, B, b1, M, b2⟩
    · obtain ⟨A2, B, c1, c2, c3⟩ := ih A' (by have := net_top R a1.fit s; omega) a1
      exact ⟨A2, B, a3 _ c1, c2, c3⟩
theorem net_bare (E : List S98) (k : Nat) (v : Int) : ∀ i : Nat, net E (List.replicate k 0) v i = 0 := by
  have z : ∀ j : Int, rd (List.replicate k (0 : Int)) j = 0 := fun j => by
    unfold rd; rw [List.getD_eq_getElem?_getD, List.getElem?_replicate]; split <;> rfl
  intro i
  induction i with
  | zero => rfl
  | succ i ih => simp only [net]; rw [ih, z]; split <;> split <;> rfl
/-- There is a greatest flow, and the document finds it, with its side. -/
theorem maxflow_f {n : Int} {E : List S98} (R : Right n E) {s t : Int} (s0 : 0 ≤ s) (s1 : s < n) (t0 : 0 ≤ t) (t1 : t < n) (st : s ≠ t) :
    ∃ A B, Evl (fun k => compassref11_MaxFlow.f k n E s t) (A, B) ∧ Mid n E s t A ∧ Side n E s t A B := by
  have m1 := R.m1
  have M : Mid n E s t (List.replicate E.length 0) := ⟨by rw [List.length_replicate], fun i i0 i1 => by
    have c0 := (R.e i i0 i1).c0
    rw [rd_replicate _ _ _ i0 i1]; exact ⟨Int.le_refl _, c0⟩, fun v _ _ _ _ => net_bare E _ v _⟩
  obtain ⟨A, B, a1, a2, a3⟩ := maxflow_l0 R s0 s1 t0 t1 st _ _ (Nat.le_refl _) M
  refine ⟨A, B, a1.congr fun k => ?_, a2, a3⟩
  rw [compassref11_MaxFlow.f, if_pos (by omega), if_pos (by omega)]; rfl
theorem esum_full {n : Int} {E : List S98} (R : Right n E) {s t : Int} {B : List Bool} {A : List Int} (S : Side n E s t A B) : ∀ i : Nat, i ≤ E.length → esum (ind B) E A i = cut E B i := by
  intro i
  induction i with
  | zero => intro _; rfl
  | succ i ih =>
    intro hi
    have a := ih (by omega)
    simp only [esum, cut, ind]
    rw [a]
    by_cases q0 : rdOf false B (rd_T98 E i).f0 = true
    · by_cases q1 : rdOf false B (rd_T98 E i).f1 = true
      · rw [if_pos q0, if_pos q1, if_neg (by rw [q1]; simp)]; omega
      · have f := S.full i (by omega) (by omega) q0 (by simpa using q1)
        rw [if_pos q0, if_neg q1, if_pos ⟨q0, by simpa using q1⟩, f]; omega
    · rw [if_neg q0, if_neg (show ¬ (rdOf false B (rd_T98 E i).f0 = true ∧ rdOf false B (rd_T98 E i).f1 = false) from fun h => q0 h.1)]
      by_cases q1 : rdOf false B (rd_T98 E i).f1 = true
      · have f := S.bare i (by omega) (by omega) (by simpa using q0) q1
        rw [if_pos q1, f]; omega
      · rw [if_neg q1]; omega
theorem side_cut {n : Int} {E : List S98} (R : Right n E) {s t : Int} (s0 : 0 ≤ s) (s1 : s < n) {B : List Bool} {A : List Int} (M : Mid n E s t A) (S : Side n E s t A B) : net E A s E.length = cut E B E.length := by
  have n0 := R.n0
  have a := wsum_flow (E := E) (A := A) (i := E.length) S.src S.snk s0 n.toNat (fun u a b c d => M.kept u a (by omega) c d)
  rw [if_pos (by omega), wsum_esum R (ind B) A E.length (Nat.le_refl _)] at a
  rw [← a]
  exact esum_full R S E.length (Nat.le_refl _)
end Go.Proofs.Ytkdoihcjhccliaa.G
namespace Go.Proofs.Ytkdoihcjhccliaa.G
open Go.RowKit Go.Proofs.Ytkdoihcjhccliaa.Q Go.Proofs.YtkdoihcjhccliaaW.PrintWords Go.Proofs.YtkdoihcjhccliaaW.PrintLast
set_option linter.unusedVariables false

theorem rd98_set (X : List S98) (e : S98) (i j : Int) (h0 : 0 ≤ i) (h : i < (X.length : Int)) (hj : 0 ≤ j) : rd_T98 (X.set i.toNat e) j = if j = i then e else rd_T98 X j := by
  unfold rd_T98; rw [getD_set _ _ _ _ _ (by omega)]
  by_cases q : j = i
  · rw [if_pos q, if_pos (by omega)]
  · rw [if_neg q, if_neg (by omega)]
theorem copy_f (n : Int) (E : List S98) (hm : (E.length : Int) ≤ 100000) : Evl (fun k => compassref03_Copy.f k n E) (n, E) := by
  have loop : ∀ (d i : Nat), i + d = E.length → Evl (fun k => compassref03_Copy.l0 k i n E n (E.take i)) (n, E) := by
    intro d
    induction d with
    | zero =>
      intro i hi
      rw [List.take_of_length_le (by omega)]
      exact Evl.here fun k => by rw [compassref03_Copy.l0, if_neg (by omega)]
    | succ d ih =>
      intro i hi
      have tk : E.take (i + 1) = E.take i ++ [(⟨(rd_T98 E i).f0, (rd_T98 E i).f1, (rd_T98 E i).f2, (rd_T98 E i).f3⟩ : S98)] := by
        rw [List.take_succ_eq_append_getElem (by omega)]
        unfold rd_T98; rw [List.getD_eq_getElem?_getD, show ((i : Int).toNat) = i by omega, List.getElem?_eq_getElem (by omega)]; rfl
      have hl : (E.take i).length ≤ E.length := List.length_take_le' i E
      refine (ih (i + 1) (by omega)).step fun k => ?_
      rw [compassref03_Copy.l0, if_pos (by omega), if_pos (by omega), if_pos (by omega), w1 (by omega) (by omega), tk]; rfl
  exact (loop E.length 0 (by omega)).congr fun k => rfl

theorem Circ.mem {E : List S98} {L : List Int} (h : Circ E L) : ∀ i ∈ L, 0 ≤ i ∧ i < (E.length : Int) := fun i hi => by
  obtain ⟨j, j0, j1, rfl⟩ := mem_rd hi
  have := h.el j.toNat (by omega)
  rw [show ((j.toNat : Nat) : Int) = j by omega] at this; exact this
theorem nodup_len2 (m : Nat) : ∀ l : List Int, l.Nodup → (∀ x ∈ l, 0 ≤ x ∧ x < (m : Int)) → l.length ≤ m := by
  induction m with
  | zero =>
    intro l _ h
    cases l with
    | nil => exact Nat.le_refl _
    | cons a t => have := h a (by simp); omega
  | succ m ih =>
    intro l hl h
    have := ih (l.erase (m : Int)) (hl.erase _) (fun x hx => by
      rw [hl.mem_erase_iff] at hx
      have := h x hx.2
      have := hx.1
      omega)
    rw [List.length_erase] at this
    split at this <;> omega
theorem nodup_rd2 {l : List Int} {f : Int → Int} (h : ∀ i j : Int, 0 ≤ i → i < j → j < (l.length : Int) → f (rd l i) ≠ f (rd l j)) : (l.map f).Nodup := by
  rw [List.Nodup, List.pairwise_iff_getElem]
  intro i j hi hj hij
  rw [List.length_map] at hi hj
  rw [List.getElem_map, List.getElem_map]
  have := h (i : Int) (j : Int) (by omega) (by omega) (by omega)
  unfold rd at this
  rw [List.getD_eq_getElem?_getD, List.getD_eq_getElem?_getD, show ((i : Int)).toNat = i by omega, show ((j : Int)).toNat = j by omega, List.getElem?_eq_getElem hi, List.getElem?_eq_getElem hj] at this
  exact this
end Go.Proofs.Ytkdoihcjhccliaa.G
namespace Go.Proofs.Ytkdoihcjhccliaa.G
open Go.RowKit Go.Proofs.Ytkdoihcjhccliaa.Q Go.Proofs.YtkdoihcjhccliaaW.PrintWords Go.Proofs.YtkdoihcjhccliaaW.PrintLast
set_option linter.unusedVariables false

/-- Potentials prove the amounts cheapest. -/
def Tight (E : List S98) (A P : List Int) : Prop := ∀ i : Int, 0 ≤ i → i < (E.length : Int) → (red P 1 (rd_T98 E i) > 0 → rd A i = 0) ∧ (red P 1 (rd_T98 E i) < 0 → rd A i = (rd_T98 E i).f2)
/-- Amounts that fit and meet the supplies. -/
structure Meets (n : Int) (E : List S98) (S A : List Int) : Prop where
  len : A.length = E.length
  fit : Amts E A
  out : ∀ v : Int, 0 ≤ v → v < n → net E A v E.length = rd S v

theorem cheap_l2 {E : List S98} {S A P : List Int} (hm : (E.length : Int) ≤ 4096) (hA : A.length = E.length) (d : Nat) : ∀ i : Nat, i + d = E.length → Evl (fun k => proof_Cheapest_1.l2 k E E.length i S A P (totw E A i)) (0, totw E A E.length) := by
  induction d with
  | zero => intro i hi; exact Evl.here fun k => by rw [proof_Cheapest_1.l2, if_neg (by omega), show i = E.length by omega]
  | succ d ih =>
    intro i hi
    have w : wrap64 ((i : Int) + 1) = ((i + 1 : Nat) : Int) := by rw [w1 (by omega) (by omega)]; rfl
    exact (ih (i + 1) (by omega)).step fun k => by rw [proof_Cheapest_1.l2, if_pos (by omega), if_pos (by omega), if_pos (by omega), if_pos (by omega), w]; rfl
theorem cheap_l1 {n : Int} {E : List S98} {S A P C : List Int} (hm : (E.length : Int) ≤ 4096) (hA : A.length = E.length) (fit : Amts E A) (hC : C.length = E.length) (hr : ∀ j : Int, 0 ≤ j → j < (E.length : Int) → rd C j = red P 1 (rd_T98 E j)) (d : Nat) : ∀ i : Nat, i + d = E.length →
    (∀ j : Int, 0 ≤ j → j < (i : Int) → (red P 1 (rd_T98 E j) > 0 → rd A j = 0) ∧ (red P 1 (rd_T98 E j) < 0 → rd A j = (rd_T98 E j).f2)) →
    ∃ r : Int × Int, Evl (fun k => proof_Cheapest_1.l1 k C C.length i n E S A P 0) r ∧ (Tight E A P → r = (0, totw E A E.length)) ∧ (¬ Tight E A P → r = (221, 0)) := by
  induction d with
  | zero =>
    intro i hi hP
    have t : Tight E A P := fun j a b => hP j a (by omega)
    exact ⟨_, (cheap_l2 (S := S) (P := P) hm hA E.length 0 (by omega)).step fun k => by rw [proof_Cheapest_1.l1, if_neg (by omega)]; rfl, fun _ => rfl, fun h => absurd t h⟩
  | succ d ih =>
    intro i hi hP
    have w : wrap64 ((i : Int) + 1) = ((i + 1 : Nat) : Int) := by rw [w1 (by omega) (by omega)]; rfl
    have g : (i : Int) < (E.length : Int) := by omega
    have hi2 := hr i (by omega) g
    have a := fit i (by omega) g
    by_cases ok : (red P 1 (rd_T98 E i) > 0 → rd A i = 0) ∧ (red P 1 (rd_T98 E i) < 0 → rd A i = (rd_T98 E i).f2)
    · obtain ⟨r, e1, e2, e3⟩ := ih (i + 1) (by omega) (fun j j0 j1 => by
        by_cases q : j = i
        · rw [q]; exact ok
        · exact hP j j0 (by omega))
      refine ⟨r, e1.step fun k => ?_, e2, e3⟩
      rw [proof_Cheapest_1.l1, if_pos (by omega), if_pos (by omega), if_pos (by omega), w, hi2]
      by_cases c1 : red P 1 (rd_T98 E i) ≤ 0
      · rw [if_pos c1]
        by_cases c2 : red P 1 (rd_T98 E i) ≥ 0
        · rw [if_pos c2]
        · rw [if_neg c2, if_pos (by omega), if_pos g, if_pos (ok.2 (by omega))]
      · rw [if_neg c1, if_pos (by omega), if_pos (ok.1 (by omega)), if_pos (by omega)]
    · refine ⟨(221, 0), Evl.here fun k => ?_, fun h => absurd (h i (by omega) g) ok, fun _ => rfl⟩
      rw [proof_Cheapest_1.l1, if_pos (by omega), if_pos (by omega), if_pos (by omega), w, hi2]
      by_cases c1 : red P 1 (rd_T98 E i) ≤ 0
      · rw [if_pos c1]
        by_cases c2 : red P 1 (rd_T98 E i) ≥ 0
        · exact absurd ⟨fun h => by omega, fun h => by omega⟩ ok
        · rw [if_neg c2, if_pos (by omega), if_pos g, if_neg (fun h => ok ⟨fun q => by omega, fun _ => h⟩)]
      · rw [if_neg c1, if_pos (by omega), if_neg (fun h => ok ⟨fun _ => h, fun q => by omega⟩)]
theorem cheap_l0 {n : Int} {E : List S98} (R : Right n E) {S A P O : List Int} (hS : (S.length : Int) = n) (hA : A.length = E.length) (fit : Amts E A) (hO : (O.length : Int) = n) (ho : ∀ v : Int, 0 ≤ v → v < n → rd O v = net E A v E.length) (d : Nat) : ∀ i : Nat, ((i + d : Nat) : Int) = n →
    (∀ v : Int, 0 ≤ v → v < (i : Int) → rd O v = rd S v) →
    ∃ r : Int × Int, Evl (fun k => proof_Cheapest_1.l0 k O O.length i n E S A P 0) r ∧ (Meets n E S A ∧ Pots n P ∧ Tight E A P → r = (0, totw E A E.length)) ∧ (¬ (Meets n E S A ∧ Pots n P ∧ Tight E A P) → r = (221, 0)) := by
  have n1 := R.n1
  induction d with
  | zero =>
    intro i hi hP
    have M : Meets n E S A := ⟨hA, fit, fun v v0 v1 => by rw [← ho v v0 v1]; exact hP v v0 (by omega)⟩
    obtain ⟨cr, e1, e2, e3⟩ := reduced_f R P (q := 1) (by omega) (by omega)
    have go : ∀ {r : Int × Int}, Evl (fun k => if cr.1 = 0 then (proof_Cheapest_1.l1 k cr.2 (cr.2.length : Int) 0 n E S A P 0) else (some (cr.1, 0))) r → Evl (fun k => proof_Cheapest_1.l0 k O O.length i n E S A P 0) r := fun h =>
      (Evl.bind (h := fun k bt170 => if bt170.1 = 0 then (proof_Cheapest_1.l1 k bt170.2 (bt170.2.length : Int) 0 n E S A P 0) else (some (bt170.1, 0))) e1 h).step fun k => by rw [proof_Cheapest_1.l0, if_neg (by omega)]
    by_cases hp : Pots n P
    · obtain ⟨k1, k2, k3⟩ := e2 hp
      obtain ⟨r, f1, f2, f3⟩ := cheap_l1 (n := n) (S := S) R.m1 hA fit k2 k3 E.length 0 (by omega) (fun j a b => by omega)
      exact ⟨r, go (f1.congr fun k => by rw [if_pos k1]; rfl), fun h => f2 h.2.2, fun h => f3 fun t => h ⟨M, hp, t⟩⟩
    · have k1 := e3 hp
      exact ⟨(221, 0), go (Evl.pure.congr fun k => by rw [k1, if_neg (by decide)]), fun h => absurd h.2.1 hp, fun _ => rfl⟩
  | succ d ih =>
    intro i hi hP
    have w : wrap64 ((i : Int) + 1) = ((i + 1 : Nat) : Int) := by rw [w1 (by omega) (by omega)]; rfl
    by_cases c : rd O i = rd S i
    · obtain ⟨r, e1, e2, e3⟩ := ih (i + 1) (by omega) (fun v v0 v1 => by
        by_cases q : v = i
        · rw [q]; exact c
        · exact hP v v0 (by omega))
      exact ⟨r, e1.step fun k => by rw [proof_Cheapest_1.l0, if_pos (by omega), if_pos (by omega), if_pos (by omega), if_pos (by omega), if_pos c, w], e2, e3⟩
    · exact ⟨(221, 0), Evl.here fun k => by rw [proof_Cheapest_1.l0, if_pos (by omega), if_pos (by omega), if_pos (by omega), if_pos (by omega), if_neg c], fun h => absurd (by rw [ho i (by omega) (by omega)]; exact h.1.out i (by omega) (by omega)) c, fun _ => rfl⟩

/-- The document's last rounds. -/
theorem cheap_d0 {n : Int} {E : List S98} (R : Right n E) {A P : List Int} (hA : A.length = E.length) (fit : Amts E A) (hp : Pots n P) (d : Nat) : ∀ i : Nat, i + d = E.length →
    (∀ j : Int, 0 ≤ j → j < (i : Int) → (red P 1 (rd_T98 E j) > 0 → rd A j = 0) ∧ (red P 1 (rd_T98 E j) < 0 → rd A j = (rd_T98 E j).f2)) →
    ∃ r : Int × Int, Evl (fun k => compassref11_Cheapest.l0 k A P i n E) r ∧ (Tight E A P → r = (totw E A E.length, 0)) ∧ (¬ Tight E A P → r = (0, 221)) := by
  have hm := R.m1
  induction d with
  | zero =>
    intro i hi hP
    have t : Tight E A P := fun j a b => hP j a (by omega)
    exact ⟨_, (Evl.bind (h := fun k t386 => some (t386, (0 : Int))) (total_f (n := n) hm hA) Evl.pure).step fun k => by rw [compassref11_Cheapest.l0, if_neg (by omega)], fun _ => rfl, fun h => absurd t h⟩
  | succ d ih =>
    intro i hi hP
    have w : wrap64 ((i : Int) + 1) = ((i + 1 : Nat) : Int) := by rw [w1 (by omega) (by omega)]; rfl
    have g : (i : Int) < (E.length : Int) := by omega
    have hr := red_f hp (R.e i (by omega) g)
    have a := fit i (by omega) g
    by_cases ok : (red P 1 (rd_T98 E i) > 0 → rd A i = 0) ∧ (red P 1 (rd_T98 E i) < 0 → rd A i = (rd_T98 E i).f2)
    · obtain ⟨r, e1, e2, e3⟩ := ih (i + 1) (by omega) (fun j j0 j1 => by
        by_cases q : j = i
        · rw [q]; exact ok
        · exact hP j j0 (by omega))
      refine ⟨r, e1.step fun k => ?_, e2, e3⟩
      rw [compassref11_Cheapest.l0, if_pos (by omega), if_pos (by omega), if_pos g, hr, Option.bind_some, w]
      by_cases c1 : red P 1 (rd_T98 E i) > 0
      · have := ok.1 c1
        rw [if_pos c1, if_neg (by omega), if_neg (by omega)]
      · rw [if_neg c1]
        by_cases c2 : red P 1 (rd_T98 E i) < 0
        · have := ok.2 c2
          rw [if_pos c2, if_neg (by omega)]
        · rw [if_neg c2]
    · refine ⟨(0, 221), Evl.here fun k => ?_, fun h => absurd (h i (by omega) g) ok, fun _ => rfl⟩
      rw [compassref11_Cheapest.l0, if_pos (by omega), if_pos (by omega), if_pos g, hr, Option.bind_some, w]
      by_cases c1 : red P 1 (rd_T98 E i) > 0
      · have : rd A i ≠ 0 := fun h => ok ⟨fun _ => h, fun q => by omega⟩
        rw [if_pos c1, if_pos (by omega)]
      · rw [if_neg c1]
        by_cases c2 : red P 1 (rd_T98 E i) < 0
        · have : rd A i ≠ (rd_T98 E i).f2 := fun h => ok ⟨fun q => by omega, fun _ => h⟩
          rw [if_pos c2, if_pos (by omega)]
        · exact absurd ⟨fun h => by omega, fun h => by omega⟩ ok

theorem cheap_f (n : Int) (E : List S98) (S A P : List Int) : ∃ v e : Int, Evl (fun k => proof_Cheapest.f k n E S A P) (v, e) ∧ Evl (fun k => compassref11_Cheapest.f k n E S A P) (v, e) ∧
    (e ≠ 0 → v = 0) ∧ (e = 0 → Right n E ∧ Sup n S ∧ Meets n E S A ∧ Pots n P ∧ Tight E A P ∧ v = cost E A E.length) ∧ (Right n E → Sup n S → Meets n E S A → Pots n P → Tight E A P → e = 0) := by
  obtain ⟨c, a, g1, g2, g3, g4, g5⟩ := check_f n E
  have hr := right_f g1
  have prog : ∀ {r : Int × Int}, Evl (fun k => proof_Cheapest_1.f k n E S A P 0) r → Evl (fun k => proof_Cheapest.f k n E S A P) (r.2, r.1) := fun h => (Evl.bind (h := fun k t => some (t.2, t.1)) h Evl.pure).congr fun k => rfl
  by_cases hc : c = 0
  · subst hc
    obtain ⟨rfl, R⟩ := g3 rfl
    have n0 := R.n0
    obtain ⟨x, s1, s2, s3, s4⟩ := supplied_f R g2 S
    have start : ∀ {r : Int × Int}, Evl (fun k => if x = 0 then ((proof_carried.f k n E A).bind fun bt164 => (if bt164.1 = 0 then (proof_Cheapest_1.l0 k bt164.2 (bt164.2.length : Int) 0 n E S A P 0) else (some (bt164.1, 0)))) else (some (x, 0))) r → Evl (fun k => proof_Cheapest_1.f k n E S A P 0) r := fun h =>
      (Evl.bind (h := fun k u => if u = 0 then _ else some (u, (0 : Int))) hr ((Evl.bind (h := fun k t163 => if t163 = 0 then ((proof_carried.f k n E A).bind fun bt164 => (if bt164.1 = 0 then (proof_Cheapest_1.l0 k bt164.2 (bt164.2.length : Int) 0 n E S A P 0) else (some (bt164.1, 0)))) else (some (t163, 0))) s1 h).congr fun k => by rw [if_pos rfl])).congr fun k => rfl
    have dstart : ∀ {r : Int × Int}, Evl (fun k => if x = 0 then ((compassref11_Fits.f k n E A S).bind fun t377 => (if t377 = true then ((compassref11_Pots.f k n E P).bind fun t378 => (compassref11_Cheapest.j0 k A P (!t378) n E)) else (compassref11_Cheapest.j0 k A P true n E))) else (some (0, x))) r → Evl (fun k => compassref11_Cheapest.f k n E S A P) r := fun h =>
      (Evl.bind (h := fun k t376 => if t376 = 0 then ((compassref11_Fits.f k n E A S).bind fun t377 => (if t377 = true then ((compassref11_Pots.f k n E P).bind fun t378 => (compassref11_Cheapest.j0 k A P (!t378) n E)) else (compassref11_Cheapest.j0 k A P true n E))) else (some (0, t376))) s2 h).congr fun k => rfl
    by_cases hx : x = 0
    · have U := s4.1 hx
      obtain ⟨cr, e1, e2, e3⟩ := carried_f R (A := A)
      obtain ⟨fb, f1, f2⟩ := fits_f R (A := A) (S := S) U.len
      obtain ⟨pb, p1, p2⟩ := pots_f E n0 R.n1 P
      have no : Evl (fun k => compassref11_Cheapest.j0 k A P true n E) (0, 221) := Evl.here fun k => by rw [compassref11_Cheapest.j0, if_pos rfl]
      have doc : ∃ r : Int × Int, Evl (fun k => compassref11_Cheapest.f k n E S A P) r ∧ (Meets n E S A ∧ Pots n P ∧ Tight E A P → r = (totw E A E.length, 0)) ∧ (¬ (Meets n E S A ∧ Pots n P ∧ Tight E A P) → r = (0, 221)) := by
        by_cases q1 : fb = true
        · have M := f2.1 q1
          have dgo : ∀ {r : Int × Int}, Evl (fun k => compassref11_Cheapest.j0 k A P (!pb) n E) r → Evl (fun k => compassref11_Cheapest.f k n E S A P) r := fun h => dstart ((Evl.bind (h := fun k t377 => if t377 = true then ((compassref11_Pots.f k n E P).bind fun t378 => (compassref11_Cheapest.j0 k A P (!t378) n E)) else (compassref11_Cheapest.j0 k A P true n E)) f1 ((Evl.bind (h := fun k t378 => compassref11_Cheapest.j0 k A P (!t378) n E) p1 h).congr fun k => by rw [if_pos q1])).congr fun k => by rw [if_pos hx])
          by_cases q2 : pb = true
          · have hp := p2.1 q2
            obtain ⟨r, d1, d2, d3⟩ := cheap_d0 R M.1.1 M.1.2 hp E.length 0 (by omega) (fun j a b => by omega)
            exact ⟨r, dgo (d1.step fun k => by rw [q2, Bool.not_true, compassref11_Cheapest.j0, if_neg (by simp)]; rfl), fun h => d2 h.2.2, fun h => d3 fun t => h ⟨⟨M.1.1, M.1.2, M.2⟩, hp, t⟩⟩
          · have q2' : pb = false := by simpa using q2
            exact ⟨(0, 221), dgo (no.congr fun k => by rw [q2', Bool.not_false]), fun h => absurd (p2.2 h.2.1) q2, fun _ => rfl⟩
        · exact ⟨(0, 221), dstart ((Evl.bind (h := fun k t377 => if t377 = true then ((compassref11_Pots.f k n E P).bind fun t378 => (compassref11_Cheapest.j0 k A P (!t378) n E)) else (compassref11_Cheapest.j0 k A P true n E)) f1 (no.congr fun k => by rw [if_neg q1])).congr fun k => by rw [if_pos hx]), fun h => absurd (f2.2 ⟨⟨h.1.len, h.1.fit⟩, h.1.out⟩) q1, fun _ => rfl⟩
      have pr : ∃ r : Int × Int, Evl (fun k => proof_Cheapest_1.f k n E S A P 0) r ∧ (Meets n E S A ∧ Pots n P ∧ Tight E A P → r = (0, totw E A E.length)) ∧ (¬ (Meets n E S A ∧ Pots n P ∧ Tight E A P) → r = (221, 0)) := by
        have go : ∀ {r : Int × Int}, Evl (fun k => if cr.1 = 0 then (proof_Cheapest_1.l0 k cr.2 (cr.2.length : Int) 0 n E S A P 0) else (some (cr.1, 0))) r → Evl (fun k => proof_Cheapest_1.f k n E S A P 0) r := fun h => start ((Evl.bind (h := fun k bt164 => if bt164.1 = 0 then (proof_Cheapest_1.l0 k bt164.2 (bt164.2.length : Int) 0 n E S A P 0) else (some (bt164.1, 0))) e1 h).congr fun k => by rw [if_pos hx])
        by_cases qa : A.length = E.length ∧ Amts E A
        · obtain ⟨k1, k2, k3⟩ := e2 qa
          obtain ⟨r, m1, m2, m3⟩ := cheap_l0 R (S := S) (P := P) U.len qa.1 qa.2 k2 k3 n.toNat 0 (by omega) (fun v a b => by omega)
          exact ⟨r, go (m1.congr fun k => by rw [if_pos k1]; rfl), m2, m3⟩
        · have k1 := e3 qa
          exact ⟨(221, 0), go (Evl.pure.congr fun k => by rw [k1, if_neg (by decide)]), fun h => absurd ⟨h.1.len, h.1.fit⟩ qa, fun _ => rfl⟩
      obtain ⟨r1, d1, d2, d3⟩ := doc
      obtain ⟨r2, p1', p2', p3'⟩ := pr
      by_cases F : Meets n E S A ∧ Pots n P ∧ Tight E A P
      · have q1 := d2 F
        have q2 := p2' F
        subst q1 q2
        exact ⟨_, _, prog p1', d1, fun h => absurd rfl h, fun _ => ⟨R, U, F.1, F.2.1, F.2.2, (totw_cost R (F.1.fit.labs R) E.length (Nat.le_refl _)).1⟩, fun _ _ _ _ _ => rfl⟩
      · have q1 := d3 F
        have q2 := p3' F
        subst q1 q2
        exact ⟨_, _, prog p1', d1, fun _ => rfl, fun h => (by cases h), fun _ _ h1 h2 h3 => absurd ⟨h1, h2, h3⟩ F⟩
    · exact ⟨0, x, prog (r := (x, 0)) (start (Evl.pure.congr fun k => by rw [if_neg hx])), dstart (Evl.pure.congr fun k => by rw [if_neg hx]), fun _ => rfl, fun h => absurd h hx, fun _ h => absurd (s4.2 h) hx⟩
  · refine ⟨0, c, prog (r := (c, 0)) ((Evl.bind (h := fun k u => if u = 0 then _ else some (u, (0 : Int))) hr (Evl.pure.congr fun k => by rw [if_neg hc])).congr fun k => rfl), (Evl.bind (h := fun k u => if u = 0 then _ else some ((0 : Int), u)) (supplies_bad hc g2 S) (Evl.pure.congr fun k => by rw [if_neg hc])).congr fun k => rfl, fun _ => rfl, fun h => absurd h hc, fun R => absurd (g5 R) hc⟩

/-- What is supplied on a side. -/
def bsum (B : List Bool) (S : List Int) : Nat → Int
  | 0 => 0
  | i + 1 => bsum B S i + (if rdOf false B i = true then rd S i else 0)
theorem bsum_le {B : List Bool} {S : List Int} {m : Nat} (h : ∀ v : Int, 0 ≤ v → v < (m : Int) → -1048576 ≤ rd S v ∧ rd S v ≤ 1048576) : ∀ i : Nat, i ≤ m → -(i * 1048576 : Int) ≤ bsum B S i ∧ bsum B S i ≤ (i * 1048576 : Int) := by
  intro i
  induction i with
  | zero => intro _; simp [bsum]
  | succ i ih =>
    intro hi
    have a := ih (by omega)
    have b := h (i : Int) (by omega) (by omega)
    simp only [bsum]; push_cast
    split <;> omega
theorem noplan_f (n : Int) (E : List S98) (S : List Int) (B : List Bool) : ∃ e : Int, Evl (fun k => proof_NoPlan.f k n E S B) e ∧ Evl (fun k => compassref11_NoPlan.f k n E S B) e ∧
    (e = 0 → Right n E ∧ Sup n S ∧ (B.length : Int) = n ∧ cut E B E.length < bsum B S n.toNat) ∧ (Right n E → Sup n S → (B.length : Int) = n → cut E B E.length < bsum B S n.toNat → e = 0) := by
  obtain ⟨c, a, g1, g2, g3, g4, g5⟩ := check_f n E
  have hr := right_f g1
  by_cases hc : c = 0
  · subst hc
    obtain ⟨rfl, R⟩ := g3 rfl
    have n0 := R.n0
    have n1 := R.n1
    have m1 := R.m1
    obtain ⟨x, s1, s2, s3, s4⟩ := supplied_f R g2 S
    have start : ∀ {r : Int}, Evl (fun k => if x = 0 then ((proof_across.f k n E B).bind fun bt392 => (if bt392.1 = 0 then (proof_NoPlan_1.l0 k bt392.2 B (B.length : Int) 0 S) else (some bt392.1))) else (some x)) r → Evl (fun k => proof_NoPlan.f k n E S B) r := fun h =>
      (Evl.bind (h := fun k u => if u = 0 then _ else some u) hr ((Evl.bind (h := fun k t391 => if t391 = 0 then ((proof_across.f k n E B).bind fun bt392 => (if bt392.1 = 0 then (proof_NoPlan_1.l0 k bt392.2 B (B.length : Int) 0 S) else (some bt392.1))) else (some t391)) s1 h).congr fun k => by rw [if_pos rfl])).congr fun k => rfl
    have dstart : ∀ {r : Int}, Evl (fun k => if x = 0 then (if (B.length : Int) = n then (compassref11_NoPlan.l0 k S B 0 0 n E) else (some 221)) else (some x)) r → Evl (fun k => compassref11_NoPlan.f k n E S B) r := fun h =>
      (Evl.bind (h := fun k t397 => if t397 = 0 then (if (B.length : Int) = n then (compassref11_NoPlan.l0 k S B 0 0 n E) else (some 221)) else (some t397)) s2 h).congr fun k => rfl
    by_cases hx : x = 0
    · have U := s4.1 hx
      have ul := U.len
      by_cases hB : (B.length : Int) = n
      · have cb := cut_le R B E.length (Nat.le_refl _)
        have bl := bsum_le (B := B) (S := S) (m := n.toNat) (fun v v0 v1 => U.lab v v0 (by omega))
        have loop : ∀ (d i : Nat), ((i + d : Nat) : Int) = n → Evl (fun k => proof_NoPlan_1.l0 k (cut E B E.length - bsum B S i) B B.length i S) (if cut E B E.length < bsum B S n.toNat then 0 else 221) ∧ Evl (fun k => compassref11_NoPlan.l0 k S B (bsum B S i) i n E) (if cut E B E.length < bsum B S n.toNat then 0 else 221) := by
          intro d
          induction d with
          | zero =>
            intro i hi
            have e : n.toNat = i := by omega
            rw [e]
            constructor
            · exact Evl.here fun k => by
                rw [proof_NoPlan_1.l0, if_neg (by omega)]
                by_cases q : cut E B E.length < bsum B S i
                · rw [if_pos q, if_pos (by omega)]
                · rw [if_neg q, if_neg (by omega)]
            · refine (Evl.bind (h := fun k t400 => if bsum B S i ≤ t400 then some (221 : Int) else some 0) (cut_f R hB) (Evl.pure.congr fun k => ?_)).step fun k => by rw [compassref11_NoPlan.l0, if_neg (by omega)]
              by_cases q : cut E B E.length < bsum B S i
              · rw [if_pos q, if_neg (by omega)]
              · rw [if_neg q, if_pos (by omega)]
          | succ d ih =>
            intro i hi
            have w : wrap64 ((i : Int) + 1) = ((i + 1 : Nat) : Int) := by rw [w1 (by omega) (by omega)]; rfl
            obtain ⟨i1, i2⟩ := ih (i + 1) (by omega)
            have b0 := bl i (by omega)
            have l0 := U.lab i (by omega) (by omega)
            by_cases q : rdOf false B i = true
            · have z : bsum B S (i + 1) = bsum B S i + rd S i := by rw [bsum, if_pos q]
              rw [z] at i1 i2
              constructor
              · exact i1.step fun k => by rw [proof_NoPlan_1.l0, if_pos (by omega), if_pos (by omega), if_pos (by omega), if_pos q, if_pos (by omega), w, wr (by omega) (by omega)]; congr 1; omega
              · exact i2.step fun k => by rw [compassref11_NoPlan.l0, if_pos (by omega), if_pos (by omega), if_pos (by omega), if_pos q, if_pos (by omega), w, wr (by omega) (by omega)]
            · have z : bsum B S (i + 1) = bsum B S i := by rw [bsum, if_neg q]; omega
              rw [z] at i1 i2
              constructor
              · exact i1.step fun k => by rw [proof_NoPlan_1.l0, if_pos (by omega), if_pos (by omega), if_pos (by omega), if_neg q, w]
              · exact i2.step fun k => by rw [compassref11_NoPlan.l0, if_pos (by omega), if_pos (by omega), if_pos (by omega), if_neg q, w]
        obtain ⟨i1, i2⟩ := loop n.toNat 0 (by omega)
        refine ⟨_, start ((Evl.bind (h := fun k bt392 => if bt392.1 = 0 then (proof_NoPlan_1.l0 k bt392.2 B (B.length : Int) 0 S) else (some bt392.1)) (across_f R hB) (i1.congr fun k => by rw [if_pos rfl]; simp [bsum])).congr fun k => by rw [if_pos hx]), dstart (i2.congr fun k => by rw [if_pos hx, if_pos hB]; rfl), fun h => ?_, fun _ _ _ h => if_pos h⟩
        by_cases q : cut E B E.length < bsum B S n.toNat
        · exact ⟨R, U, hB, q⟩
        · rw [if_neg q] at h; cases h
      · exact ⟨221, start ((Evl.bind (h := fun k bt392 => if bt392.1 = 0 then (proof_NoPlan_1.l0 k bt392.2 B (B.length : Int) 0 S) else (some bt392.1)) (across_no hB) (Evl.pure.congr fun k => by rw [if_neg (by decide)])).congr fun k => by rw [if_pos hx]), dstart (Evl.pure.congr fun k => by rw [if_pos hx, if_neg hB]), fun h => (by cases h), fun _ _ h => absurd h hB⟩
    · exact ⟨x, start (Evl.pure.congr fun k => by rw [if_neg hx]), dstart (Evl.pure.congr fun k => by rw [if_neg hx]), fun h => absurd h hx, fun _ h => absurd (s4.2 h) hx⟩
  · exact ⟨c, (Evl.bind (h := fun k u => if u = 0 then _ else some u) hr (Evl.pure.congr fun k => by rw [if_neg hc])).congr fun k => rfl, (Evl.bind (h := fun k u => if u = 0 then _ else some u) (supplies_bad hc g2 S) (Evl.pure.congr fun k => by rw [if_neg hc])).congr fun k => rfl, fun h => absurd h hc, fun R => absurd (g5 R) hc⟩

/-- Where more is supplied on a side than can leave it no amounts meet the supplies. -/
theorem wsum_side {E : List S98} {A S : List Int} (B : List Bool) (i : Nat) (v : Nat) (h : ∀ u : Int, 0 ≤ u → u < v → net E A u i = rd S u) : wsum (ind B) E A i v = bsum B S v := by
  induction v with
  | zero => rfl
  | succ v ih =>
    rw [wsum, bsum, ih fun u a b => h u a (by omega), h v (by omega) (by omega), ind]
    split <;> omega
theorem no_plan {n : Int} {E : List S98} (R : Right n E) {S A : List Int} {B : List Bool} (M : Meets n E S A) : bsum B S n.toNat ≤ cut E B E.length := by
  have n0 := R.n0
  rw [← wsum_side (E := E) (A := A) B E.length n.toNat (fun u a b => M.out u a (by omega)), wsum_esum R (ind B) A E.length (Nat.le_refl _)]
  exact esum_cut R B M.fit E.length (Nat.le_refl _)
theorem plan_least {n : Int} {E : List S98} (R : Right n E) {S A O P : List Int} (M : Meets n E S A) (N : Meets n E S O) (t : Tight E A P) : cost E A E.length ≤ cost E O E.length := by
  refine cost_least R (P := P) (fun v a b => by rw [M.out v a b, N.out v a b]) fun i i0 i1 => ⟨fun h => ?_, fun h => ?_⟩
  · rw [(t i i0 i1).1 h]; exact (N.fit i i0 i1).1
  · rw [(t i i0 i1).2 h]; exact (N.fit i i0 i1).2
end Go.Proofs.Ytkdoihcjhccliaa.G
namespace Go.Proofs.Ytkdoihcjhccliaa.G
open Go.RowKit Go.Proofs.Ytkdoihcjhccliaa.Q Go.Proofs.YtkdoihcjhccliaaW.PrintWords Go.Proofs.YtkdoihcjhccliaaW.PrintLast
set_option linter.unusedVariables false

/-- U: the edges of X with room, W: which they are. -/
structure Use (X : List S98) (i : Nat) (U : List S98) (W : List Int) : Prop where
  len : U.length = W.length
  le : W.length ≤ i
  el : ∀ k : Int, 0 ≤ k → k < (W.length : Int) → 0 ≤ rd W k ∧ rd W k < (i : Int) ∧ 0 < (rd_T98 X (rd W k)).f2 ∧ rd_T98 U k = rd_T98 X (rd W k)
  all : ∀ j : Int, 0 ≤ j → j < (i : Int) → 0 < (rd_T98 X j).f2 → ∃ k : Int, 0 ≤ k ∧ k < (W.length : Int) ∧ rd W k = j
theorem useful_f (n : Int) (X : List S98) (hm : (X.length : Int) ≤ 100000) : ∃ U W, Evl (fun k => compassref11_useful.f k n X) (n, U, W) ∧ Use X X.length U W := by
  have loop : ∀ (d i : Nat) (U : List S98) (W : List Int), i + d = X.length → Use X i U W → ∃ U' W', Evl (fun k => compassref11_useful.l0 k W i n X n U) (n, U', W') ∧ Use X X.length U' W' := by
    intro d
    induction d with
    | zero =>
      intro i U W hi h
      have e : i = X.length := by omega
      subst e
      exact ⟨U, W, Evl.here fun k => by rw [compassref11_useful.l0, if_neg (by omega)], h⟩
    | succ d ih =>
      intro i U W hi h
      have w : wrap64 ((i : Int) + 1) = ((i + 1 : Nat) : Int) := by rw [w1 (by omega) (by omega)]; rfl
      have h1 := h.len
      have h2 := h.le
      by_cases q : (rd_T98 X i).f2 > 0
      · obtain ⟨U', W', a, b⟩ := ih (i + 1) (U ++ [(⟨(rd_T98 X i).f0, (rd_T98 X i).f1, (rd_T98 X i).f2, (rd_T98 X i).f3⟩ : S98)]) (W ++ [(i : Int)]) (by omega) ⟨by simp; omega, by simp; omega, fun k k0 k1 => by
          have k1' : k < (W.length : Int) + 1 := by simpa using k1
          by_cases z : k < (W.length : Int)
          · obtain ⟨x1, x2, x3, x4⟩ := h.el k k0 z
            rw [rd_append _ _ _ k0, if_pos z, rd98_lt _ _ _ k0 (by omega)]
            exact ⟨x1, by omega, x3, x4⟩
          · have e : k = (W.length : Int) := by omega
            rw [rd_append _ _ _ k0, if_neg z, rd98_eq _ _ _ (by omega), show k - (W.length : Int) = 0 by omega]
            exact ⟨by show (0 : Int) ≤ i; omega, by show (i : Int) < _; omega, q, rfl⟩, fun j j0 j1 hj => by
          by_cases z : j < (i : Int)
          · obtain ⟨k, k0, k1, e⟩ := h.all j j0 z hj
            exact ⟨k, k0, by simp; omega, by rw [rd_append _ _ _ k0, if_pos k1]; exact e⟩
          · exact ⟨(W.length : Int), by omega, by simp; omega, by rw [rd_append _ _ _ (by omega), if_neg (by omega), Int.sub_self]; show (i : Int) = j; omega⟩⟩
        exact ⟨U', W', a.step fun k => by rw [compassref11_useful.l0, if_pos (by omega), if_pos (by omega), if_pos q, if_pos (by omega), if_pos (by omega), w], b⟩
      · obtain ⟨U', W', a, b⟩ := ih (i + 1) U W (by omega) ⟨h1, by omega, fun k k0 k1 => by
          obtain ⟨x1, x2, x3, x4⟩ := h.el k k0 k1
          exact ⟨x1, by omega, x3, x4⟩, fun j j0 j1 hj => by
          by_cases z : j = i
          · rw [z] at hj; exact absurd hj q
          · exact h.all j j0 (by omega) hj⟩
        exact ⟨U', W', a.step fun k => by rw [compassref11_useful.l0, if_pos (by omega), if_pos (by omega), if_neg q, w], b⟩
  obtain ⟨U, W, a, b⟩ := loop X.length 0 [] [] (by omega) ⟨rfl, Nat.le_refl _, fun k k0 k1 => by simp at k1; omega, fun j j0 j1 => by omega⟩
  exact ⟨U, W, a.congr fun k => rfl, b⟩

theorem rd_map (W L : List Int) (k : Int) (k0 : 0 ≤ k) (k1 : k < (L.length : Int)) : rd (L.map (rd W)) k = rd W (rd L k) := by
  unfold rd
  rw [List.getD_eq_getElem?_getD, List.getElem?_map, List.getD_eq_getElem?_getD, List.getD_eq_getElem?_getD, List.getElem?_eq_getElem (show k.toNat < L.length by omega)]; rfl
/-- A circle of edges with room is one of the residual. -/
theorem Circ.use {X U : List S98} {W L : List Int} (h : Use X X.length U W) (c : Circ U L) : Circ X (L.map (rd W)) := by
  have hl := h.len
  have el : ∀ j : Nat, j < L.length → 0 ≤ rd L j ∧ rd L j < (W.length : Int) := fun j hj => by have := c.el j hj; omega
  have rm : ∀ j : Nat, j < L.length → rd (L.map (rd W)) j = rd W (rd L j) := fun j hj => rd_map W L j (by omega) (by omega)
  have eq : ∀ j : Nat, j < L.length → rd_T98 X (rd (L.map (rd W)) j) = rd_T98 U (rd L j) := fun j hj => by
    obtain ⟨a, b⟩ := el j hj
    rw [rm j hj]; exact (h.el _ a b).2.2.2.symm
  have pos := c.pos
  have lm : (L.map (rd W)).length = L.length := List.length_map ..
  refine ⟨by rw [lm]; exact pos, fun j hj => ?_, fun j hj => ?_, ?_, fun i j ij hj => ?_⟩
  · rw [lm] at hj
    obtain ⟨a, b⟩ := el j hj
    have := h.el _ a b
    rw [rm j hj]; exact ⟨this.1, by omega⟩
  · rw [lm] at hj
    rw [eq j (by omega), eq (j + 1) hj]; exact c.on j hj
  · rw [lm, eq _ (by omega)]
    have e0 := eq 0 pos
    rw [show ((0 : Nat) : Int) = 0 from rfl] at e0
    rw [e0]; exact c.cl
  · rw [lm] at hj
    rw [eq i (by omega), eq j hj]; exact c.once i j ij hj
theorem cst_use {X U : List S98} {W : List Int} (h : Use X X.length U W) : ∀ L : List Int, (∀ i ∈ L, 0 ≤ i ∧ i < (W.length : Int)) → cst X (L.map (rd W)) = cst U L
  | [], _ => rfl
  | i :: L, hi => by
    obtain ⟨a, b⟩ := hi i (List.mem_cons_self ..)
    rw [List.map_cons, cst, cst, cst_use h L (fun j hj => hi j (List.mem_cons_of_mem _ hj)), (h.el i a b).2.2.2]

/-- What the first of these edges bring to a node, less what they take. -/
def fs (X : List S98) (v : Int) (L : List Int) : Nat → Int
  | 0 => 0
  | k + 1 => fs X v L k + (if (rd_T98 X (rd L k)).f0 = v then 1 else 0) - (if (rd_T98 X (rd L k)).f1 = v then 1 else 0)
theorem fs_cons (X : List S98) (v x : Int) (L : List Int) : ∀ k : Nat, fs X v (x :: L) (k + 1) = (if (rd_T98 X x).f0 = v then 1 else 0) - (if (rd_T98 X x).f1 = v then 1 else 0) + fs X v L k
  | 0 => by show 0 + (if (rd_T98 X x).f0 = v then 1 else 0) - (if (rd_T98 X x).f1 = v then 1 else 0) = _ - _ + 0; omega
  | k + 1 => by
    have e : fs X v (x :: L) (k + 1 + 1) = fs X v (x :: L) (k + 1) + (if (rd_T98 X (rd (x :: L) ((k + 1 : Nat) : Int))).f0 = v then 1 else 0) - (if (rd_T98 X (rd (x :: L) ((k + 1 : Nat) : Int))).f1 = v then 1 else 0) := rfl
    rw [e, fs_cons X v x L k, rd_cons1 _ _ _ (by omega), show ((k + 1 : Nat) : Int) - 1 = (k : Int) by omega, fs]; omega
theorem flux_fs {E X : List S98} {A : List Int} (hX : Resid E A X) (v : Int) : ∀ L : List Int, (∀ i ∈ L, 0 ≤ i ∧ i < 2 * (E.length : Int)) → flux E v L = fs X v L L.length
  | [], _ => rfl
  | i :: L, hi => by
    obtain ⟨a, b⟩ := hi i (List.mem_cons_self ..)
    have e0 : (rd_T98 X i).f0 = rf E i := by rw [hX.el i a b]
    have e1 : (rd_T98 X i).f1 = rt E i := by rw [hX.el i a b]
    rw [List.length_cons, fs_cons, flux, flux_fs hX v L (fun j hj => hi j (List.mem_cons_of_mem _ hj)), e0, e1]; omega
theorem Circ.fs0 {X : List S98} {L : List Int} (c : Circ X L) (v : Int) : fs X v L L.length = 0 := by
  have key : ∀ k : Nat, k + 1 ≤ L.length → fs X v L (k + 1) = (if (rd_T98 X (rd L 0)).f0 = v then 1 else 0) - (if (rd_T98 X (rd L k)).f1 = v then 1 else 0) := by
    intro k
    induction k with
    | zero => intro _; rw [fs, fs]; show 0 + _ - _ = _; rw [Int.zero_add]; rfl
    | succ k ih =>
      intro hk
      rw [fs, ih (by omega), c.on k (by omega)]
      omega
  have pos := c.pos
  have := key (L.length - 1) (by omega)
  rw [show L.length - 1 + 1 = L.length by omega, c.cl] at this
  rw [this]; omega

theorem rk_opp (E : List S98) {i j : Int} (h : i / 2 = j / 2) (ne : i ≠ j) : rf E i = rt E j ∧ rt E i = rf E j ∧ rk E i = -rk E j := by
  unfold rf rt rk
  rw [← h]
  by_cases z : i % 2 = 0
  · rw [if_pos z, if_pos z, if_pos z, if_neg (show ¬ j % 2 = 0 by omega), if_neg (show ¬ j % 2 = 0 by omega), if_neg (show ¬ j % 2 = 0 by omega)]
    exact ⟨rfl, rfl, by omega⟩
  · rw [if_neg z, if_neg z, if_neg z, if_pos (show j % 2 = 0 by omega), if_pos (show j % 2 = 0 by omega), if_pos (show j % 2 = 0 by omega)]
    exact ⟨rfl, rfl, rfl⟩
/-- A circle below nothing never takes back what it has just put. -/
theorem Circ.one {E X : List S98} {A L : List Int} (hX : Resid E A X) (c : Circ X L) (neg : cst X L < 0) : L.Pairwise fun a b => a / 2 ≠ b / 2 := by
  have hl := hX.len
  have r0 : ∀ j : Nat, j < L.length → 0 ≤ rd L j ∧ rd L j < 2 * (E.length : Int) := fun j hj => by have := c.el j hj; omega
  have f0 : ∀ j : Nat, j < L.length → (rd_T98 X (rd L j)).f0 = rf E (rd L j) := fun j hj => by rw [hX.el _ (r0 j hj).1 (r0 j hj).2]
  have f1 : ∀ j : Nat, j < L.length → (rd_T98 X (rd L j)).f1 = rt E (rd L j) := fun j hj => by rw [hX.el _ (r0 j hj).1 (r0 j hj).2]
  rw [List.pairwise_iff_getElem]
  intro i j hi hj ij e
  have gi : L[i] = rd L i := by unfold rd; rw [List.getD_eq_getElem?_getD, show ((i : Int).toNat) = i by omega, List.getElem?_eq_getElem hi]; rfl
  have gj : L[j] = rd L j := by unfold rd; rw [List.getD_eq_getElem?_getD, show ((j : Int).toNat) = j by omega, List.getElem?_eq_getElem hj]; rfl
  rw [gi, gj] at e
  have on := c.once i j ij hj
  rw [f1 i hi, f1 j hj] at on
  by_cases q : rd L i = rd L j
  · exact on (by rw [q])
  · obtain ⟨o1, o2, o3⟩ := rk_opp E e q
    have uniq : ∀ a b : Nat, a < L.length → b < L.length → rt E (rd L a) = rt E (rd L b) → a = b := fun a b ha hb h => by
      rcases Nat.lt_trichotomy a b with z | z | z
      · exact absurd (by rw [f1 a ha, f1 b hb]; exact h) (c.once a b z hb)
      · exact z
      · exact absurd (by rw [f1 a ha, f1 b hb]; exact h.symm) (c.once b a z ha)
    -- what is ahead of j ends where j begins
    have pj : rt E (rd L ((j - 1 : Nat) : Int)) = rf E (rd L j) := by
      have := c.on (j - 1) (by omega)
      rw [show j - 1 + 1 = j by omega, f1 _ (by omega), f0 j hj] at this; exact this
    have e1 : i = j - 1 := uniq i (j - 1) hi (by omega) (by rw [pj]; exact o2)
    have e2 : j = (if i = 0 then L.length - 1 else i - 1) := by
      by_cases z : i = 0
      · rw [if_pos z]
        refine uniq j (L.length - 1) hj (by omega) ?_
        have := c.cl
        rw [f1 _ (by omega)] at this
        have f00 := f0 0 (by omega)
        rw [show ((0 : Nat) : Int) = 0 from rfl] at f00
        rw [f00] at this
        rw [this, ← o1, z]; rfl
      · rw [if_neg z]
        refine uniq j (i - 1) hj (by omega) ?_
        have := c.on (i - 1) (by omega)
        rw [show i - 1 + 1 = i by omega, f1 _ (by omega), f0 i hi] at this
        rw [this]; exact o1.symm
    have i0 : i = 0 := by
      by_cases z : i = 0
      · exact z
      · rw [if_neg z] at e2; omega
    rw [if_pos i0] at e2
    have l2 : L.length = 2 := by omega
    have j1 : j = 1 := by omega
    subst i0 j1
    have : cst X L = 0 := by
      match L, l2 with
      | [a, b], _ =>
        have ea : rd [a, b] ((0 : Nat) : Int) = a := rfl
        have eb : rd [a, b] ((1 : Nat) : Int) = b := rfl
        have ra := r0 0 (by simp)
        have rb := r0 1 (by simp)
        rw [ea] at ra o3
        rw [eb] at rb o3
        show (rd_T98 X a).f3 + ((rd_T98 X b).f3 + 0) = 0
        rw [hX.el a ra.1 ra.2, hX.el b rb.1 rb.2]
        show rk E a + (rk E b + 0) = 0
        omega
    omega

theorem cost_put {E : List S98} {A : List Int} {i x : Int} (hA : A.length = E.length) (h0 : 0 ≤ i) (h1 : i < 2 * (E.length : Int)) : ∀ m : Nat, m ≤ E.length → cost E (put A i x) m = cost E A m + (if i / 2 < (m : Int) then rk E i * x else 0) := by
  intro m
  induction m with
  | zero => intro _; rw [if_neg (by omega)]; rfl
  | succ m ih =>
    intro hm
    simp only [cost]
    rw [ih (by omega), put_rd hA h0 h1 m (by omega)]
    by_cases q : (m : Int) = i / 2
    · rw [if_pos q, if_neg (show ¬ i / 2 < (m : Int) by omega), if_pos (show i / 2 < ((m + 1 : Nat) : Int) by omega), ← q]
      unfold rk
      rw [← q]
      by_cases e : i % 2 = 0
      · rw [if_pos e, if_pos e, Int.mul_add]; omega
      · rw [if_neg e, if_neg e, Int.mul_sub, Int.neg_mul]; omega
    · rw [if_neg q]
      by_cases q1 : i / 2 < (m : Int)
      · rw [if_pos q1, if_pos (show i / 2 < ((m + 1 : Nat) : Int) by omega)]; omega
      · rw [if_neg q1, if_neg (show ¬ i / 2 < ((m + 1 : Nat) : Int) by omega)]; omega
theorem cost_chg {E X : List S98} {A0 : List Int} (hX : Resid E A0 X) {x : Int} : ∀ (L A : List Int), A.length = E.length → Fit E A L x → cost E (chg x A L) E.length = cost E A E.length + cst X L * x
  | [], A, _, _ => by rw [chg, cst]; omega
  | i :: L, A, hA, h => by
    obtain ⟨a0, a1, a2⟩ := h.el i (List.mem_cons_self ..)
    rw [chg, cost_chg hX L _ (by rw [put_len]; exact hA) (h.tail hA), cost_put hA a0 a1 _ (Nat.le_refl _), if_pos (by omega), cst, hX.el i a0 a1, Int.add_mul]
    show _ + rk E i * x + _ = _ + (rk E i * x + _)
    omega
theorem cost_low {n : Int} {E : List S98} (R : Right n E) {A : List Int} (fit : Amts E A) : ∀ m : Nat, m ≤ E.length → -(m * 1099511627776 : Int) ≤ cost E A m := by
  intro m
  induction m with
  | zero => intro _; simp [cost]
  | succ m ih =>
    intro hm
    have a := ih (by omega)
    have e := R.e m (by omega) (by omega)
    have f := fit m (by omega) (by omega)
    have c1 := e.c1
    have o := cost_one e (a := rd A m) f.1 (by omega)
    simp only [cost]
    push_cast
    omega

theorem mincost_l2 {n : Int} {E X U : List S98} {A W L : List Int} (h : Use X X.length U W) (hx : (X.length : Int) ≤ 100000) (hi : ∀ i ∈ L, 0 ≤ i ∧ i < (W.length : Int)) (hL : (L.length : Int) ≤ 100000) (d : Nat) : ∀ i : Nat, i + d = L.length →
    ∀ z, Evl (fun k => (compassref11_Residual.f k n E A).bind fun bt648 => ((compassref11_room.f k bt648.1 bt648.2 (L.map (rd W))).bind fun t652 => ((compassref11_change.f k A (L.map (rd W)) t652).bind fun t653 => (compassref11_MinCost.l1 k t653 n E)))) z → Evl (fun k => compassref11_MinCost.l2 k A W L ((L.map (rd W)).take i) i n E) z := by
  have lm : (L.map (rd W)).length = L.length := List.length_map ..
  induction d with
  | zero =>
    intro i hi' z hz
    rw [List.take_of_length_le (by omega)]
    exact hz.step fun k => by rw [compassref11_MinCost.l2, if_neg (by omega)]
  | succ d ih =>
    intro i hi' z hz
    have w : wrap64 ((i : Int) + 1) = ((i + 1 : Nat) : Int) := by rw [w1 (by omega) (by omega)]; rfl
    obtain ⟨a, b⟩ := hi _ (rd_mem L i (by omega) (by omega))
    have tk : (L.map (rd W)).take (i + 1) = (L.map (rd W)).take i ++ [rd W (rd L i)] := by
      rw [List.take_succ_eq_append_getElem (by omega), List.getElem_map]
      congr 2
      unfold rd; rw [List.getD_eq_getElem?_getD (l := L), show ((i : Int).toNat) = i by omega, List.getElem?_eq_getElem (by omega)]; rfl
    have tl : ((L.map (rd W)).take i).length ≤ L.length := by rw [List.length_take]; omega
    have nxt := ih (i + 1) (by omega) z hz
    rw [tk] at nxt
    refine nxt.step fun k => ?_
    rw [compassref11_MinCost.l2, if_pos (by omega), if_pos (by omega), if_pos a, if_pos b, if_pos (by omega), w]
end Go.Proofs.Ytkdoihcjhccliaa.G
namespace Go.Proofs.Ytkdoihcjhccliaa.G
open Go.RowKit Go.Proofs.Ytkdoihcjhccliaa.Q Go.Proofs.YtkdoihcjhccliaaW.PrintWords Go.Proofs.YtkdoihcjhccliaaW.PrintLast
set_option linter.unusedVariables false

theorem rc_le {n : Int} {E : List S98} (R : Right n E) {A : List Int} (fit : Amts E A) {i : Int} (h0 : 0 ≤ i) (h1 : i < 2 * (E.length : Int)) : rc E A i ≤ 1048576 := by
  have e := R.e (i / 2) (by omega) (by omega)
  have f := fit (i / 2) (by omega) (by omega)
  have c1 := e.c1
  unfold rc; split <;> omega
theorem rk_in {n : Int} {E : List S98} (R : Right n E) {i : Int} (h0 : 0 ≤ i) (h1 : i < 2 * (E.length : Int)) : -1048576 ≤ rk E i ∧ rk E i ≤ 1048576 := by
  have e := R.e (i / 2) (by omega) (by omega)
  have d0 := e.d0
  have d1 := e.d1
  unfold rk; split <;> omega
theorem use_right {n : Int} {E X U : List S98} {A W : List Int} (R : Right n E) (m6 : (E.length : Int) ≤ 2000) (fit : Amts E A) (hX : Resid E A X) (h : Use X X.length U W) : Right n U ∧ Gr n U 1048576 := by
  have n0 := R.n0
  have n1 := R.n1
  have hx := hX.len
  have hl := h.len
  have hw := h.le
  have ee : ∀ i : Int, 0 ≤ i → i < (U.length : Int) → RightE n (rd_T98 U i) := fun i i0 i1 => by
    obtain ⟨a, b, c, d⟩ := h.el i i0 (by omega)
    have xe := hX.el _ a (by omega)
    obtain ⟨f0, f1⟩ := rf_in R a (show rd W i < 2 * (E.length : Int) by omega)
    obtain ⟨t0, t1⟩ := rt_in R a (show rd W i < 2 * (E.length : Int) by omega)
    obtain ⟨k0, k1⟩ := rk_in R a (show rd W i < 2 * (E.length : Int) by omega)
    have c1 := rc_le R fit a (show rd W i < 2 * (E.length : Int) by omega)
    rw [xe] at c
    rw [d, xe]
    exact ⟨f0, f1, t0, t1, Int.le_of_lt c, c1, k0, k1⟩
  refine ⟨⟨n0, n1, by omega, ee⟩, ⟨n0, by omega, by omega, by decide, by decide, fun i i0 i1 => ?_⟩⟩
  have e := ee i i0 i1
  exact ⟨⟨e.a0, e.a1⟩, ⟨e.b0, e.b1⟩, e.d0, e.d1⟩

theorem mincost_step {n : Int} {E : List S98} (R : Right n E) (m6 : (E.length : Int) ≤ 2000) {S A : List Int} (M : Meets n E S A) :
    (∃ P, Evl (fun k => compassref11_MinCost.l1 k A n E) (A, P, [], true) ∧ Pots n P ∧ Tight E A P) ∨
      ∃ A', Meets n E S A' ∧ cost E A' E.length < cost E A E.length ∧ ∀ z, Evl (fun k => compassref11_MinCost.l1 k A' n E) z → Evl (fun k => compassref11_MinCost.l1 k A n E) z := by
  have n0 := R.n0
  have n1 := R.n1
  obtain ⟨X, x1, hX⟩ := resid_f R M.len M.fit
  have hx := hX.len
  obtain ⟨U, W, u1, h⟩ := useful_f n X (by omega)
  obtain ⟨RU, g⟩ := use_right R m6 M.fit hX h
  obtain ⟨L, l1, l2⟩ := below_f g
  have hl := h.len
  have hw := h.le
  have go : ∀ {z}, Evl (fun k => if (L.length : Int) = 0 then ((compassref08_Potentials.f k n U).bind fun bt639 => (some (A, bt639.1, ([] : List Bool), true))) else (compassref11_MinCost.l2 k A W L ([] : List Int) 0 n E)) z → Evl (fun k => compassref11_MinCost.l1 k A n E) z := fun hz =>
    (Evl.bind (h := fun k (bt624 : Int × List S98) => (compassref11_useful.f k bt624.1 bt624.2).bind fun bt628 => ((compassref11_Below.f k bt628.1 bt628.2.1).bind fun t636 => (if (t636.length : Int) = 0 then ((compassref08_Potentials.f k bt628.1 bt628.2.1).bind fun bt639 => (some (A, bt639.1, ([] : List Bool), true))) else (compassref11_MinCost.l2 k A bt628.2.2 t636 ([] : List Int) 0 n E)))) x1
      (Evl.bind (h := fun k (bt628 : Int × List S98 × List Int) => (compassref11_Below.f k bt628.1 bt628.2.1).bind fun t636 => (if (t636.length : Int) = 0 then ((compassref08_Potentials.f k bt628.1 bt628.2.1).bind fun bt639 => (some (A, bt639.1, ([] : List Bool), true))) else (compassref11_MinCost.l2 k A bt628.2.2 t636 ([] : List Int) 0 n E))) u1
        (Evl.bind (h := fun k t636 => if (t636.length : Int) = 0 then ((compassref08_Potentials.f k n U).bind fun bt639 => (some (A, bt639.1, ([] : List Bool), true))) else (compassref11_MinCost.l2 k A W t636 ([] : List Int) 0 n E)) l1 hz))).step fun k => by rw [compassref11_MinCost.l1]
  rcases l2 with ⟨rfl, feas⟩ | ⟨c, neg⟩
  · left
    obtain ⟨P, p1, p2, p3⟩ := potentials_f RU g (by decide) (F := fun v => rd (rnd n U n.toNat) v) (fun i i0 i1 => by
      have := feas i.toNat (by omega)
      rw [show ((i.toNat : Nat) : Int) = i by omega] at this; exact this)
    have res : ∀ j : Int, 0 ≤ j → j < 2 * (E.length : Int) → 0 < rc E A j → rd P (rt E j) ≤ rd P (rf E j) + rk E j := fun j j0 j1 hj => by
      obtain ⟨k, k0, k1, e⟩ := h.all j j0 (by omega) (by rw [hX.el j j0 j1]; exact hj)
      obtain ⟨-, -, -, d⟩ := h.el k k0 k1
      have := p3 k k0 (by omega)
      rw [d, e, hX.el j j0 j1] at this; exact this
    refine ⟨P, go ((Evl.bind (h := fun k bt639 => some (A, bt639.1, ([] : List Bool), true)) p1 Evl.pure).congr fun k => by rw [if_pos (show (([] : List Int).length : Int) = 0 from rfl)]), p2, fun i i0 i1 => ?_⟩
    have f := M.fit i i0 i1
    have a := res (2 * i) (by omega) (by omega)
    have b := res (2 * i + 1) (by omega) (by omega)
    unfold rc rt rf rk at a b
    rw [if_pos (show 2 * i % 2 = 0 by omega), if_pos (show 2 * i % 2 = 0 by omega), if_pos (show 2 * i % 2 = 0 by omega), if_pos (show 2 * i % 2 = 0 by omega), show 2 * i / 2 = i by omega] at a
    rw [if_neg (show ¬ (2 * i + 1) % 2 = 0 by omega), if_neg (show ¬ (2 * i + 1) % 2 = 0 by omega), if_neg (show ¬ (2 * i + 1) % 2 = 0 by omega), if_neg (show ¬ (2 * i + 1) % 2 = 0 by omega), show (2 * i + 1) / 2 = i by omega] at b
    unfold red
    refine ⟨fun hr => ?_, fun hr => ?_⟩
    · refine Classical.byContradiction fun no => ?_
      have := b (by omega)
      omega
    · refine Classical.byContradiction fun no => ?_
      have := a (by omega)
      omega
  · right
    have cX := c.use h
    have Lm : ∀ i ∈ L, 0 ≤ i ∧ i < (W.length : Int) := fun i hi => by have := c.mem i hi; omega
    have ce := cst_use h L Lm
    have neg' : cst X (L.map (rd W)) < 0 := by rw [ce]; exact neg
    have one := cX.one hX neg'
    have mX : ∀ i ∈ L.map (rd W), 0 ≤ i ∧ i < 2 * (E.length : Int) := fun i hi => by have := cX.mem i hi; omega
    have pos : ∀ i ∈ L.map (rd W), 0 < rc E A i := fun i hi => by
      obtain ⟨k, hk, rfl⟩ := List.mem_map.mp hi
      obtain ⟨a, b⟩ := Lm k hk
      have r := (h.el k a b).2.2.1
      have m := mX _ hi
      rw [hX.el _ m.1 m.2] at r; exact r
    have lm : (L.map (rd W)).length = L.length := List.length_map ..
    have cp := c.pos
    have Ln : L.map (rd W) ≠ [] := fun e => by rw [e] at lm; simp at lm; omega
    have Ll : (L.length : Int) ≤ 100000 := by
      have nd : (L.map fun i => (rd_T98 U i).f1).Nodup := nodup_rd2 (f := fun i => (rd_T98 U i).f1) fun i j i0 ij j1 => by
        have := c.once i.toNat j.toNat (by omega) (by omega)
        rw [show ((i.toNat : Nat) : Int) = i by omega, show ((j.toNat : Nat) : Int) = j by omega] at this; exact this
      have := nodup_len2 n.toNat _ nd (fun x hx => by
        obtain ⟨y, hy, rfl⟩ := List.mem_map.mp hx
        have m := c.mem y hy
        have e := RU.e y m.1 m.2
        have b1 := e.b1
        exact ⟨e.b0, by omega⟩)
      rw [List.length_map] at this
      omega
    obtain ⟨x, r1, r2, j, r3, r4⟩ := room_f n hX (by omega) Ln mX
    have xp : 0 < x := by rw [r4]; exact pos j r3
    have F : Fit E A (L.map (rd W)) x := ⟨by omega, fun i hi => ⟨(mX i hi).1, (mX i hi).2, r2 i hi⟩, one⟩
    refine ⟨chg x A (L.map (rd W)), ⟨by rw [chg_len]; exact M.len, chg_fit _ A M.len M.fit F, fun v v0 v1 => ?_⟩, ?_, fun z hz => ?_⟩
    · rw [net_chg _ A M.len F, flux_fs hX v _ mX, cX.fs0 v, Int.mul_zero, Int.add_zero]; exact M.out v v0 v1
    · rw [cost_chg hX _ A M.len F]
      have := Int.mul_neg_of_neg_of_pos neg' xp
      omega
    · refine go ((mincost_l2 h (by omega) Lm Ll L.length 0 (by omega) z ?_).congr fun k => by rw [if_neg (by omega)]; rfl)
      exact Evl.bind (h := fun k (bt648 : Int × List S98) => (compassref11_room.f k bt648.1 bt648.2 (L.map (rd W))).bind fun t652 => ((compassref11_change.f k A (L.map (rd W)) t652).bind fun t653 => (compassref11_MinCost.l1 k t653 n E))) x1
        (Evl.bind (h := fun k t652 => (compassref11_change.f k A (L.map (rd W)) t652).bind fun t653 => compassref11_MinCost.l1 k t653 n E) r1 (Evl.bind (h := fun k t653 => compassref11_MinCost.l1 k t653 n E) (change_f R (by omega) M.len M.fit F) hz))
theorem mincost_l1 {n : Int} {E : List S98} (R : Right n E) (m6 : (E.length : Int) ≤ 2000) {S : List Int} (N : Nat) : ∀ A : List Int, Meets n E S A → (cost E A E.length + 4503599627370496).toNat ≤ N →
    ∃ A' P, Evl (fun k => compassref11_MinCost.l1 k A n E) (A', P, [], true) ∧ Meets n E S A' ∧ Pots n P ∧ Tight E A' P := by
  induction N using Nat.strongRecOn with
  | _ N ih =>
    intro A M hN
    rcases mincost_step R m6 M with ⟨P, a, b, c⟩ | ⟨A', a, b, c⟩
    · exact ⟨A, P, a, M, b, c⟩
    · have lo := cost_low R a.fit E.length (Nat.le_refl _)
      obtain ⟨A2, P, x1, x2, x3, x4⟩ := ih (cost E A' E.length + 4503599627370496).toNat (by omega) A' a (Nat.le_refl _)
      exact ⟨A2, P, c _ x1, x2, x3, x4⟩
end Go.Proofs.Ytkdoihcjhccliaa.G
namespace Go.Proofs.Ytkdoihcjhccliaa.G
open Go.RowKit Go.Proofs.Ytkdoihcjhccliaa.Q Go.Proofs.YtkdoihcjhccliaaW.PrintWords Go.Proofs.YtkdoihcjhccliaaW.PrintLast
set_option linter.unusedVariables false

/-- The edge of a node to the giver or the taker. -/
def sup (n : Int) (S : List Int) (v : Int) : S98 := if rd S v > 0 then ⟨n, v, rd S v, 0⟩ else ⟨v, n + 1, -rd S v, 0⟩
/-- The graph with these edges of the first nodes. -/
def wd (n : Int) (E : List S98) (S : List Int) : Nat → List S98
  | 0 => E
  | v + 1 => wd n E S v ++ [sup n S v]
/-- What the first nodes have. -/
def tp (S : List Int) : Nat → Int
  | 0 => 0
  | v + 1 => tp S v + (if rd S v > 0 then rd S v else 0)
theorem wd_len (n : Int) (E : List S98) (S : List Int) : ∀ v, (wd n E S v).length = E.length + v
  | 0 => rfl
  | v + 1 => by rw [wd, List.length_append, wd_len n E S v]; rfl
theorem wd_old (n : Int) (E : List S98) (S : List Int) (i : Int) (i0 : 0 ≤ i) (i1 : i < (E.length : Int)) : ∀ v, rd_T98 (wd n E S v) i = rd_T98 E i
  | 0 => rfl
  | v + 1 => by rw [wd, rd98_lt _ _ _ i0 (by rw [wd_len]; omega)]; exact wd_old n E S i i0 i1 v
theorem wd_new (n : Int) (E : List S98) (S : List Int) (u : Nat) : ∀ v, u < v → rd_T98 (wd n E S v) ((E.length : Int) + u) = sup n S u
  | 0, h => by omega
  | v + 1, h => by
    by_cases q : u = v
    · subst q; rw [wd, rd98_eq _ _ _ (by rw [wd_len]; omega)]
    · rw [wd, rd98_lt _ _ _ (by omega) (by rw [wd_len]; omega)]; exact wd_new n E S u v (by omega)
theorem tp_le {n : Int} {S : List Int} (H : Sup n S) : ∀ v : Nat, (v : Int) ≤ n → 0 ≤ tp S v ∧ tp S v ≤ (v : Int) * 1048576
  | 0, _ => ⟨Int.le_refl _, by simp [tp]⟩
  | v + 1, h => by
    have a := tp_le H v (by omega)
    have b := H.lab v (by omega) (by omega)
    rw [tp]; push_cast; split <;> omega
theorem wd_right {n : Int} {E : List S98} (R : Right n E) (n6 : n ≤ 1000) (m6 : (E.length : Int) ≤ 2000) {S : List Int} (H : Sup n S) : Right (n + 2) (wd n E S n.toNat) := by
  have n0 := R.n0
  refine ⟨by omega, by omega, by rw [wd_len]; omega, fun i i0 i1 => ?_⟩
  rw [wd_len] at i1
  by_cases q : i < (E.length : Int)
  · have e := R.e i i0 q
    have a1 := e.a1
    have b1 := e.b1
    rw [wd_old n E S i i0 q]
    exact ⟨e.a0, by omega, e.b0, by omega, e.c0, e.c1, e.d0, e.d1⟩
  · have w := wd_new n E S (i - E.length).toNat n.toNat (by omega)
    rw [show (E.length : Int) + ((i - E.length).toNat : Nat) = i by omega] at w
    have lab := H.lab ((i - E.length).toNat : Nat) (by omega) (by omega)
    rw [w]; unfold sup
    split
    · exact ⟨by show 0 ≤ n; omega, by show n < _; omega, by show (0 : Int) ≤ ((i - E.length).toNat : Nat); omega, by show (((i - E.length).toNat : Nat) : Int) < _; omega, by show 0 ≤ rd S _; omega, by show rd S _ ≤ _; omega, by show -1048576 ≤ (0 : Int); decide, by show (0 : Int) ≤ 1048576; decide⟩
    · exact ⟨by show (0 : Int) ≤ ((i - E.length).toNat : Nat); omega, by show (((i - E.length).toNat : Nat) : Int) < _; omega, by show 0 ≤ n + 1; omega, by show n + 1 < _; omega, by show 0 ≤ -rd S _; omega, by show -rd S _ ≤ _; omega, by show -1048576 ≤ (0 : Int); decide, by show (0 : Int) ≤ 1048576; decide⟩

/-- What the first edges of the giver carry; of the taker. -/
def so (S A : List Int) (m : Int) : Nat → Int
  | 0 => 0
  | v + 1 => so S A m v + (if rd S v > 0 then rd A (m + v) else 0)
def ta (S A : List Int) (m : Int) : Nat → Int
  | 0 => 0
  | v + 1 => ta S A m v + (if rd S v > 0 then 0 else rd A (m + v))
theorem net_old {n : Int} {E : List S98} (S A : List Int) (v : Int) : ∀ i : Nat, i ≤ E.length → net (wd n E S n.toNat) A v i = net E A v i
  | 0, _ => rfl
  | i + 1, h => by simp only [net]; rw [net_old S A v i (by omega), wd_old n E S i (by omega) (by omega)]
theorem net_far {n : Int} {E : List S98} (R : Right n E) (A : List Int) {v : Int} (h : n ≤ v) : ∀ i : Nat, i ≤ E.length → net E A v i = 0
  | 0, _ => rfl
  | i + 1, hi => by
    have e := R.e i (by omega) (by omega)
    have a1 := e.a1
    have b1 := e.b1
    simp only [net]
    rw [net_far R A h i (by omega), if_neg (by omega), if_neg (by omega)]; rfl
theorem net_in {n : Int} {E : List S98} (R : Right n E) (S A : List Int) {v : Int} (v0 : 0 ≤ v) (v1 : v < n) : ∀ k : Nat, (k : Int) ≤ n →
    net (wd n E S n.toNat) A v (E.length + k) = net E A v E.length + (if v < (k : Int) then (if rd S v > 0 then -rd A (E.length + v) else rd A (E.length + v)) else 0)
  | 0, _ => by rw [if_neg (by omega), Nat.add_zero, net_old S A v _ (Nat.le_refl _)]; omega
  | k + 1, h => by
    have w := wd_new n E S k n.toNat (by omega)
    have ek : ((E.length + k : Nat) : Int) = (E.length : Int) + k := by omega
    rw [← Nat.add_assoc]
    simp only [net]
    rw [net_in R S A v0 v1 k (by omega), ek, w]
    unfold sup
    by_cases q : v = (k : Int)
    · rw [if_neg (show ¬ v < (k : Int) by omega), if_pos (show v < ((k + 1 : Nat) : Int) by omega), ← q]
      by_cases z : rd S v > 0
      · rw [if_pos z, if_pos z]
        show _ + 0 + (if n = v then _ else _) - (if v = v then _ else _) = _
        rw [if_neg (by omega), if_pos rfl]; omega
      · rw [if_neg z, if_neg z]
        show _ + 0 + (if v = v then _ else _) - (if n + 1 = v then _ else _) = _
        rw [if_pos rfl, if_neg (by omega)]; omega
    · have c : ∀ x : Int, (if v < ((k + 1 : Nat) : Int) then x else 0) = (if v < (k : Int) then x else 0) := fun x => by
        by_cases y : v < (k : Int)
        · rw [if_pos y, if_pos (by omega)]
        · rw [if_neg y, if_neg (by omega)]
      rw [c]
      by_cases z : rd S k > 0
      · rw [if_pos z]
        show _ + (if n = v then _ else _) - (if (k : Int) = v then _ else _) = _
        rw [if_neg (show ¬ n = v by omega), if_neg (show ¬ (k : Int) = v by omega)]; omega
      · rw [if_neg z]
        show _ + (if (k : Int) = v then _ else _) - (if n + 1 = v then _ else _) = _
        rw [if_neg (show ¬ (k : Int) = v by omega), if_neg (show ¬ n + 1 = v by omega)]; omega
theorem net_src {n : Int} {E : List S98} (R : Right n E) (S A : List Int) : ∀ k : Nat, (k : Int) ≤ n → net (wd n E S n.toNat) A n (E.length + k) = so S A E.length k
  | 0, _ => by rw [Nat.add_zero, net_old S A n _ (Nat.le_refl _), net_far R A (Int.le_refl _) _ (Nat.le_refl _)]; rfl
  | k + 1, h => by
    have w := wd_new n E S k n.toNat (by omega)
    have ek : ((E.length + k : Nat) : Int) = (E.length : Int) + k := by omega
    rw [← Nat.add_assoc]
    simp only [net]
    rw [net_src R S A k (by omega), ek, w, so]
    unfold sup
    by_cases z : rd S k > 0
    · rw [if_pos z, if_pos z]
      show _ + (if n = n then _ else _) - (if (k : Int) = n then _ else _) = _
      rw [if_pos rfl, if_neg (by omega)]; omega
    · rw [if_neg z, if_neg z]
      show _ + (if (k : Int) = n then _ else _) - (if n + 1 = n then _ else _) = _
      rw [if_neg (by omega), if_neg (by omega)]; omega
theorem net_tak {n : Int} {E : List S98} (R : Right n E) (S A : List Int) : ∀ k : Nat, (k : Int) ≤ n → net (wd n E S n.toNat) A (n + 1) (E.length + k) = -ta S A E.length k
  | 0, _ => by rw [Nat.add_zero, net_old S A (n + 1) _ (Nat.le_refl _), net_far R A (by omega) _ (Nat.le_refl _)]; rfl
  | k + 1, h => by
    have w := wd_new n E S k n.toNat (by omega)
    have ek : ((E.length + k : Nat) : Int) = (E.length : Int) + k := by omega
    rw [← Nat.add_assoc]
    simp only [net]
    rw [net_tak R S A k (by omega), ek, w, ta]
    unfold sup
    by_cases z : rd S k > 0
    · rw [if_pos z, if_pos z]
      show _ + (if n = n + 1 then _ else _) - (if (k : Int) = n + 1 then _ else _) = _
      rw [if_neg (by omega), if_neg (by omega)]; omega
    · rw [if_neg z, if_neg z]
      show _ + (if (k : Int) = n + 1 then _ else _) - (if n + 1 = n + 1 then _ else _) = _
      rw [if_neg (by omega), if_pos rfl]; omega

theorem rdOf_take (B : List Bool) (k : Nat) (v : Int) (v0 : 0 ≤ v) (v1 : v < (k : Int)) : rdOf false (B.take k) v = rdOf false B v := by
  unfold rdOf; rw [List.getD_eq_getElem?_getD, List.getD_eq_getElem?_getD, List.getElem?_take, if_pos (by omega)]
theorem rd_take (A : List Int) (k : Nat) (v : Int) (v0 : 0 ≤ v) (v1 : v < (k : Int)) : rd (A.take k) v = rd A v := by
  unfold rd; rw [List.getD_eq_getElem?_getD, List.getD_eq_getElem?_getD, List.getElem?_take, if_pos (by omega)]
theorem cut_old {n : Int} {E : List S98} (R : Right n E) (S : List Int) (B : List Bool) : ∀ i : Nat, i ≤ E.length → cut (wd n E S n.toNat) B i = cut E (B.take n.toNat) i
  | 0, _ => rfl
  | i + 1, h => by
    have e := R.e i (by omega) (by omega)
    have a1 := e.a1
    have b1 := e.b1
    simp only [cut]
    rw [cut_old R S B i (by omega), wd_old n E S i (by omega) (by omega), rdOf_take B _ _ e.a0 (by omega), rdOf_take B _ _ e.b0 (by omega)]
theorem cut_all {n : Int} {E : List S98} (R : Right n E) (S : List Int) {B : List Bool} (hs : rdOf false B n = true) (ht : rdOf false B (n + 1) = false) : ∀ k : Nat, (k : Int) ≤ n →
    cut (wd n E S n.toNat) B (E.length + k) = cut E (B.take n.toNat) E.length + tp S k - bsum (B.take n.toNat) S k
  | 0, _ => by rw [Nat.add_zero, cut_old R S B _ (Nat.le_refl _), tp, bsum]; omega
  | k + 1, h => by
    have w := wd_new n E S k n.toNat (by omega)
    have ek : ((E.length + k : Nat) : Int) = (E.length : Int) + k := by omega
    rw [← Nat.add_assoc]
    simp only [cut]
    rw [cut_all R S hs ht k (by omega), ek, w, tp, bsum, rdOf_take B _ _ (by omega) (by omega)]
    unfold sup
    by_cases z : rd S k > 0
    · rw [if_pos z, if_pos z]
      show _ + (if rdOf false B n = true ∧ rdOf false B (k : Int) = false then rd S k else 0) = _
      by_cases y : rdOf false B (k : Int) = true
      · rw [if_neg (by rw [y]; simp), if_pos y]; omega
      · rw [if_pos ⟨hs, by simpa using y⟩, if_neg y]; omega
    · rw [if_neg z, if_neg z]
      show _ + (if rdOf false B (k : Int) = true ∧ rdOf false B (n + 1) = false then -rd S k else 0) = _
      by_cases y : rdOf false B (k : Int) = true
      · rw [if_pos ⟨y, ht⟩, if_pos y]; omega
      · rw [if_neg fun h => y h.1, if_neg y]; omega

/-- Where what is carried is all that there is, each carries all. -/
theorem so_full {S A : List Int} {m : Int} {N : Nat} (h : ∀ v : Nat, v < N → rd S v > 0 → rd A (m + v) ≤ rd S v) : ∀ k : Nat, k ≤ N → so S A m k ≤ tp S k ∧ (tp S k ≤ so S A m k → ∀ v : Nat, v < k → rd S v > 0 → rd A (m + v) = rd S v)
  | 0, _ => ⟨Int.le_refl _, fun _ v hv => by omega⟩
  | k + 1, hk => by
    obtain ⟨a, b⟩ := so_full h k (by omega)
    rw [so, tp]
    by_cases z : rd S k > 0
    · have c := h k (by omega) z
      rw [if_pos z, if_pos z]
      refine ⟨by omega, fun q v hv hz => ?_⟩
      by_cases y : v = k
      · subst y; omega
      · exact b (by omega) v (by omega) hz
    · rw [if_neg z, if_neg z]
      refine ⟨by omega, fun q v hv hz => ?_⟩
      by_cases y : v = k
      · subst y; exact absurd hz z
      · exact b (by omega) v (by omega) hz
theorem ta_full {S A : List Int} {m : Int} {N : Nat} (h : ∀ v : Nat, v < N → ¬ rd S v > 0 → rd A (m + v) ≤ -rd S v) : ∀ k : Nat, k ≤ N → ta S A m k ≤ tp S k - ssum S k ∧ (tp S k - ssum S k ≤ ta S A m k → ∀ v : Nat, v < k → ¬ rd S v > 0 → rd A (m + v) = -rd S v)
  | 0, _ => ⟨by simp [ta, tp, ssum], fun _ v hv => by omega⟩
  | k + 1, hk => by
    obtain ⟨a, b⟩ := ta_full h k (by omega)
    rw [ta, tp, ssum]
    by_cases z : rd S k > 0
    · rw [if_pos z, if_pos z]
      refine ⟨by omega, fun q v hv hz => ?_⟩
      by_cases y : v = k
      · subst y; exact absurd z hz
      · exact b (by omega) v (by omega) hz
    · have c := h k (by omega) z
      rw [if_neg z, if_neg z]
      refine ⟨by omega, fun q v hv hz => ?_⟩
      by_cases y : v = k
      · subst y; omega
      · exact b (by omega) v (by omega) hz

theorem mincost_l0 {n : Int} {E : List S98} {S : List Int} {H : Sup n S} (n0 : 0 ≤ n) (n1 : n ≤ 1000) (m6 : (E.length : Int) ≤ 2000) (d : Nat) : ∀ v : Nat, ((v + d : Nat) : Int) = n →
    ∀ z, Evl (fun k => compassref11_MinCost.l0 k S n (tp S n.toNat) n n E (n + 2) (wd n E S n.toNat)) z → Evl (fun k => compassref11_MinCost.l0 k S n (tp S v) v n E (n + 2) (wd n E S v)) z := by
  induction d with
  | zero =>
    intro v hv z hz
    have e : v = n.toNat := by omega
    subst e
    rw [show ((n.toNat : Nat) : Int) = n by omega]; exact hz
  | succ d ih =>
    intro v hv z hz
    have w : wrap64 ((v : Int) + 1) = ((v + 1 : Nat) : Int) := by rw [w1 (by omega) (by omega)]; rfl
    have hl := wd_len n E S v
    have sl := H.len
    have lab := H.lab v (by omega) (by omega)
    have t := tp_le H v (by omega)
    have nxt := ih (v + 1) (by omega) z hz
    rw [tp, wd] at nxt
    unfold sup at nxt
    refine nxt.step fun k => ?_
    by_cases q : rd S v > 0
    · rw [compassref11_MinCost.l0, if_pos (by omega), if_pos (by omega), if_pos (by omega), if_pos q, if_pos (by omega), w, wr (by omega) (by omega), if_pos q, if_pos q]
    · rw [compassref11_MinCost.l0, if_pos (by omega), if_pos (by omega), if_pos (by omega), if_neg q, if_pos (by omega), w, w1 (by omega) (by omega), wr (x := -rd S v) (by omega) (by omega), if_neg q, if_neg q, Int.add_zero]

/-- Either a cheapest plan with potentials, or the side that shows that there is none. -/
theorem mincost_f {n : Int} {E : List S98} (R : Right n E) (n6 : n ≤ 1000) (m6 : (E.length : Int) ≤ 2000) {S : List Int} (H : Sup n S) :
    (∃ A P, Evl (fun k => compassref11_MinCost.f k n E S) (A, P, [], true) ∧ Meets n E S A ∧ Pots n P ∧ Tight E A P) ∨
      ∃ B, Evl (fun k => compassref11_MinCost.f k n E S) ([], [], B, false) ∧ (B.length : Int) = n ∧ cut E B E.length < bsum B S n.toNat := by
  have n0 := R.n0
  have RW := wd_right R n6 m6 H
  obtain ⟨A, B, f1, M, Sd⟩ := maxflow_f RW (s := n) (t := n + 1) (by omega) (by omega) (by omega) (by omega) (by omega)
  have wl := wd_len n E S n.toNat
  obtain ⟨o, o1, o2⟩ := out_f (n + 2) (wd n E S n.toNat) A n RW.m1 M.len
  have oe := o2 (M.fit.labs RW)
  rw [wl, net_src R S A n.toNat (by omega)] at oe
  have ml := M.len
  have bl := Sd.len
  have start : ∀ {z}, Evl (fun k => if o < tp S n.toNat then (if 0 ≤ n then (if n ≤ (B.length : Int) then (some (([] : List Int), ([] : List Int), (B.take (n : Int).toNat), false)) else (none)) else (none)) else (if 0 ≤ (E.length : Int) then (if (E.length : Int) ≤ (A.length : Int) then (compassref11_MinCost.l1 k (A.take ((E.length : Int) : Int).toNat) n E) else (none)) else (none))) z → Evl (fun k => compassref11_MinCost.f k n E S) z := fun {z} hz => by
    refine (Evl.bind (h := fun k (bt596 : Int × List S98) => compassref11_MinCost.l0 k S n 0 0 n E (wrap64 (bt596.1 + 2)) bt596.2) (copy_f n E (by omega)) ?_).congr fun k => rfl
    have w2 : wrap64 (n + 2) = n + 2 := wr (by omega) (by omega)
    refine Evl.congr (h := fun k => compassref11_MinCost.l0 k S n 0 0 n E (n + 2) E) ?_ fun k => by rw [w2]
    refine mincost_l0 (H := H) n0 n6 m6 n.toNat 0 (by omega) z ?_
    refine Evl.step (h := fun k => (compassref11_MaxFlow.f k (n + 2) (wd n E S n.toNat) n (n + 1)).bind fun bt611 => ((compassref11_Out.f k (n + 2) (wd n E S n.toNat) bt611.1 n).bind fun t617 => (if t617 < tp S n.toNat then (if 0 ≤ n then (if n ≤ (bt611.2.length : Int) then (some (([] : List Int), ([] : List Int), (bt611.2.take (n : Int).toNat), false)) else (none)) else (none)) else (if 0 ≤ (E.length : Int) then (if (E.length : Int) ≤ (bt611.1.length : Int) then (compassref11_MinCost.l1 k (bt611.1.take ((E.length : Int) : Int).toNat) n E) else (none)) else (none))))) ?_ fun k => by rw [compassref11_MinCost.l0, if_neg (by omega), w1 (by omega) (by omega)]
    refine Evl.bind (h := fun k (bt611 : List Int × List Bool) => (compassref11_Out.f k (n + 2) (wd n E S n.toNat) bt611.1 n).bind fun t617 => (if t617 < tp S n.toNat then (if 0 ≤ n then (if n ≤ (bt611.2.length : Int) then (some (([] : List Int), ([] : List Int), (bt611.2.take (n : Int).toNat), false)) else (none)) else (none)) else (if 0 ≤ (E.length : Int) then (if (E.length : Int) ≤ (bt611.1.length : Int) then (compassref11_MinCost.l1 k (bt611.1.take ((E.length : Int) : Int).toNat) n E) else (none)) else (none)))) f1 ?_
    exact Evl.bind (h := fun k t617 => if t617 < tp S n.toNat then (if 0 ≤ n then (if n ≤ (B.length : Int) then (some (([] : List Int), ([] : List Int), (B.take (n : Int).toNat), false)) else (none)) else (none)) else (if 0 ≤ (E.length : Int) then (if (E.length : Int) ≤ (A.length : Int) then (compassref11_MinCost.l1 k (A.take ((E.length : Int) : Int).toNat) n E) else (none)) else (none))) o1 hz
  have sc := side_cut RW (by omega) (by omega) M Sd
  rw [wl, net_src R S A n.toNat (by omega), cut_all R S Sd.src Sd.snk n.toNat (by omega)] at sc
  by_cases q : o < tp S n.toNat
  · right
    refine ⟨B.take n.toNat, start (Evl.pure.congr fun k => by rw [if_pos q, if_pos n0, if_pos (by omega)]), by rw [List.length_take]; omega, by omega⟩
  · left
    -- all is carried
    have nk := net_snk RW (A := A) (s := n) (t := n + 1) (by omega) (by omega) (by omega) (by omega) (by omega) M.kept
    rw [wl, net_src R S A n.toNat (by omega), net_tak R S A n.toNat (by omega)] at nk
    have fitn : ∀ v : Nat, (v : Int) < n → 0 ≤ rd A ((E.length : Int) + v) ∧ rd A ((E.length : Int) + v) ≤ (sup n S v).f2 := fun v hv => by
      have := M.fit ((E.length : Int) + v) (by omega) (by rw [wl]; omega)
      rw [wd_new n E S v n.toNat (by omega)] at this; exact this
    have s1 := (so_full (S := S) (A := A) (m := E.length) (N := n.toNat) (fun v hv hz => by
      have := (fitn v (by omega)).2
      unfold sup at this; rw [if_pos hz] at this; exact this) n.toNat (Nat.le_refl _)).2 (by omega)
    have al := H.all
    have t1 := (ta_full (S := S) (A := A) (m := E.length) (N := n.toNat) (fun v hv hz => by
      have := (fitn v (by omega)).2
      unfold sup at this; rw [if_neg hz] at this; exact this) n.toNat (Nat.le_refl _)).2 (by omega)
    have nt : ∀ v : Int, ∀ i : Nat, i ≤ E.length → net E (A.take E.length) v i = net E A v i := by
      intro v i
      induction i with
      | zero => intro _; rfl
      | succ i ih => intro hi; simp only [net]; rw [ih (by omega), rd_take A _ _ (by omega) (by omega)]
    have Mt : Meets n E S (A.take E.length) := by
      refine ⟨by rw [List.length_take]; omega, fun i i0 i1 => ?_, fun v v0 v1 => ?_⟩
      · have := M.fit i i0 (by rw [wl]; omega)
        rw [wd_old n E S i i0 i1] at this
        rw [rd_take A _ _ i0 i1]; exact this
      · rw [nt v _ (Nat.le_refl _)]
        have k := M.kept v v0 (by omega) (by omega) (by omega)
        rw [wl, net_in R S A v0 v1 n.toNat (by omega), if_pos (by omega)] at k
        have ev : ((v.toNat : Nat) : Int) = v := by omega
        by_cases z : rd S v > 0
        · have := s1 v.toNat (by omega) (by rw [ev]; exact z)
          rw [ev] at this
          rw [if_pos z] at k; omega
        · have := t1 v.toNat (by omega) (by rw [ev]; exact z)
          rw [ev] at this
          rw [if_neg z] at k; omega
    obtain ⟨A', P, a, b, c, d⟩ := mincost_l1 R m6 _ _ Mt (Nat.le_refl _)
    exact ⟨A', P, start (a.congr fun k => by rw [if_neg q, if_pos (by omega), if_pos (by omega)]; rfl), b, c, d⟩
end Go.Proofs.Ytkdoihcjhccliaa.G
namespace Go.Proofs.Ytkdoihcjhccliaa.G
open Go.RowKit Go.Proofs.Ytkdoihcjhccliaa.Q Go.Proofs.YtkdoihcjhccliaaW.PrintWords Go.Proofs.YtkdoihcjhccliaaW.PrintLast
theorem awake_now (k : Nat) : compasslaw11_awake.f (k + 40) = some true := by kernel_rfl
theorem awake_f : Evl (fun k => compasslaw11_awake.f k) true := ⟨40, fun k hk => by
  obtain ⟨d, rfl⟩ : ∃ d, k = d + 40 := ⟨k - 40, by omega⟩
  exact awake_now d⟩
end Go.Proofs.Ytkdoihcjhccliaa.G
namespace Go.Proofs.Ytkdoihcjhccliaa.Pure
open Go.Proofs.Ytkdoihcjhccliaa.G Go.Proofs.Ytkdoihcjhccliaa.Q Go.Proofs.YtkdoihcjhccliaaW.PrintWords Go.Proofs.YtkdoihcjhccliaaW.PrintLast
theorem ProofPlanFull (n : Int) (E : List S98) (S : List Int) : ∃ K, compasslaw11_ProofPlanFull.f K n E S = some true := by
  refine Evl.at (r := true) ?_
  refine (Evl.bind (h := fun k t657 => if t657 = true then (if n > 64 then (compasslaw11_ProofPlanFull.j0 k S true n E) else (if (E.length : Int) > 256 then (compasslaw11_ProofPlanFull.j0 k S true n E) else ((compassref11_Supplies.f k n E S).bind fun t658 => (compasslaw11_ProofPlanFull.j0 k S (t658 != 0) n E)))) else (some false)) awake_f ?_).congr fun k => rfl
  have skip : Evl (fun k => compasslaw11_ProofPlanFull.j0 k S true n E) true := Evl.here fun k => by rw [compasslaw11_ProofPlanFull.j0, if_pos rfl]
  by_cases h1 : n > 64
  · exact skip.congr fun k => by rw [if_pos rfl, if_pos h1]
  · by_cases h2 : (E.length : Int) > 256
    · exact skip.congr fun k => by rw [if_pos rfl, if_neg h1, if_pos h2]
    · have sk : ∀ x : Int, x ≠ 0 → Evl (fun k => compassref11_Supplies.f k n E S) x → Evl (fun k => (compassref11_Supplies.f k n E S).bind fun t658 => (compasslaw11_ProofPlanFull.j0 k S (t658 != 0) n E)) true := fun x hx h => by
        refine Evl.bind (h := fun k t658 => compasslaw11_ProofPlanFull.j0 k S (t658 != 0) n E) h ?_
        have : (x != 0) = true := bne_iff_ne.mpr hx
        rw [this]; exact skip
      refine Evl.congr (h := fun k => (compassref11_Supplies.f k n E S).bind fun t658 => (compasslaw11_ProofPlanFull.j0 k S (t658 != 0) n E)) ?_ fun k => by rw [if_pos rfl, if_neg h1, if_neg h2]
      obtain ⟨c, a, g1, g2, g3, g4, g5⟩ := check_f n E
      by_cases hc : c = 0
      · subst hc
        obtain ⟨rfl, R⟩ := g3 rfl
        obtain ⟨x, x1, x2, x3, x4⟩ := supplied_f R g2 S
        by_cases hx : x = 0
        · have H := x4.mp hx
          subst hx
          refine Evl.bind (h := fun k t658 => compasslaw11_ProofPlanFull.j0 k S (t658 != 0) n E) x2 ?_
          have go : ∀ {z}, Evl (fun k => (compassref11_MinCost.f k n E S).bind fun bt659 => (if bt659.2.2.2 = true then ((proof_Cheapest.f k n E S bt659.1 bt659.2.1).bind fun bt669 => (if bt669.2 = 0 then ((compassref11_Total.f k n E bt659.1).bind fun t671 => (some (bt669.1 == t671))) else (some false))) else ((proof_NoPlan.f k n E S bt659.2.2.1).bind fun t672 => (some (t672 == 0))))) z → Evl (fun k => compasslaw11_ProofPlanFull.j0 k S ((0 : Int) != 0) n E) z := fun hz => hz.step fun k => by rw [compasslaw11_ProofPlanFull.j0, if_neg (by decide)]
          rcases mincost_f R (by omega) (by omega) H with ⟨A, P, f1, M, PP, T⟩ | ⟨B, f1, bl, lt⟩
          · obtain ⟨v, e, p1, p2, p3, p4, p5⟩ := cheap_f n E S A P
            have e0 := p5 R H M PP T
            obtain ⟨-, -, -, -, -, ve⟩ := p4 e0
            have tf := total_f (n := n) R.m1 M.len
            have tc := (totw_cost R (M.fit.labs R) E.length (Nat.le_refl _)).1
            refine go (Evl.bind (h := fun k (bt659 : List Int × List Int × List Bool × Bool) => if bt659.2.2.2 = true then ((proof_Cheapest.f k n E S bt659.1 bt659.2.1).bind fun bt669 => (if bt669.2 = 0 then ((compassref11_Total.f k n E bt659.1).bind fun t671 => (some (bt669.1 == t671))) else (some false))) else ((proof_NoPlan.f k n E S bt659.2.2.1).bind fun t672 => (some (t672 == 0)))) f1 ?_)
            refine (Evl.bind (h := fun k (bt669 : Int × Int) => if bt669.2 = 0 then ((compassref11_Total.f k n E A).bind fun t671 => (some (bt669.1 == t671))) else (some false)) p1 ?_).congr fun k => by rw [if_pos rfl]
            refine (Evl.bind (h := fun k t671 => some (v == t671)) tf (Evl.pure.congr fun k => ?_)).congr fun k => by rw [if_pos e0]
            rw [tc, ve, beq_self_eq_true]
          · obtain ⟨e, p1, p2, p3, p4⟩ := noplan_f n E S B
            have e0 := p4 R H bl lt
            refine go (Evl.bind (h := fun k (bt659 : List Int × List Int × List Bool × Bool) => if bt659.2.2.2 = true then ((proof_Cheapest.f k n E S bt659.1 bt659.2.1).bind fun bt669 => (if bt669.2 = 0 then ((compassref11_Total.f k n E bt659.1).bind fun t671 => (some (bt669.1 == t671))) else (some false))) else ((proof_NoPlan.f k n E S bt659.2.2.1).bind fun t672 => (some (t672 == 0)))) f1 ?_)
            refine (Evl.bind (h := fun k t672 => some (t672 == 0)) p1 (Evl.pure.congr fun k => ?_)).congr fun k => by rw [if_neg (by simp)]
            rw [e0]; rfl
        · exact sk x hx x2
      · exact sk c hc (supplies_bad hc g2 S)
end Go.Proofs.Ytkdoihcjhccliaa.Pure
namespace Go.Proofs.Ytkdoihcjhccliaa.G
open Go.RowKit Go.Proofs.Ytkdoihcjhccliaa.Q Go.Proofs.YtkdoihcjhccliaaW.PrintWords Go.ChangeShapes Go.WideShapes Go.Deep
set_option linter.unusedVariables false
section
variable {H : Type} {enc : TypeId × Value → H} {P : Program} {w : World} {base : Nat} {spare : Nat → Bool} {held : Bool}
instance : Inhabited S98 := ⟨z98⟩

theorem open_edge {t i1 i2 : TypeId} {f0 f1 f2 f3 : Field} {fuel : Nat} {cs : List Value} {x : DataW H × List MemPlace} (ht : P.underlying t = some (.struct #[f0, f1, f2, f3])) (hC : P.cellsOf t = 4)
    (o : f0.offset = 0 ∧ f1.offset = 1 ∧ f2.offset = 2 ∧ f3.offset = 3) (c : P.cellsOf f0.type = 1 ∧ P.cellsOf f1.type = 1 ∧ P.cellsOf f2.type = 1 ∧ P.cellsOf f3.type = 1)
    (h0 : P.underlying f0.type = some (.int .i64)) (h1 : P.underlying f1.type = some (.int .i64)) (h2 : P.underlying f2.type = some (.int .i64)) (h3 : P.underlying f3.type = some (.int .i64))
    (h : DataW.trod enc P w base spare held fuel t cs = some x) : ∃ e : S98, cs = [.int .i64 e.f0, .int .i64 e.f1, .int .i64 e.f2, .int .i64 e.f3] := by
  obtain ⟨y0, y1, y2, y3, n, -, hl, g0, g1, g2, g3⟩ := Joins.trod_struct4 ht h
  rw [hC] at hl
  match cs, hl with
  | [c0, c1, c2, c3], _ =>
    obtain ⟨o0, o1, o2, o3⟩ := o
    obtain ⟨k0, k1, k2, k3⟩ := c
    simp only [o0, o1, o2, o3, k0, k1, k2, k3, List.drop_zero, List.drop_succ_cons, List.take_succ_cons, List.take_zero] at g0 g1 g2 g3
    obtain ⟨x0, e0, -, -⟩ := DataW.trod_int h0 g0
    obtain ⟨x1, e1, -, -⟩ := DataW.trod_int h1 g1
    obtain ⟨x2, e2, -, -⟩ := DataW.trod_int h2 g2
    obtain ⟨x3, e3, -, -⟩ := DataW.trod_int h3 g3
    simp only [List.cons.injEq, and_true] at e0 e1 e2 e3
    exact ⟨⟨x0, x1, x2, x3⟩, by rw [e0, e1, e2, e3]⟩

theorem open_edges {t e : TypeId} {f0 f1 f2 f3 : Field} {fuel : Nat} {v : Value} {x : DataW H × List MemPlace} (ht : P.underlying t = some (.slice e)) (he : P.underlying e = some (.struct #[f0, f1, f2, f3])) (hC : P.cellsOf e = 4)
    (o : f0.offset = 0 ∧ f1.offset = 1 ∧ f2.offset = 2 ∧ f3.offset = 3) (c : P.cellsOf f0.type = 1 ∧ P.cellsOf f1.type = 1 ∧ P.cellsOf f2.type = 1 ∧ P.cellsOf f3.type = 1)
    (h0 : P.underlying f0.type = some (.int .i64)) (h1 : P.underlying f1.type = some (.int .i64)) (h2 : P.underlying f2.type = some (.int .i64)) (h3 : P.underlying f3.type = some (.int .i64))
    (h : DataW.trod enc P w base spare held fuel t [v] = some x) : ∃ (A : Option Addr) (l : List S98) (cap : Nat), v = .slice A l.length cap ∧ l.length ≤ cap ∧ Kd.C k98 w A l.length l := by
  rcases open_slice ht h with ⟨hcs, -⟩ | ⟨a, len, cap, m, n, D, Pl, hcs, hb, hl, hm, hmm, -, hx⟩
  · obtain rfl : v = .slice none 0 0 := by simpa using hcs
    exact ⟨none, [], 0, rfl, Nat.le_refl _, Kd.C_nil k98 w⟩
  · obtain rfl : v = .slice (some a) len cap := by simpa using hcs
    have hlm : len ≤ m := by rw [hmm]; split <;> omega
    have each : ∀ i, i < len → ∃ s : S98, w.cells? base (a.add (i * 4)) 4 = some [.int .i64 s.f0, .int .i64 s.f1, .int .i64 s.f2, .int .i64 s.f3] := fun i hi => by
      obtain ⟨cs', q1, q2⟩ := hx i (by omega)
      rw [hC] at q1
      obtain ⟨s, rfl⟩ := open_edge (i1 := 0) (i2 := 0) he hC o c h0 h1 h2 h3 q2
      exact ⟨s, q1⟩
    obtain ⟨f, hf⟩ := choose_lt each
    have hlen : ((List.range len).map f).length = len := by simp
    refine ⟨some a, (List.range len).map f, cap, by rw [hlen], by rw [hlen]; exact hl, ?_⟩
    · rw [hlen]
      refine ⟨hlen, by unfold maxLen at hm; omega, fun _ => ⟨a, rfl, fun j p hp => ?_⟩⟩
      have hj : j < len := by
        have := (List.getElem?_eq_some_iff.mp hp).1
        rw [hlen] at this; exact this
      have hp' : f j = p := by
        rw [List.getElem?_map, List.getElem?_range hj] at hp
        simpa using hp
      subst hp'
      obtain ⟨-, -, hcell⟩ := World.cells?_some (hf j hj)
      refine ⟨_, rfl, k98_mk w (f j), fun i u hu => ?_⟩
      have hi : i < 4 := by
        have := (List.getElem?_eq_some_iff.mp hu).1
        simpa using this
      have := hcell i hi
      rw [Go.Deep.add_add] at this
      show w.cell? (a.add (j * 4 + i)) = some u
      rw [this, hu]
/-- A row of scalars that came in, opened. -/
theorem open_row1 {α : Type} [Inhabited α] (d : Kd α) (mk : α → Value) (hs : d.sz = 1) (hK : ∀ (w : World) (x : α), d.K w x [mk x]) {t e : TypeId} {fuel : Nat} {v : Value} {x : DataW H × List MemPlace} (ht : P.underlying t = some (.slice e)) (hC : P.cellsOf e = 1)
    (he : ∀ {fuel : Nat} {cs : List Value} {x : DataW H × List MemPlace}, DataW.trod enc P w base spare held fuel e cs = some x → ∃ y : α, cs = [mk y])
    (h : DataW.trod enc P w base spare held fuel t [v] = some x) : ∃ (A : Option Addr) (l : List α) (cap : Nat), v = .slice A l.length cap ∧ l.length ≤ cap ∧ Kd.C d w A l.length l := by
  rcases open_slice ht h with ⟨hcs, -⟩ | ⟨a, len, cap, m, n, D, Pl, hcs, hb, hl, hm, hmm, -, hx⟩
  · obtain rfl : v = .slice none 0 0 := by simpa using hcs
    exact ⟨none, [], 0, rfl, Nat.le_refl _, Kd.C_nil d w⟩
  · obtain rfl : v = .slice (some a) len cap := by simpa using hcs
    have hlm : len ≤ m := by rw [hmm]; split <;> omega
    have each : ∀ i, i < len → ∃ s : α, w.cells? base (a.add (i * 1)) 1 = some [mk s] := fun i hi => by
      obtain ⟨cs', q1, q2⟩ := hx i (by omega)
      rw [hC] at q1
      obtain ⟨s, rfl⟩ := he q2
      exact ⟨s, q1⟩
    obtain ⟨f, hf⟩ := choose_lt each
    have hlen : ((List.range len).map f).length = len := by simp
    refine ⟨some a, (List.range len).map f, cap, by rw [hlen], by rw [hlen]; exact hl, ?_⟩
    rw [hlen]
    refine ⟨hlen, by unfold maxLen at hm; omega, fun _ => ⟨a, rfl, fun j p hp => ?_⟩⟩
    have hj : j < len := by
      have := (List.getElem?_eq_some_iff.mp hp).1
      rw [hlen] at this; exact this
    have hp' : f j = p := by
      rw [List.getElem?_map, List.getElem?_range hj] at hp
      simpa using hp
    subst hp'
    obtain ⟨-, -, hcell⟩ := World.cells?_some (hf j hj)
    refine ⟨_, by rw [hs]; rfl, hK w (f j), fun i u hu => ?_⟩
    have hi : i < 1 := by
      have := (List.getElem?_eq_some_iff.mp hu).1
      simpa using this
    have := hcell i hi
    rw [Go.Deep.add_add] at this
    rw [hs]
    show w.cell? (a.add (j * 1 + i)) = some u
    rw [this, hu]
theorem open_ints1 {t e : TypeId} {fuel : Nat} {v : Value} {x : DataW H × List MemPlace} (ht : P.underlying t = some (.slice e)) (he : P.underlying e = some (.int .i64)) (hC : P.cellsOf e = 1)
    (h : DataW.trod enc P w base spare held fuel t [v] = some x) : ∃ (A : Option Addr) (l : List Int) (cap : Nat), v = .slice A l.length cap ∧ l.length ≤ cap ∧ Kd.C (Kd.int .i64) w A l.length l :=
  open_row1 (Kd.int .i64) (Value.int .i64) rfl (fun _ _ => rfl) ht hC (fun h => by obtain ⟨n, e, -, -⟩ := DataW.trod_int he h; exact ⟨n, e⟩) h
theorem open_bools1 {t e : TypeId} {fuel : Nat} {v : Value} {x : DataW H × List MemPlace} (ht : P.underlying t = some (.slice e)) (he : P.underlying e = some .bool) (hC : P.cellsOf e = 1)
    (h : DataW.trod enc P w base spare held fuel t [v] = some x) : ∃ (A : Option Addr) (l : List Bool) (cap : Nat), v = .slice A l.length cap ∧ l.length ≤ cap ∧ Kd.C Kd.bool w A l.length l :=
  open_row1 Kd.bool Value.bool rfl (fun _ _ => rfl) ht hC (fun h => by obtain ⟨n, e, -⟩ := DataW.trod_bool he h; exact ⟨n, e⟩) h
end
end Go.Proofs.Ytkdoihcjhccliaa.G
