/- Words for the chapter on walks: what rounds come to, reads behind a write, and right graphs. -/
/- Amounts on the edges of a right graph: what goes out of a node, what leaves a side; the program's looks and the document's. -/
/- Flows and cuts: the program's look takes just what the document's does. -/
/- Weights at the nodes: over all nodes what goes out, weighted, is what lies on the edges, weighted by the ends; no flow is greater than a cut. -/
/- Supplies, potentials, costs: the program's looks and the document's, and weak duality. -/
/- Means: the program's look at a circle takes just what the document's does. -/
/- Circles and their means: both looks answer alike. -/
/- Sets of nodes that no edge leaves or enters. -/
/- Orders of the nodes: both looks answer alike; and then there is no circle. -/
/- A circle that costs less than nothing, or potentials: what the document's rounds over all edges come to. -/
/- The document's order of the nodes: each edge goes on in it; or some nodes wait for one another. -/
/- The document's plain way to a circle of least mean: from circle to better circle; it ends, with potentials. -/
/- The law's own look at the program. -/
/- The law ProofLoopFull. -/
/- A graph that came in, opened: its edges as a list. -/
import Derived.Test.YtkdoihcjhccliaaQ23
import Derived.Test.YtkdoihcjhccliaaQ4
import Derived.Test.YtkdoihcjhccliaaQ20
import Derived.Test.YtkdoihcjhccliaaQ21
import Derived.Test.YtkdoihcjhccliaaQ24
import Derived.Test.YtkdoihcjhccliaaQ25
import Derived.Test.YtkdoihcjhccliaaQ5
import Derived.Test.YtkdoihcjhccliaaQ6
import Derived.Test.YtkdoihcjhccliaaQ7
import Derived.Test.YtkdoihcjhccliaaQ22
import Derived.Test.YtkdoihcjhccliaaQ26
import Derived.Test.YtkdoihcjhccliaaQ9
import Derived.Test.YtkdoihcjhccliaaQ10
import Derived.Test.YtkdoihcjhccliaaQ27
import Derived.Test.YtkdoihcjhccliaaQ28
import Derived.Test.YtkdoihcjhccliaaQ16
import Derived.Test.YtkdoihcjhccliaaQ17
import Derived.Test.YtkdoihcjhccliaaQ18
import Derived.Test.YtkdoihcjhccliaaQ32
import Derived.Test.YtkdoihcjhccliaaQ34
import Derived.Test.YtkdoihcjhccliaaQ35
import Derived.Test.YtkdoihcjhccliaaQ19
import Derived.Test.YtkdoihcjhccliaaQ37
import Derived.Test.YtkdoihcjhccliaaQ38
import Derived.Test.YtkdoihcjhccliaaQ66
import Derived.Test.YtkdoihcjhccliaaQ70
import Derived.Test.YtkdoihcjhccliaaQ71
import Derived.Test.YtkdoihcjhccliaaQ67
import Derived.Test.YtkdoihcjhccliaaQ68
import Derived.Test.YtkdoihcjhccliaaQ69
import Derived.Test.YtkdoihcjhccliaaQ72
import Derived.Test.YtkdoihcjhccliaaQ0
import Derived.Deep.Slices
import Derived.Lib.SmallJoins
import Derived.OpenShut
import Derived.ChangeArms
namespace Go.Proofs.Ytkdoihcjhccliaa.G
open Go.RowKit Go.Proofs.Ytkdoihcjhccliaa.Q Go.Proofs.YtkdoihcjhccliaaW.PrintWords Go.Proofs.YtkdoihcjhccliaaW.PrintLast
set_option linter.unusedVariables false

/-- With enough rounds the answer is r. -/
def Evl {α : Type} (g : Nat → Option α) (r : α) : Prop := ∃ K, ∀ k, K ≤ k → g k = some r

section
variable {α β : Type}
theorem Evl.step {g h : Nat → Option α} {r : α} (H : Evl h r) (e : ∀ k, g (k + 1) = h k) : Evl g r := by
  obtain ⟨K, hK⟩ := H
  refine ⟨K + 1, fun k hk => ?_⟩
  obtain ⟨m, rfl⟩ : ∃ m, k = m + 1 := ⟨k - 1, by omega⟩
  rw [e]; exact hK m (by omega)
theorem Evl.here {g : Nat → Option α} {r : α} (e : ∀ k, g (k + 1) = some r) : Evl g r := by
  refine ⟨1, fun k hk => ?_⟩
  obtain ⟨m, rfl⟩ : ∃ m, k = m + 1 := ⟨k - 1, by omega⟩
  exact e m
theorem Evl.pure {r : α} : Evl (fun _ => some r) r := ⟨0, fun _ _ => rfl⟩
theorem Evl.congr {g h : Nat → Option α} {r : α} (H : Evl h r) (e : ∀ k, g k = h k) : Evl g r := by
  obtain ⟨K, hK⟩ := H
  exact ⟨K, fun k hk => by rw [e]; exact hK k hk⟩
theorem Evl.bind {g : Nat → Option α} {h : Nat → α → Option β} {a : α} {r : β} (G : Evl g a) (H : Evl (fun k => h k a) r) : Evl (fun k => (g k).bind (h k)) r := by
  obtain ⟨K, hK⟩ := G
  obtain ⟨L, hL⟩ := H
  exact ⟨max K L, fun k hk => by show (g k).bind (h k) = some r; rw [hK k (by omega), Option.bind_some]; exact hL k (by omega)⟩
theorem Evl.at {g : Nat → Option α} {r : α} (H : Evl g r) : ∃ k, g k = some r := by
  obtain ⟨K, hK⟩ := H
  exact ⟨K, hK K (Nat.le_refl _)⟩
theorem Evl.mono {g : Nat → Option α} {r : α} {k0 : Nat} (h : g k0 = some r) (m : ∀ k, LeO (g k) (g (k + 1))) : Evl g r := by
  refine ⟨k0, fun k hk => ?_⟩
  obtain ⟨d, rfl⟩ : ∃ d, k = k0 + d := ⟨k - k0, by omega⟩
  clear hk
  induction d with
  | zero => exact h
  | succ d ih => exact m _ _ ih
theorem Evl.eq {g : Nat → Option α} {r s : α} (H : Evl g r) (J : Evl g s) : r = s := by
  obtain ⟨K, hK⟩ := H
  obtain ⟨L, hL⟩ := J
  have := hK (max K L) (by omega)
  rw [hL (max K L) (by omega)] at this
  exact (Option.some.inj this).symm
end

section
variable {α : Type}
theorem getD_set (l : List α) (d x : α) (i j : Nat) (h : i < l.length) : (l.set i x).getD j d = if j = i then x else l.getD j d := by
  by_cases e : j = i
  · subst e; rw [if_pos rfl]; simp [List.getD, h]
  · rw [if_neg e]; simp [List.getD, List.getElem?_set_ne (fun a => e a.symm)]
theorem getD_append (l m : List α) (d : α) (j : Nat) : (l ++ m).getD j d = if j < l.length then l.getD j d else m.getD (j - l.length) d := by
  by_cases e : j < l.length
  · rw [if_pos e]; simp [List.getD, List.getElem?_append_left e]
  · rw [if_neg e]; simp [List.getD, List.getElem?_append_right (Nat.le_of_not_lt e)]
theorem getD_mem (l : List α) (d : α) (j : Nat) (h : j < l.length) : l.getD j d ∈ l := by
  rw [List.getD_eq_getElem?_getD, List.getElem?_eq_getElem h]; exact List.getElem_mem h
theorem getD_replicate (n : Nat) (x d : α) (j : Nat) (h : j < n) : (List.replicate n x).getD j d = x := by
  simp [List.getD, h]
theorem ext_getD (l m : List α) (d : α) (hl : l.length = m.length) (h : ∀ j, j < l.length → l.getD j d = m.getD j d) : l = m := by
  apply List.ext_getElem hl
  intro j h1 h2
  have := h j h1
  rwa [List.getD_eq_getElem?_getD, List.getD_eq_getElem?_getD, List.getElem?_eq_getElem h1, List.getElem?_eq_getElem h2] at this
end

theorem rd_set (l : List Int) (x i j : Int) (h0 : 0 ≤ i) (h : i < (l.length : Int)) (hj : 0 ≤ j) : rd (l.set i.toNat x) j = if j = i then x else rd l j := by
  unfold rd
  rw [getD_set l 0 x i.toNat j.toNat (by omega)]
  by_cases e : j = i
  · rw [if_pos e, if_pos (by rw [e])]
  · rw [if_neg e, if_neg (by omega)]
theorem rdOf_set {α : Type} (d : α) (l : List α) (x : α) (i j : Int) (h0 : 0 ≤ i) (h : i < (l.length : Int)) (hj : 0 ≤ j) : rdOf d (l.set i.toNat x) j = if j = i then x else rdOf d l j := by
  unfold rdOf
  rw [getD_set l d x i.toNat j.toNat (by omega)]
  by_cases e : j = i
  · rw [if_pos e, if_pos (by rw [e])]
  · rw [if_neg e, if_neg (by omega)]
theorem rd_mem (l : List Int) (j : Int) (h0 : 0 ≤ j) (h : j < (l.length : Int)) : rd l j ∈ l := getD_mem l 0 j.toNat (by omega)
theorem rd_replicate (n : Nat) (x j : Int) (h0 : 0 ≤ j) (h : j < (n : Int)) : rd (List.replicate n x) j = x := getD_replicate n x 0 j.toNat (by omega)
theorem rdOf_replicate {α : Type} (n : Nat) (x d : α) (j : Int) (h0 : 0 ≤ j) (h : j < (n : Int)) : rdOf d (List.replicate n x) j = x := getD_replicate n x d j.toNat (by omega)
theorem rd_append (l m : List Int) (j : Int) (h0 : 0 ≤ j) : rd (l ++ m) j = if j < (l.length : Int) then rd l j else rd m (j - l.length) := by
  unfold rd
  rw [getD_append]
  by_cases e : j < (l.length : Int)
  · rw [if_pos e, if_pos (by omega)]
  · rw [if_neg e, if_neg (by omega)]; congr 1; omega
theorem ext_rd (l m : List Int) (hl : l.length = m.length) (h : ∀ j : Int, 0 ≤ j → j < (l.length : Int) → rd l j = rd m j) : l = m := by
  refine ext_getD l m 0 hl fun j hj => ?_
  have := h (j : Int) (by omega) (by omega)
  unfold rd at this
  simpa using this
theorem mem_rd {l : List Int} {x : Int} (h : x ∈ l) : ∃ j : Int, 0 ≤ j ∧ j < (l.length : Int) ∧ rd l j = x := by
  obtain ⟨j, hj, e⟩ := List.mem_iff_getElem.mp h
  refine ⟨(j : Int), by omega, by omega, ?_⟩
  unfold rd
  rw [List.getD_eq_getElem?_getD, show ((j : Int).toNat) = j by omega, List.getElem?_eq_getElem hj]
  exact e

theorem w1 {i : Int} (h0 : -1000000000000000 ≤ i) (h : i ≤ 1000000000000000) : wrap64 (i + 1) = i + 1 := by
  unfold wrap64; omega
theorem wm {i : Int} (h0 : -1000000000000000 ≤ i) (h : i ≤ 1000000000000000) : wrap64 (i - 1) = i - 1 := by
  unfold wrap64; omega

/-- A right edge between n nodes. -/
structure RightE (n : Int) (e : S98) : Prop where
  a0 : 0 ≤ e.f0
  a1 : e.f0 < n
  b0 : 0 ≤ e.f1
  b1 : e.f1 < n
  c0 : 0 ≤ e.f2
  c1 : e.f2 ≤ 1048576
  d0 : -1048576 ≤ e.f3
  d1 : e.f3 ≤ 1048576

/-- A right graph. -/
structure Right (n : Int) (E : List S98) : Prop where
  n0 : 0 ≤ n
  n1 : n ≤ 1024
  m1 : (E.length : Int) ≤ 4096
  e : ∀ i : Int, 0 ≤ i → i < (E.length : Int) → RightE n (rd_T98 E i)

theorem label_f (e : S98) : graph_label.f e.f0 e.f1 e.f2 e.f3 = some (decide (0 ≤ e.f2 ∧ e.f2 ≤ 1048576 ∧ -1048576 ≤ e.f3 ∧ e.f3 ≤ 1048576)) := by
  unfold graph_label.f
  by_cases h1 : e.f2 ≥ 0
  · rw [if_pos h1]
    by_cases h2 : e.f2 ≤ 1048576
    · rw [if_pos h2]
      by_cases h3 : e.f3 ≥ -1048576
      · rw [if_pos h3]; congr 1
        exact decide_eq_decide.mpr ⟨fun h => ⟨h1, h2, h3, h⟩, fun h => h.2.2.2⟩
      · rw [if_neg h3]; congr 1
        exact (decide_eq_false (by omega)).symm
    · rw [if_neg h2]; congr 1
      exact (decide_eq_false (by omega)).symm
  · rw [if_neg h1]; congr 1
    exact (decide_eq_false (by omega)).symm

/-- The number of what is wrong with an edge. -/
def badE (n : Int) (e : S98) : Int := if e.f0 < 0 ∨ e.f0 ≥ n ∨ e.f1 < 0 ∨ e.f1 ≥ n then 30 else if 0 ≤ e.f2 ∧ e.f2 ≤ 1048576 ∧ -1048576 ≤ e.f3 ∧ e.f3 ≤ 1048576 then 0 else 31

theorem badE_zero {n : Int} {e : S98} (h : badE n e = 0) : RightE n e := by
  unfold badE at h
  by_cases h1 : e.f0 < 0 ∨ e.f0 ≥ n ∨ e.f1 < 0 ∨ e.f1 ≥ n
  · rw [if_pos h1] at h; omega
  · rw [if_neg h1] at h
    by_cases h2 : 0 ≤ e.f2 ∧ e.f2 ≤ 1048576 ∧ -1048576 ≤ e.f3 ∧ e.f3 ≤ 1048576
    · constructor <;> omega
    · rw [if_neg h2] at h; omega
theorem badE_of {n : Int} {e : S98} (h : RightE n e) : badE n e = 0 := by
  obtain ⟨a0, a1, b0, b1, c0, c1, d0, d1⟩ := h
  unfold badE
  rw [if_neg (by omega), if_pos (by omega)]

theorem bad_f (n : Int) (e : S98) : Evl (fun k => compassref03_Bad.f k n e.f0 e.f1 e.f2 e.f3) (badE n e) := by
  have tail : Evl (fun k => compassref03_Bad.j0 k false e.f0 e.f1 e.f2 e.f3) (if 0 ≤ e.f2 ∧ e.f2 ≤ 1048576 ∧ -1048576 ≤ e.f3 ∧ e.f3 ≤ 1048576 then 0 else 31) := by
    refine Evl.here fun k => ?_
    rw [compassref03_Bad.j0, if_neg (by simp)]
    by_cases h1 : e.f2 < 0
    · rw [if_pos h1, if_neg (by omega)]
    · rw [if_neg h1]
      by_cases h2 : e.f2 > 1048576
      · rw [if_pos h2, if_neg (by omega)]
      · rw [if_neg h2]
        by_cases h3 : e.f3 < -1048576
        · rw [if_pos h3, if_neg (by omega)]
        · rw [if_neg h3]
          by_cases h4 : e.f3 > 1048576
          · rw [if_pos h4, if_neg (by omega)]
          · rw [if_neg h4, if_pos (by omega)]
  have yes : Evl (fun k => compassref03_Bad.j0 k true e.f0 e.f1 e.f2 e.f3) 30 := Evl.here fun k => by rw [compassref03_Bad.j0, if_pos rfl]
  unfold badE
  by_cases h1 : e.f0 < 0
  · rw [if_pos (by omega)]; exact yes.congr fun k => by rw [compassref03_Bad.f, if_pos h1]
  · by_cases h2 : e.f1 < 0
    · rw [if_pos (by omega)]; exact yes.congr fun k => by rw [compassref03_Bad.f, if_neg h1, if_pos h2]
    · by_cases h3 : e.f0 ≥ n
      · rw [if_pos (by omega)]; exact yes.congr fun k => by rw [compassref03_Bad.f, if_neg h1, if_neg h2, if_pos h3]
      · by_cases h4 : e.f1 ≥ n
        · rw [if_pos (by omega)]; exact yes.congr fun k => by rw [compassref03_Bad.f, if_neg h1, if_neg h2, if_neg h3, decide_eq_true h4]
        · rw [if_neg (by omega)]; exact tail.congr fun k => by rw [compassref03_Bad.f, if_neg h1, if_neg h2, if_neg h3, decide_eq_false h4]

theorem chk_j2 (n : Int) (E : List S98) (i : Int) (e : S98) (b : Bool) (r : Int × Int)
    (hb : b = decide (e.f0 < 0 ∨ e.f0 ≥ n ∨ e.f1 < 0 ∨ e.f1 ≥ n)) (h0 : badE n e = 0 → Evl (fun k => graph_Check.l0 k E (E.length : Int) (wrap64 (i + 1)) n E) r) (h1 : badE n e ≠ 0 → r = (badE n e, i)) :
    Evl (fun k => graph_Check.j2 k i E (E.length : Int) i b n E e.f0 e.f1 e.f2 e.f3) r := by
  unfold badE at h0 h1
  by_cases c : e.f0 < 0 ∨ e.f0 ≥ n ∨ e.f1 < 0 ∨ e.f1 ≥ n
  · rw [if_pos c] at h1
    rw [decide_eq_true c] at hb
    rw [h1 (by decide), hb]
    exact Evl.here fun k => by rw [graph_Check.j2, if_pos rfl]
  · rw [if_neg c] at h0 h1
    rw [decide_eq_false c] at hb
    subst hb
    by_cases c2 : 0 ≤ e.f2 ∧ e.f2 ≤ 1048576 ∧ -1048576 ≤ e.f3 ∧ e.f3 ≤ 1048576
    · rw [if_pos c2] at h0
      refine (h0 rfl).step fun k => ?_
      rw [graph_Check.j2, if_neg (by simp), label_f, Option.bind_some, if_pos (decide_eq_true c2)]
    · rw [if_neg c2] at h1
      rw [h1 (by decide)]
      refine Evl.here fun k => ?_
      rw [graph_Check.j2, if_neg (by simp), label_f, Option.bind_some, decide_eq_false c2, if_neg (by simp)]

theorem chk_l0 (n : Int) (E : List S98) (hm : (E.length : Int) ≤ 4096) (d : Nat) : ∀ i : Int, 0 ≤ i → i + d = (E.length : Int) → ∃ r : Int × Int,
    Evl (fun k => graph_Check.l0 k E (E.length : Int) i n E) r ∧ Evl (fun k => compassref03_Check.l0 k i n E) r ∧
    (r.1 = 0 → r.2 = 0 ∧ ∀ j : Int, i ≤ j → j < (E.length : Int) → RightE n (rd_T98 E j)) ∧ (r.1 = 0 ∨ r.1 = 30 ∨ r.1 = 31) ∧ ((∀ j : Int, i ≤ j → j < (E.length : Int) → RightE n (rd_T98 E j)) → r.1 = 0) := by
  induction d with
  | zero =>
    intro i h0 hi
    have g : ¬ i < (E.length : Int) := by omega
    refine ⟨(0, 0), Evl.here fun k => ?_, Evl.here fun k => ?_, fun _ => ⟨rfl, fun j h1 h2 => by omega⟩, Or.inl rfl, fun _ => rfl⟩
    · rw [graph_Check.l0, if_neg g]
    · rw [compassref03_Check.l0, if_neg g]
  | succ d ih =>
    intro i h0 hi
    have g : i < (E.length : Int) := by omega
    have w : wrap64 (i + 1) = i + 1 := w1 (by omega) (by omega)
    have two : ∀ r : Int × Int, (badE n (rd_T98 E i) = 0 → Evl (fun k => graph_Check.l0 k E (E.length : Int) (wrap64 (i + 1)) n E) r ∧ Evl (fun k => compassref03_Check.l0 k (wrap64 (i + 1)) n E) r) → (badE n (rd_T98 E i) ≠ 0 → r = (badE n (rd_T98 E i), i)) →
        Evl (fun k => graph_Check.l0 k E (E.length : Int) i n E) r ∧ Evl (fun k => compassref03_Check.l0 k i n E) r := by
      intro r hz hn
      constructor
      · by_cases c1 : (rd_T98 E i).f0 < 0
        · refine (chk_j2 n E i (rd_T98 E i) true r (decide_eq_true (by omega)).symm (fun h => (hz h).1) hn).step fun k => ?_
          rw [graph_Check.l0, if_pos g, if_pos h0, if_pos g, if_pos c1]
        · by_cases c2 : (rd_T98 E i).f0 ≥ n
          · refine (chk_j2 n E i (rd_T98 E i) true r (decide_eq_true (by omega)).symm (fun h => (hz h).1) hn).step fun k => ?_
            rw [graph_Check.l0, if_pos g, if_pos h0, if_pos g, if_neg c1, if_pos c2]
          · by_cases c3 : (rd_T98 E i).f1 < 0
            · refine (chk_j2 n E i (rd_T98 E i) true r (decide_eq_true (by omega)).symm (fun h => (hz h).1) hn).step fun k => ?_
              rw [graph_Check.l0, if_pos g, if_pos h0, if_pos g, if_neg c1, if_neg c2, if_pos c3]
            · refine (chk_j2 n E i (rd_T98 E i) (decide ((rd_T98 E i).f1 ≥ n)) r (decide_eq_decide.mpr (by omega)) (fun h => (hz h).1) hn).step fun k => ?_
              rw [graph_Check.l0, if_pos g, if_pos h0, if_pos g, if_neg c1, if_neg c2, if_neg c3]
      · by_cases z : badE n (rd_T98 E i) = 0
        · have B := bad_f n (rd_T98 E i)
          rw [z] at B
          refine (Evl.bind (h := fun k t => if t = 0 then compassref03_Check.l0 k (wrap64 (i + 1)) n E else some (t, i)) B (r := r) ?_).step fun k => ?_
          · exact (hz z).2.congr fun k => by rw [if_pos rfl]
          · rw [compassref03_Check.l0, if_pos g, if_pos h0]
        · have B := bad_f n (rd_T98 E i)
          rw [hn z]
          refine (Evl.bind (h := fun k t => if t = 0 then compassref03_Check.l0 k (wrap64 (i + 1)) n E else some (t, i)) B (r := (badE n (rd_T98 E i), i)) ?_).step fun k => ?_
          · exact Evl.pure.congr fun k => by rw [if_neg z]
          · rw [compassref03_Check.l0, if_pos g, if_pos h0]
    by_cases z : badE n (rd_T98 E i) = 0
    · obtain ⟨r, e1, e2, hz, ho, hr⟩ := ih (i + 1) (by omega) (by omega)
      obtain ⟨a, b⟩ := two r (fun _ => by rw [w]; exact ⟨e1, e2⟩) (fun h => absurd z h)
      refine ⟨r, a, b, fun h => ⟨(hz h).1, fun j h1 h2 => ?_⟩, ho, fun h => hr fun j h1 h2 => h j (by omega) h2⟩
      by_cases q : j = i
      · rw [q]; exact badE_zero z
      · exact (hz h).2 j (by omega) h2
    · obtain ⟨a, b⟩ := two (badE n (rd_T98 E i), i) (fun h => absurd h z) (fun _ => rfl)
      refine ⟨_, a, b, fun h => absurd h z, ?_, fun h => badE_of (h i (Int.le_refl _) g)⟩
      show badE n (rd_T98 E i) = 0 ∨ badE n (rd_T98 E i) = 30 ∨ badE n (rd_T98 E i) = 31
      unfold badE
      split
      · exact Or.inr (Or.inl rfl)
      · split
        · exact Or.inl rfl
        · exact Or.inr (Or.inr rfl)

/-- Both looks at a graph tell the same fault; none: the graph is right. -/
theorem check_f (n : Int) (E : List S98) : ∃ c a : Int, Evl (fun k => graph_Check.f k n E) (c, a) ∧ Evl (fun k => compassref03_Check.f k n E) (c, a) ∧ (c = 0 → a = 0 ∧ Right n E) ∧ (c = 0 ∨ c = 3 ∨ c = 30 ∨ c = 31) ∧ (Right n E → c = 0) := by
  have yes : Evl (fun k => graph_Check.j0 k true n E) (3, 0) := Evl.here fun k => by rw [graph_Check.j0, if_pos rfl]
  have yes' : Evl (fun k => compassref03_Check.j0 k true n E) (3, 0) := Evl.here fun k => by rw [compassref03_Check.j0, if_pos rfl]
  by_cases h1 : n < 0
  · exact ⟨3, 0, yes.congr fun k => by rw [graph_Check.f, if_pos h1], yes'.congr fun k => by rw [compassref03_Check.f, if_pos h1], by omega, by omega, fun h => absurd h.n0 (by omega)⟩
  · by_cases h2 : n > 1024
    · exact ⟨3, 0, yes.congr fun k => by rw [graph_Check.f, if_neg h1, if_pos h2], yes'.congr fun k => by rw [compassref03_Check.f, if_neg h1, if_pos h2], by omega, by omega, fun h => absurd h.n1 (by omega)⟩
    · by_cases h3 : (E.length : Int) > 4096
      · exact ⟨3, 0, yes.congr fun k => by rw [graph_Check.f, if_neg h1, if_neg h2, decide_eq_true h3], yes'.congr fun k => by rw [compassref03_Check.f, if_neg h1, if_neg h2, decide_eq_true h3], by omega, by omega, fun h => absurd h.m1 (by omega)⟩
      · obtain ⟨⟨c, a⟩, e1, e2, hz, ho, hr⟩ := chk_l0 n E (by omega) E.length 0 (by omega) (by omega)
        refine ⟨c, a, ?_, ?_, fun h => ⟨(hz h).1, by omega, by omega, by omega, fun i a b => (hz h).2 i a b⟩, by simp only at ho; omega, fun h => hr fun j a b => h.e j a b⟩
        · refine (e1.step (g := fun k => graph_Check.j0 k false n E) fun k => ?_).congr fun k => ?_
          · rw [graph_Check.j0, if_neg (by simp)]
          · rw [graph_Check.f, if_neg h1, if_neg h2, decide_eq_false h3]
        · refine (e2.step (g := fun k => compassref03_Check.j0 k false n E) fun k => ?_).congr fun k => ?_
          · rw [compassref03_Check.j0, if_neg (by simp)]
          · rw [compassref03_Check.f, if_neg h1, if_neg h2, decide_eq_false h3]

end Go.Proofs.Ytkdoihcjhccliaa.G
namespace Go.Proofs.Ytkdoihcjhccliaa.G
open Go.RowKit Go.Proofs.Ytkdoihcjhccliaa.Q Go.Proofs.YtkdoihcjhccliaaW.PrintWords Go.Proofs.YtkdoihcjhccliaaW.PrintLast
set_option linter.unusedVariables false

/-- What goes out of a node, less what comes in, on the first edges. -/
def net (E : List S98) (A : List Int) (v : Int) : Nat → Int
  | 0 => 0
  | i + 1 => net E A v i + (if (rd_T98 E i).f0 = v then rd A i else 0) - (if (rd_T98 E i).f1 = v then rd A i else 0)
/-- The capacity of the first edges that leave a side. -/
def cut (E : List S98) (B : List Bool) : Nat → Int
  | 0 => 0
  | i + 1 => cut E B i + (if rdOf false B (rd_T98 E i).f0 = true ∧ rdOf false B (rd_T98 E i).f1 = false then (rd_T98 E i).f2 else 0)
/-- Amounts that fit on the edges. -/
def Amts (E : List S98) (A : List Int) : Prop := ∀ i : Int, 0 ≤ i → i < (E.length : Int) → 0 ≤ rd A i ∧ rd A i ≤ (rd_T98 E i).f2
/-- Amounts that are labels. -/
def Labs (m : Nat) (A : List Int) : Prop := ∀ i : Int, 0 ≤ i → i < (m : Int) → 0 ≤ rd A i ∧ rd A i ≤ 1048576

theorem Amts.labs {n : Int} {E : List S98} {A : List Int} (R : Right n E) (h : Amts E A) : Labs E.length A := fun i h0 h1 => ⟨(h i h0 h1).1, Int.le_trans (h i h0 h1).2 (R.e i h0 h1).c1⟩

theorem net_le {E : List S98} {A : List Int} {v : Int} {m : Nat} (h : Labs m A) : ∀ i : Nat, i ≤ m → -(i * 1048576 : Int) ≤ net E A v i ∧ net E A v i ≤ (i * 1048576 : Int) := by
  intro i
  induction i with
  | zero => intro _; simp [net]
  | succ i ih =>
    intro hi
    have a := ih (by omega)
    have b := h (i : Int) (by omega) (by omega)
    simp only [net]
    push_cast
    split <;> split <;> omega
theorem cut_le {n : Int} {E : List S98} (R : Right n E) (B : List Bool) : ∀ i : Nat, i ≤ E.length → 0 ≤ cut E B i ∧ cut E B i ≤ (i * 1048576 : Int) := by
  intro i
  induction i with
  | zero => intro _; simp [cut]
  | succ i ih =>
    intro hi
    have a := ih (by omega)
    have b := R.e (i : Int) (by omega) (by omega)
    have c0 := b.c0
    have c1 := b.c1
    simp only [cut]
    push_cast
    split <;> omega
theorem wr {x : Int} (h0 : -9000000000000000000 ≤ x) (h : x ≤ 9000000000000000000) : wrap64 x = x := by unfold wrap64; omega

/-- out, in the document: some number; for labels what goes out. -/
theorem out_l0 (n : Int) (E : List S98) (A : List Int) (v : Int) (hm : (E.length : Int) ≤ 4096) (hA : A.length = E.length) (d : Nat) : ∀ (i : Nat) (x : Int), i + d = E.length →
    ∃ r : Int, Evl (fun k => compassref11_Out.l0 k A v x i n E) r ∧ (Labs E.length A → x = net E A v i → r = net E A v E.length) := by
  induction d with
  | zero =>
    intro i x hi
    refine ⟨x, Evl.here fun k => by rw [compassref11_Out.l0, if_neg (by omega)], fun _ h => by rw [h]; congr 1⟩
  | succ d ih =>
    intro i x hi
    have g : (i : Int) < (A.length : Int) := by omega
    have g2 : (i : Int) < (E.length : Int) := by omega
    have w : wrap64 ((i : Int) + 1) = ((i + 1 : Nat) : Int) := by rw [w1 (by omega) (by omega)]; rfl
    have key : ∀ y : Int, (Labs E.length A → x = net E A v i → y = net E A v (i + 1)) → (∀ k, compassref11_Out.l0 (k + 1) A v x i n E = compassref11_Out.l0 k A v y (wrap64 ((i : Int) + 1)) n E) →
        ∃ r : Int, Evl (fun k => compassref11_Out.l0 k A v x i n E) r ∧ (Labs E.length A → x = net E A v i → r = net E A v E.length) := by
      intro y hy he
      obtain ⟨r, h1, h2⟩ := ih (i + 1) y (by omega)
      refine ⟨r, h1.step fun k => ?_, fun hl hx => h2 hl (hy hl hx)⟩
      rw [← w]; exact he k
    by_cases c0 : (rd_T98 E i).f0 = v
    · by_cases c1 : (rd_T98 E i).f1 = v
      · refine key (wrap64 (wrap64 (x + rd A i) - rd A i)) (fun hl hx => ?_) fun k => by rw [compassref11_Out.l0, if_pos g, if_pos (by omega), if_pos g2, if_pos c0, if_pos c1]
        have a := net_le (E := E) (v := v) hl i (by omega)
        have b := hl i (by omega) g2
        rw [hx, wr (x := net E A v i + rd A i) (by omega) (by omega), wr (by omega) (by omega)]
        simp only [net]; rw [if_pos c0, if_pos c1]
      · refine key (wrap64 (x + rd A i)) (fun hl hx => ?_) fun k => by rw [compassref11_Out.l0, if_pos g, if_pos (by omega), if_pos g2, if_pos c0, if_neg c1]
        have a := net_le (E := E) (v := v) hl i (by omega)
        have b := hl i (by omega) g2
        rw [hx, wr (by omega) (by omega)]
        simp only [net]; rw [if_pos c0, if_neg c1]; omega
    · by_cases c1 : (rd_T98 E i).f1 = v
      · refine key (wrap64 (x - rd A i)) (fun hl hx => ?_) fun k => by rw [compassref11_Out.l0, if_pos g, if_pos (by omega), if_pos g2, if_neg c0, if_pos c1]
        have a := net_le (E := E) (v := v) hl i (by omega)
        have b := hl i (by omega) g2
        rw [hx, wr (by omega) (by omega)]
        simp only [net]; rw [if_neg c0, if_pos c1]; omega
      · refine key x (fun hl hx => ?_) fun k => by rw [compassref11_Out.l0, if_pos g, if_pos (by omega), if_pos g2, if_neg c0, if_neg c1]
        rw [hx]; simp only [net]; rw [if_neg c0, if_neg c1]; omega
theorem out_f (n : Int) (E : List S98) (A : List Int) (v : Int) (hm : (E.length : Int) ≤ 4096) (hA : A.length = E.length) : ∃ r : Int, Evl (fun k => compassref11_Out.f k n E A v) r ∧ (Labs E.length A → r = net E A v E.length) := by
  obtain ⟨r, h1, h2⟩ := out_l0 n E A v hm hA E.length 0 0 (by omega)
  exact ⟨r, h1.congr fun k => rfl, fun hl => h2 hl rfl⟩

theorem cut_l0 {n : Int} {E : List S98} (R : Right n E) {B : List Bool} (hB : (B.length : Int) = n) (d : Nat) : ∀ (i : Nat), i + d = E.length →
    Evl (fun k => compassref11_Cut.l0 k B (cut E B i) i n E) (cut E B E.length) ∧ Evl (fun k => proof_across.l0 k B (cut E B i) E E.length i) (0, cut E B E.length) := by
  have hm := R.m1
  induction d with
  | zero =>
    intro i hi
    have e : i = E.length := by omega
    refine ⟨Evl.here fun k => by rw [compassref11_Cut.l0, if_neg (by omega), e], Evl.here fun k => by rw [proof_across.l0, if_neg (by omega), e]⟩
  | succ d ih =>
    intro i hi
    have g2 : (i : Int) < (E.length : Int) := by omega
    have w : wrap64 ((i : Int) + 1) = ((i + 1 : Nat) : Int) := by rw [w1 (by omega) (by omega)]; rfl
    have e := R.e i (by omega) g2
    have f0 := e.a0
    have f1 : (rd_T98 E i).f0 < (B.length : Int) := by rw [hB]; exact e.a1
    have t0 := e.b0
    have t1 : (rd_T98 E i).f1 < (B.length : Int) := by rw [hB]; exact e.b1
    have c0 := e.c0
    have c1 := e.c1
    have b := cut_le R B i (by omega)
    obtain ⟨ih1, ih2⟩ := ih (i + 1) (by omega)
    simp only [cut] at ih1 ih2
    by_cases a0 : rdOf false B (rd_T98 E i).f0 = true
    · by_cases a1 : rdOf false B (rd_T98 E i).f1 = true
      · rw [if_neg (by rw [a1]; simp), Int.add_zero] at ih1 ih2
        exact ⟨ih1.step fun k => by rw [compassref11_Cut.l0, if_pos g2, if_pos (by omega), if_pos f0, if_pos f1, if_pos a0, if_pos t0, if_pos t1, if_pos a1, w],
          ih2.step fun k => by rw [proof_across.l0, if_pos g2, if_pos (by omega), if_pos g2, if_pos f0, if_pos f1, if_pos a0, if_pos t0, if_pos t1, if_pos a1, w]⟩
      · have z : wrap64 (cut E B i + (rd_T98 E i).f2) = cut E B i + (rd_T98 E i).f2 := wr (by omega) (by omega)
        rw [if_pos ⟨a0, by simpa using a1⟩] at ih1 ih2
        exact ⟨ih1.step fun k => by rw [compassref11_Cut.l0, if_pos g2, if_pos (by omega), if_pos f0, if_pos f1, if_pos a0, if_pos t0, if_pos t1, if_neg a1, w, z],
          ih2.step fun k => by rw [proof_across.l0, if_pos g2, if_pos (by omega), if_pos g2, if_pos f0, if_pos f1, if_pos a0, if_pos t0, if_pos t1, if_neg a1, w, z]⟩
    · rw [if_neg (fun h => a0 h.1), Int.add_zero] at ih1 ih2
      exact ⟨ih1.step fun k => by rw [compassref11_Cut.l0, if_pos g2, if_pos (by omega), if_pos f0, if_pos f1, if_neg a0, w],
        ih2.step fun k => by rw [proof_across.l0, if_pos g2, if_pos (by omega), if_pos g2, if_pos f0, if_pos f1, if_neg a0, w]⟩
theorem cut_f {n : Int} {E : List S98} (R : Right n E) {B : List Bool} (hB : (B.length : Int) = n) : Evl (fun k => compassref11_Cut.f k n E B) (cut E B E.length) :=
  (cut_l0 R hB E.length 0 (by omega)).1.congr fun k => rfl
theorem across_f {n : Int} {E : List S98} (R : Right n E) {B : List Bool} (hB : (B.length : Int) = n) : Evl (fun k => proof_across.f k n E B) (0, cut E B E.length) :=
  (cut_l0 R hB E.length 0 (by omega)).2.congr fun k => by rw [proof_across.f, if_pos hB]; rfl
theorem across_no {n : Int} {E : List S98} {B : List Bool} (hB : (B.length : Int) ≠ n) : Evl (fun k => proof_across.f k n E B) (221, 0) :=
  Evl.pure.congr fun k => by rw [proof_across.f, if_neg hB]

/-- carried: where the amounts fit, what goes out of each node. -/
theorem carried_l0 {n : Int} {E : List S98} (R : Right n E) {A : List Int} (hA : A.length = E.length) (d : Nat) : ∀ (i : Nat) (O : List Int), i + d = E.length → (O.length : Int) = n →
    (∀ j : Int, 0 ≤ j → j < (i : Int) → 0 ≤ rd A j ∧ rd A j ≤ (rd_T98 E j).f2) → (∀ v : Int, 0 ≤ v → v < n → rd O v = net E A v i) →
    ∃ r : Int × List Int, Evl (fun k => proof_carried.l0 k A O E E.length i) r ∧ (Amts E A → r.1 = 0 ∧ (r.2.length : Int) = n ∧ ∀ v : Int, 0 ≤ v → v < n → rd r.2 v = net E A v E.length) ∧ (¬ Amts E A → r = (221, [])) := by
  have hm := R.m1
  induction d with
  | zero =>
    intro i O hi hO hP hN
    have e : i = E.length := by omega
    refine ⟨(0, O), Evl.here fun k => by rw [proof_carried.l0, if_neg (by omega)], fun _ => ⟨rfl, hO, fun v a b => by rw [hN v a b, e]⟩, fun h => absurd (fun j a b => hP j a (by omega)) h⟩
  | succ d ih =>
    intro i O hi hO hP hN
    have g2 : (i : Int) < (E.length : Int) := by omega
    have g : (i : Int) < (A.length : Int) := by omega
    have w : wrap64 ((i : Int) + 1) = ((i + 1 : Nat) : Int) := by rw [w1 (by omega) (by omega)]; rfl
    have e := R.e i (by omega) g2
    have f0 := e.a0
    have f1 : (rd_T98 E i).f0 < (O.length : Int) := by rw [hO]; exact e.a1
    have t0 := e.b0
    have t1' := e.b1
    by_cases a0 : rd A i ≥ 0
    · by_cases a1 : rd A i ≤ (rd_T98 E i).f2
      · have t1 : (rd_T98 E i).f1 < ((O.set (rd_T98 E i).f0.toNat (wrap64 (rd O (rd_T98 E i).f0 + rd A i))).length : Int) := by rw [List.length_set, hO]; exact t1'
        have t1o : (rd_T98 E i).f1 < (O.length : Int) := by rw [hO]; exact t1'
        have hl : ∀ j : Int, 0 ≤ j → j < ((i + 1 : Nat) : Int) → 0 ≤ rd A j ∧ rd A j ≤ (rd_T98 E j).f2 := fun j h0 h1 => by
          by_cases q : j = i
          · rw [q]; exact ⟨a0, a1⟩
          · exact hP j h0 (by omega)
        have hlab : Labs i A := fun j h0 h1 => ⟨(hP j h0 h1).1, Int.le_trans (hP j h0 h1).2 (R.e j h0 (by omega)).c1⟩
        have c1 := e.c1
        have hstep : ∀ v : Int, 0 ≤ v → v < n → rd (((O.set (rd_T98 E i).f0.toNat (wrap64 (rd O (rd_T98 E i).f0 + rd A i)))).set (rd_T98 E i).f1.toNat (wrap64 (rd (O.set (rd_T98 E i).f0.toNat (wrap64 (rd O (rd_T98 E i).f0 + rd A i))) (rd_T98 E i).f1 - rd A i))) v = net E A v (i + 1) := by
          intro v v0 v1
          rw [rd_set _ _ _ _ t0 t1 v0, rd_set _ _ _ _ f0 f1 v0, rd_set _ _ _ _ f0 f1 t0]
          have b0 := net_le (E := E) (v := v) hlab i (Nat.le_refl _)
          have bf := net_le (E := E) (v := (rd_T98 E i).f0) hlab i (Nat.le_refl _)
          have bt := net_le (E := E) (v := (rd_T98 E i).f1) hlab i (Nat.le_refl _)
          have of := hN (rd_T98 E i).f0 f0 (by omega)
          have ot := hN (rd_T98 E i).f1 t0 t1'
          have ov := hN v v0 v1
          simp only [net]
          by_cases q1 : v = (rd_T98 E i).f1
          · rw [if_pos q1, if_pos q1.symm]
            by_cases q0 : (rd_T98 E i).f1 = (rd_T98 E i).f0
            · rw [if_pos q0, if_pos (by omega), of, wr (x := net E A (rd_T98 E i).f0 i + rd A i) (by omega) (by omega), wr (by omega) (by omega), q1, q0]
            · rw [if_neg q0, if_neg (by omega), ot, wr (by omega) (by omega), q1]; omega
          · rw [if_neg q1, if_neg (show ¬ (rd_T98 E i).f1 = v from fun h => q1 h.symm)]
            by_cases q0 : v = (rd_T98 E i).f0
            · rw [if_pos q0, if_pos q0.symm, of, wr (by omega) (by omega), q0]; omega
            · rw [if_neg q0, if_neg (show ¬ (rd_T98 E i).f0 = v from fun h => q0 h.symm), ov]; omega
        obtain ⟨r, h1, h2⟩ := ih (i + 1) _ (by omega) (by rw [List.length_set, List.length_set]; exact hO) hl hstep
        refine ⟨r, h1.step fun k => ?_, h2⟩
        rw [proof_carried.l0, if_pos g2, if_pos (by omega), if_pos g2, if_pos g, if_pos a0, if_pos a1, if_pos f0, if_pos f1, Option.bind_some, if_pos t0, if_pos t1o, w]
      · refine ⟨(221, []), Evl.here fun k => by rw [proof_carried.l0, if_pos g2, if_pos (by omega), if_pos g2, if_pos g, if_pos a0, if_neg a1], fun h => absurd (h i (by omega) g2).2 a1, fun _ => rfl⟩
    · refine ⟨(221, []), Evl.here fun k => by rw [proof_carried.l0, if_pos g2, if_pos (by omega), if_pos g2, if_pos g, if_neg a0], fun h => absurd (h i (by omega) g2).1 a0, fun _ => rfl⟩
theorem carried_f {n : Int} {E : List S98} (R : Right n E) {A : List Int} : ∃ r : Int × List Int, Evl (fun k => proof_carried.f k n E A) r ∧
    (A.length = E.length ∧ Amts E A → r.1 = 0 ∧ (r.2.length : Int) = n ∧ ∀ v : Int, 0 ≤ v → v < n → rd r.2 v = net E A v E.length) ∧ (¬ (A.length = E.length ∧ Amts E A) → r = (221, [])) := by
  have n0 := R.n0
  have n1 := R.n1
  by_cases h : A.length = E.length
  · obtain ⟨r, h1, h2, h3⟩ := carried_l0 R h E.length 0 (List.replicate n.toNat 0) (by omega) (by rw [List.length_replicate]; omega) (fun j a b => by omega) (fun v a b => by rw [rd_replicate _ _ _ a (by omega)]; rfl)
    refine ⟨r, h1.congr fun k => ?_, fun q => h2 q.2, fun q => h3 fun z => q ⟨h, z⟩⟩
    rw [proof_carried.f, if_pos (by omega), if_pos n0, if_pos (by omega)]; rfl
  · exact ⟨(221, []), Evl.pure.congr fun k => by rw [proof_carried.f, if_neg (by omega)], fun q => absurd q.1 h, fun _ => rfl⟩

/-- Fits, in the document. -/
theorem fits_l1 {n : Int} {E : List S98} (R : Right n E) {A S : List Int} (hA : A.length = E.length) (hL : Labs E.length A) (hS : (S.length : Int) = n) (d : Nat) : ∀ (i : Nat), ((i + d : Nat) : Int) = n →
    ∃ b : Bool, Evl (fun k => compassref11_Fits.l1 k A S i n E) b ∧ (b = true ↔ ∀ v : Int, (i : Int) ≤ v → v < n → net E A v E.length = rd S v) := by
  have n1 := R.n1
  induction d with
  | zero => intro i hi; exact ⟨true, Evl.here fun k => by rw [compassref11_Fits.l1, if_neg (by omega)], fun _ v a b => by omega, fun _ => rfl⟩
  | succ d ih =>
    intro i hi
    have g : (i : Int) < n := by omega
    have w : wrap64 ((i : Int) + 1) = ((i + 1 : Nat) : Int) := by rw [w1 (by omega) (by omega)]; rfl
    obtain ⟨r, h1, h2⟩ := out_f n E A i R.m1 hA
    have hr := h2 hL
    subst hr
    by_cases c : net E A i E.length = rd S i
    · obtain ⟨b, e1, e2⟩ := ih (i + 1) (by omega)
      refine ⟨b, (Evl.bind (h := fun k t => if 0 ≤ (i : Int) then (if (i : Int) < (S.length : Int) then (if t = rd S i then compassref11_Fits.l1 k A S (wrap64 ((i : Int) + 1)) n E else some false) else none) else none) h1 (e1.congr fun k => by rw [if_pos (by omega), if_pos (by omega), if_pos c, w])).step fun k => by rw [compassref11_Fits.l1, if_pos g], e2.trans ⟨fun h v a b => ?_, fun h v a b => h v (by omega) b⟩⟩
      by_cases q : v = i
      · rw [q]; exact c
      · exact h v (by omega) b
    · refine ⟨false, (Evl.bind (h := fun k t => if 0 ≤ (i : Int) then (if (i : Int) < (S.length : Int) then (if t = rd S i then compassref11_Fits.l1 k A S (wrap64 ((i : Int) + 1)) n E else some false) else none) else none) h1 (Evl.pure.congr fun k => by rw [if_pos (by omega), if_pos (by omega), if_neg c])).step fun k => by rw [compassref11_Fits.l1, if_pos g], fun h => (by cases h), fun h => absurd (h i (by omega) g) c⟩
theorem fits_l0 {n : Int} {E : List S98} (R : Right n E) {A S : List Int} (hA : A.length = E.length) (hS : (S.length : Int) = n) (d : Nat) : ∀ (i : Nat), i + d = E.length →
    (∀ j : Int, 0 ≤ j → j < (i : Int) → 0 ≤ rd A j ∧ rd A j ≤ (rd_T98 E j).f2) →
    ∃ b : Bool, Evl (fun k => compassref11_Fits.l0 k A S i n E) b ∧ (b = true ↔ Amts E A ∧ ∀ v : Int, 0 ≤ v → v < n → net E A v E.length = rd S v) := by
  have hm := R.m1
  have n0 := R.n0
  induction d with
  | zero =>
    intro i hi hP
    have am : Amts E A := fun j a b => hP j a (by omega)
    obtain ⟨b, e1, e2⟩ := fits_l1 R hA (am.labs R) hS n.toNat 0 (by omega)
    refine ⟨b, e1.step fun k => by rw [compassref11_Fits.l0, if_neg (by omega)]; rfl, e2.trans ⟨fun h => ⟨am, fun v a b => h v (by omega) b⟩, fun h v a b => h.2 v (by omega) b⟩⟩
  | succ d ih =>
    intro i hi hP
    have g2 : (i : Int) < (E.length : Int) := by omega
    have g : (i : Int) < (A.length : Int) := by omega
    have w : wrap64 ((i : Int) + 1) = ((i + 1 : Nat) : Int) := by rw [w1 (by omega) (by omega)]; rfl
    by_cases a0 : rd A i < 0
    · exact ⟨false, Evl.here fun k => by rw [compassref11_Fits.l0, if_pos g, if_pos (by omega), if_pos a0], fun h => (by cases h), fun h => absurd (h.1 i (by omega) g2).1 (by omega)⟩
    · by_cases a1 : rd A i > (rd_T98 E i).f2
      · exact ⟨false, Evl.here fun k => by rw [compassref11_Fits.l0, if_pos g, if_pos (by omega), if_neg a0, if_pos g2, if_pos a1], fun h => (by cases h), fun h => absurd (h.1 i (by omega) g2).2 (by omega)⟩
      · obtain ⟨b, e1, e2⟩ := ih (i + 1) (by omega) (fun j h0 h1 => by
          by_cases q : j = i
          · rw [q]; exact ⟨by omega, by omega⟩
          · exact hP j h0 (by omega))
        exact ⟨b, e1.step fun k => by rw [compassref11_Fits.l0, if_pos g, if_pos (by omega), if_neg a0, if_pos g2, if_neg a1, w], e2⟩
theorem fits_f {n : Int} {E : List S98} (R : Right n E) {A S : List Int} (hS : (S.length : Int) = n) :
    ∃ b : Bool, Evl (fun k => compassref11_Fits.f k n E A S) b ∧ (b = true ↔ (A.length = E.length ∧ Amts E A) ∧ ∀ v : Int, 0 ≤ v → v < n → net E A v E.length = rd S v) := by
  by_cases h : A.length = E.length
  · obtain ⟨b, e1, e2⟩ := fits_l0 R h hS E.length 0 (by omega) (fun j a b => by omega)
    exact ⟨b, e1.congr fun k => by rw [compassref11_Fits.f, if_pos (by omega)]; rfl, e2.trans ⟨fun z => ⟨⟨h, z.1⟩, z.2⟩, fun z => ⟨z.1.2, z.2⟩⟩⟩
  · exact ⟨false, Evl.pure.congr fun k => by rw [compassref11_Fits.f, if_neg (by omega)], fun z => (by cases z), fun z => absurd z.1.1 h⟩

/-- Over all nodes what goes out comes in. -/
def tot (E : List S98) (A : List Int) (i : Nat) : Nat → Int
  | 0 => 0
  | v + 1 => tot E A i v + net E A v i
theorem tot_zero (E : List S98) (A : List Int) (v : Nat) : tot E A 0 v = 0 := by
  induction v with
  | zero => rfl
  | succ v ih => simp only [tot, net, ih]; rfl
theorem tot_step (E : List S98) (A : List Int) (i : Nat) (f0 : 0 ≤ (rd_T98 E i).f0) (t0 : 0 ≤ (rd_T98 E i).f1) (v : Nat) : tot E A (i + 1) v = tot E A i v + (if (rd_T98 E i).f0 < v then rd A i else 0) - (if (rd_T98 E i).f1 < v then rd A i else 0) := by
  induction v with
  | zero => simp only [tot]; rw [if_neg (by omega), if_neg (by omega)]; omega
  | succ v ih =>
    simp only [tot, net, ih]
    push_cast
    generalize rd A i = x
    generalize (rd_T98 E i).f0 = p
    generalize (rd_T98 E i).f1 = q
    generalize net E A v i = z
    generalize tot E A i v = y
    (repeat' split) <;> omega
theorem tot_none {n : Int} {E : List S98} (R : Right n E) (A : List Int) : ∀ i : Nat, i ≤ E.length → tot E A i n.toNat = 0 := by
  have n0 := R.n0
  intro i
  induction i with
  | zero => intro _; exact tot_zero E A _
  | succ i ih =>
    intro hi
    have e := R.e i (by omega) (by omega)
    rw [tot_step E A i e.a0 e.b0, ih (by omega), if_pos (by have := e.a1; omega), if_pos (by have := e.b1; omega)]; omega
theorem tot_two (E : List S98) (A : List Int) (i : Nat) (s t : Int) (hst : s ≠ t) (s0 : 0 ≤ s) (t0 : 0 ≤ t) (v : Nat) (hv : ∀ u : Int, 0 ≤ u → u < v → u ≠ s → u ≠ t → net E A u i = 0) : tot E A i v = (if s < v then net E A s i else 0) + (if t < v then net E A t i else 0) := by
  induction v with
  | zero => simp only [tot]; rw [if_neg (by omega), if_neg (by omega)]; rfl
  | succ v ih =>
    rw [tot, ih fun u a b => hv u a (by omega)]
    push_cast
    have hz : (v : Int) ≠ s → (v : Int) ≠ t → net E A v i = 0 := fun a b => hv v (by omega) (by omega) a b
    by_cases a : (v : Int) = s
    · subst a
      generalize net E A v i = z
      generalize net E A t i = y
      (repeat' split) <;> omega
    · by_cases b : (v : Int) = t
      · subst b
        generalize net E A v i = z
        generalize net E A s i = y
        (repeat' split) <;> omega
      · rw [hz a b]
        generalize net E A s i = y
        generalize net E A t i = z
        (repeat' split) <;> omega
end Go.Proofs.Ytkdoihcjhccliaa.G
namespace Go.Proofs.Ytkdoihcjhccliaa.G
open Go.RowKit Go.Proofs.Ytkdoihcjhccliaa.Q Go.Proofs.YtkdoihcjhccliaaW.PrintWords Go.Proofs.YtkdoihcjhccliaaW.PrintLast
set_option linter.unusedVariables false

theorem right_f {n : Int} {E : List S98} {c a : Int} (h : Evl (fun k => graph_Check.f k n E) (c, a)) : Evl (fun k => proof_right.f k n E) c := by
  by_cases hc : c = 0
  · subst hc
    exact (Evl.bind (h := fun k t => if t.1 = 0 then some 0 else some t.1) h (Evl.pure.congr fun k => by rw [if_pos rfl])).congr fun k => rfl
  · exact (Evl.bind (h := fun k t => if t.1 = 0 then some 0 else some t.1) h (Evl.pure.congr fun k => by rw [if_neg hc])).congr fun k => rfl
theorem wrong_f {n : Int} {E : List S98} {c a : Int} (h : Evl (fun k => compassref03_Check.f k n E) (c, a)) (v : Int) : Evl (fun k => compassref04_Wrong.f k n E v) (if c = 0 then (if v < 0 ∨ v ≥ n then 30 else 0) else c) := by
  refine (Evl.bind (h := fun k t => if t.1 = 0 then (if v < 0 then some 30 else (if v ≥ n then some 30 else some t.1)) else some t.1) h ?_).congr fun k => rfl
  by_cases hc : c = 0
  · subst hc
    rw [if_pos rfl]
    by_cases h1 : v < 0
    · rw [if_pos (Or.inl h1)]; exact Evl.pure.congr fun k => by rw [if_pos rfl, if_pos h1]
    · by_cases h2 : v ≥ n
      · rw [if_pos (Or.inr h2)]; exact Evl.pure.congr fun k => by rw [if_pos rfl, if_neg h1, if_pos h2]
      · have z : (if v < 0 ∨ v ≥ n then (30 : Int) else 0) = 0 := if_neg (by omega)
        rw [z]; exact Evl.pure.congr fun k => by rw [if_pos rfl, if_neg h1, if_neg h2]
  · rw [if_neg hc]; exact Evl.pure.congr fun k => by rw [if_neg hc]
/-- The number of what is wrong with a source and a sink in a right graph. -/
def endsE (n s t : Int) : Int := if s < 0 ∨ s ≥ n ∨ t < 0 ∨ t ≥ n then 30 else if s = t then 120 else 0
theorem ends_f {n : Int} {E : List S98} {c a : Int} (h : Evl (fun k => compassref03_Check.f k n E) (c, a)) (s t : Int) : Evl (fun k => compassref11_Ends.f k n E s t) (if c = 0 then endsE n s t else c) := by
  have hs := wrong_f h s
  have ht := wrong_f h t
  refine (Evl.bind (h := fun k u => if u = 0 then ((compassref04_Wrong.f k n E t).bind fun u' => if u' = 0 then (if s = t then some 120 else some u') else some u') else some u) hs ?_).congr fun k => rfl
  by_cases hc : c = 0
  · subst hc
    rw [if_pos rfl] at hs ht ⊢
    rw [if_pos rfl]
    by_cases h1 : s < 0 ∨ s ≥ n
    · rw [if_pos h1]
      have : endsE n s t = 30 := by unfold endsE; rw [if_pos (by omega)]
      rw [this]; exact Evl.pure.congr fun k => by rw [if_neg (by decide)]
    · rw [if_neg h1]
      refine (Evl.bind (h := fun k u' => if u' = 0 then (if s = t then some 120 else some u') else some u') ht ?_).congr fun k => by rw [if_pos rfl]
      by_cases h2 : t < 0 ∨ t ≥ n
      · rw [if_pos h2]
        have : endsE n s t = 30 := by unfold endsE; rw [if_pos (by omega)]
        rw [this]; exact Evl.pure.congr fun k => by rw [if_neg (by decide)]
      · rw [if_neg h2]
        by_cases h3 : s = t
        · have : endsE n s t = 120 := by unfold endsE; rw [if_neg (by omega), if_pos h3]
          rw [this]; exact Evl.pure.congr fun k => by rw [if_pos rfl, if_pos h3]
        · have : endsE n s t = 0 := by unfold endsE; rw [if_neg (by omega), if_neg h3]
          rw [this]; exact Evl.pure.congr fun k => by rw [if_pos rfl, if_neg h3]
  · rw [if_neg hc, if_neg hc]; exact Evl.pure.congr fun k => by rw [if_neg hc]

/-- A flow that fits and fills its cut. -/
structure Full (n : Int) (E : List S98) (s t : Int) (A : List Int) (B : List Bool) : Prop where
  side : (B.length : Int) = n
  src : rdOf false B s = true
  snk : rdOf false B t = false
  len : A.length = E.length
  fit : Amts E A
  out : net E A s E.length = cut E B E.length
  kept : ∀ v : Int, 0 ≤ v → v < n → v ≠ s → v ≠ t → net E A v E.length = 0

theorem net_snk {n : Int} {E : List S98} (R : Right n E) {A : List Int} {s t : Int} (hst : s ≠ t) (s0 : 0 ≤ s) (s1 : s < n) (t0 : 0 ≤ t) (t1 : t < n) (h : ∀ v : Int, 0 ≤ v → v < n → v ≠ s → v ≠ t → net E A v E.length = 0) : net E A t E.length = -net E A s E.length := by
  have a := tot_none R A E.length (Nat.le_refl _)
  have b := tot_two E A E.length s t hst s0 t0 n.toNat (fun u u0 u1 a b => h u u0 (by omega) a b)
  rw [a, if_pos (by omega), if_pos (by omega)] at b
  omega

theorem flows_f {n : Int} {E : List S98} (R : Right n E) {A : List Int} {s t x : Int} (hst : s ≠ t) (s0 : 0 ≤ s) (s1 : s < n) (t0 : 0 ≤ t) (t1 : t < n) (hx : -9000000000000000000 ≤ x ∧ x ≤ 9000000000000000000) :
    ∃ b : Bool, Evl (fun k => compassref11_Flows.f k n E s t A x) b ∧ (b = true ↔ (A.length = E.length ∧ Amts E A) ∧ net E A s E.length = x ∧ ∀ v : Int, 0 ≤ v → v < n → v ≠ s → v ≠ t → net E A v E.length = 0) := by
  have n0 := R.n0
  have n1 := R.n1
  have hl : ((List.replicate n.toNat (0 : Int)).length : Int) = n := by rw [List.length_replicate]; omega
  obtain ⟨b, e1, e2⟩ := fits_f R (A := A) (S := ((List.replicate n.toNat (0 : Int)).set s.toNat x).set t.toNat (wrap64 (-x))) (by rw [List.length_set, List.length_set]; exact hl)
  have rv : ∀ v : Int, 0 ≤ v → v < n → rd (((List.replicate n.toNat (0 : Int)).set s.toNat x).set t.toNat (wrap64 (-x))) v = if v = t then -x else if v = s then x else 0 := by
    intro v v0 v1
    rw [rd_set _ _ _ _ t0 (by rw [List.length_set, hl]; exact t1) v0, rd_set _ _ _ _ s0 (by rw [hl]; exact s1) v0, rd_replicate _ _ _ v0 (by omega), wr (x := -x) (by omega) (by omega)]
  refine ⟨b, (Evl.bind (h := fun k t => some t) e1 Evl.pure).congr fun k => ?_, e2.trans ⟨fun h => ⟨h.1, ?_, ?_⟩, fun h => ⟨h.1, fun v v0 v1 => ?_⟩⟩⟩
  · rw [compassref11_Flows.f, if_pos n0, if_pos (by omega), Option.bind_some, if_pos s0, if_pos (by rw [hl]; exact s1), if_pos t0, if_pos (by rw [hl]; exact t1)]
  · rw [h.2 s s0 s1, rv s s0 s1, if_neg hst, if_pos rfl]
  · intro v v0 v1 a b; rw [h.2 v v0 v1, rv v v0 v1, if_neg b, if_neg a]
  · rw [rv v v0 v1]
    by_cases a : v = t
    · rw [if_pos a, a, net_snk R hst s0 s1 t0 t1 h.2.2, h.2.1]
    · by_cases b : v = s
      · rw [if_neg a, if_pos b, b, h.2.1]
      · rw [if_neg a, if_neg b, h.2.2 v v0 v1 b a]

/-- Whatever the amounts and the value: an answer; amounts that are taken fit. -/
theorem flows_any {n : Int} {E : List S98} (R : Right n E) {A : List Int} {s t : Int} (x : Int) (s0 : 0 ≤ s) (s1 : s < n) (t0 : 0 ≤ t) (t1 : t < n) :
    ∃ b : Bool, Evl (fun k => compassref11_Flows.f k n E s t A x) b ∧ (b = true → A.length = E.length ∧ Amts E A) := by
  have n0 := R.n0
  have n1 := R.n1
  have hl : ((List.replicate n.toNat (0 : Int)).length : Int) = n := by rw [List.length_replicate]; omega
  obtain ⟨b, e1, e2⟩ := fits_f R (A := A) (S := ((List.replicate n.toNat (0 : Int)).set s.toNat x).set t.toNat (wrap64 (-x))) (by rw [List.length_set, List.length_set]; exact hl)
  refine ⟨b, (Evl.bind (h := fun k t => some t) e1 Evl.pure).congr fun k => ?_, fun h => (e2.1 h).1⟩
  rw [compassref11_Flows.f, if_pos n0, if_pos (by omega), Option.bind_some, if_pos s0, if_pos (by rw [hl]; exact s1), if_pos t0, if_pos (by rw [hl]; exact t1)]

/-- The program's last rounds: over what goes out of each node. -/
theorem max_l0 {n : Int} {O : List Int} {A : List Int} {B : List Bool} {s t x y : Int} (hO : (O.length : Int) = n) (hn : n ≤ 1024) (hB : (B.length : Int) = n) (s0 : 0 ≤ s) (s1 : s < n) (t0 : 0 ≤ t) (t1 : t < n) (d : Nat) : ∀ i : Nat, ((i + d : Nat) : Int) = n →
    ∃ r : Int × Int, Evl (fun k => proof_Max_1.l0 k O x O O.length i s t A B y) r ∧
      (((∀ v : Int, (i : Int) ≤ v → v < n → v ≠ s → v ≠ t → rd O v = 0) ∧ rdOf false B s = true ∧ rdOf false B t = false ∧ rd O s = x) → r = (0, x)) ∧
      (¬ ((∀ v : Int, (i : Int) ≤ v → v < n → v ≠ s → v ≠ t → rd O v = 0) ∧ rdOf false B s = true ∧ rdOf false B t = false ∧ rd O s = x) → r = (221, y)) := by
  induction d with
  | zero =>
    intro i hi
    have g : ¬ (i : Int) < (O.length : Int) := by omega
    by_cases a : rdOf false B s = true
    · by_cases b : rdOf false B t = true
      · refine ⟨(221, y), Evl.here fun k => by rw [proof_Max_1.l0, if_neg g, if_pos s0, if_pos (by omega), if_pos a, if_pos t0, if_pos (by omega), if_pos b], fun h => ?_, fun _ => rfl⟩
        rw [h.2.2.1] at b; cases b
      · by_cases c : rd O s = x
        · refine ⟨(0, x), Evl.here fun k => by rw [proof_Max_1.l0, if_neg g, if_pos s0, if_pos (by omega), if_pos a, if_pos t0, if_pos (by omega), if_neg b, if_pos (by omega), if_pos c], fun _ => rfl, fun h => absurd ⟨fun v v0 v1 _ _ => by omega, a, by simpa using b, c⟩ h⟩
        · refine ⟨(221, y), Evl.here fun k => by rw [proof_Max_1.l0, if_neg g, if_pos s0, if_pos (by omega), if_pos a, if_pos t0, if_pos (by omega), if_neg b, if_pos (by omega), if_neg c], fun h => absurd h.2.2.2 c, fun _ => rfl⟩
    · refine ⟨(221, y), Evl.here fun k => by rw [proof_Max_1.l0, if_neg g, if_pos s0, if_pos (by omega), if_neg a], fun h => absurd h.2.1 a, fun _ => rfl⟩
  | succ d ih =>
    intro i hi
    have g : (i : Int) < (O.length : Int) := by omega
    have w : wrap64 ((i : Int) + 1) = ((i + 1 : Nat) : Int) := by rw [w1 (by omega) (by omega)]; rfl
    obtain ⟨r, e1, e2, e3⟩ := ih (i + 1) (by omega)
    by_cases a : rd O i = 0 ∨ (i : Int) = s ∨ (i : Int) = t
    · refine ⟨r, e1.step fun k => ?_, fun h => e2 ⟨fun v v0 v1 => h.1 v (by omega) v1, h.2⟩, fun h => e3 fun z => h ⟨fun v v0 v1 vs vt => ?_, z.2⟩⟩
      · rw [proof_Max_1.l0, if_pos g, if_pos (by omega), if_pos g, w]
        by_cases a1 : rd O i = 0
        · rw [if_pos a1]
        · by_cases a2 : (i : Int) = s
          · rw [if_neg a1, if_pos a2]
          · rw [if_neg a1, if_neg a2, if_pos (by omega)]
      · by_cases q : v = i
        · rw [q] at vs vt ⊢; omega
        · exact z.1 v (by omega) v1 vs vt
    · refine ⟨(221, y), Evl.here fun k => ?_, fun h => absurd (h.1 i (by omega) (by omega) (by omega) (by omega)) (by omega), fun _ => rfl⟩
      rw [proof_Max_1.l0, if_pos g, if_pos (by omega), if_pos g, if_neg (by omega), if_neg (by omega), if_neg (by omega)]

/-- Both looks at a flow answer alike. -/
theorem max_f (n : Int) (E : List S98) (s t : Int) (A : List Int) (B : List Bool) : ∃ v e : Int, Evl (fun k => proof_Max.f k n E s t A B) (v, e) ∧ Evl (fun k => compassref11_Max.f k n E s t A B) (v, e) ∧
    (e ≠ 0 → v = 0) ∧ (e = 0 → Right n E ∧ endsE n s t = 0 ∧ Full n E s t A B ∧ v = cut E B E.length) ∧ (Right n E → endsE n s t = 0 → Full n E s t A B → e = 0) := by
  obtain ⟨c, a, g1, g2, g3, g4, g5⟩ := check_f n E
  have hr := right_f g1
  have he := ends_f g2 s t
  have prog : ∀ {r : Int × Int}, Evl (fun k => proof_Max_1.f k n E s t A B 0) r → Evl (fun k => proof_Max.f k n E s t A B) (r.2, r.1) := fun h => (Evl.bind (h := fun k t => some (t.2, t.1)) h Evl.pure).congr fun k => rfl
  by_cases hc : c = 0
  · subst hc
    rw [if_pos rfl] at he
    obtain ⟨-, R⟩ := g3 rfl
    have n0 := R.n0
    have n1 := R.n1
    have start : ∀ {r : Int × Int}, Evl (fun k => if s ≥ 0 then (if s < n then (if t ≥ 0 then (if t < n then (if s = t then (some (120, (0 : Int))) else ((proof_carried.f k n E A).bind fun bt135 => (if bt135.1 = 0 then ((proof_across.f k n E B).bind fun bt139 => (if bt139.1 = 0 then (proof_Max_1.l0 k bt135.2 bt139.2 bt135.2 (bt135.2.length : Int) 0 s t A B 0) else (some (bt139.1, 0)))) else (some (bt135.1, 0))))) else (some (30, 0))) else (some (30, 0))) else (some (30, 0))) else (some (30, 0))) r → Evl (fun k => proof_Max_1.f k n E s t A B 0) r := fun h => (Evl.bind (h := fun k u => if u = 0 then _ else some (u, (0 : Int))) hr (h.congr fun k => by rw [if_pos rfl])).congr fun k => rfl
    have bad : ∀ x : Int, endsE n s t = x → x ≠ 0 → Evl (fun k => compassref11_Max.f k n E s t A B) (0, x) := fun x hx h0 => by
      rw [hx] at he
      exact (Evl.bind (h := fun k t348 => if t348 = 0 then _ else some ((0 : Int), t348)) he (Evl.pure.congr fun k => by rw [if_neg h0])).congr fun k => rfl
    by_cases h1 : s < 0 ∨ s ≥ n ∨ t < 0 ∨ t ≥ n
    · have z : endsE n s t = 30 := by unfold endsE; rw [if_pos h1]
      refine ⟨0, 30, prog (r := (30, 0)) (start (Evl.pure.congr fun k => ?_)), bad 30 z (by decide), fun _ => rfl, fun h => (by cases h), fun _ h => (by rw [z] at h; cases h)⟩
      by_cases a1 : s ≥ 0
      · by_cases a2 : s < n
        · by_cases a3 : t ≥ 0
          · rw [if_pos a1, if_pos a2, if_pos a3, if_neg (by omega)]
          · rw [if_pos a1, if_pos a2, if_neg a3]
        · rw [if_pos a1, if_neg a2]
      · rw [if_neg a1]
    · by_cases h2 : s = t
      · have z : endsE n s t = 120 := by unfold endsE; rw [if_neg h1, if_pos h2]
        exact ⟨0, 120, prog (r := (120, 0)) (start (Evl.pure.congr fun k => by rw [if_pos (by omega), if_pos (by omega), if_pos (by omega), if_pos (by omega), if_pos h2])), bad 120 z (by decide), fun _ => rfl, fun h => (by cases h), fun _ h => (by rw [z] at h; cases h)⟩
      · have z : endsE n s t = 0 := by unfold endsE; rw [if_neg h1, if_neg h2]
        rw [z] at he
        obtain ⟨cr, e1, e2, e3⟩ := carried_f R (A := A)
        have cb := cut_le R B E.length (Nat.le_refl _)
        have m1 := R.m1
        obtain ⟨b, f1, f2⟩ := flows_f R (A := A) h2 (s := s) (t := t) (x := cut E B E.length) (by omega) (by omega) (by omega) (by omega) (by omega)
        -- the document
        have doc : ∃ r : Int × Int, Evl (fun k => compassref11_Max.f k n E s t A B) r ∧ (Full n E s t A B → r = (cut E B E.length, 0)) ∧ (¬ Full n E s t A B → r = (0, 221)) := by
          have go : ∀ {r : Int × Int}, Evl (fun k => if (B.length : Int) = n then (if 0 ≤ s then (if s < (B.length : Int) then (if rdOf false B s = true then (if 0 ≤ t then (if t < (B.length : Int) then (compassref11_Max.j0 k s t A B (rdOf false B t) n E) else (none)) else (none)) else (compassref11_Max.j0 k s t A B true n E)) else (none)) else (none)) else (compassref11_Max.j0 k s t A B true n E)) r → Evl (fun k => compassref11_Max.f k n E s t A B) r := fun h => (Evl.bind (h := fun k u => if u = 0 then _ else some ((0 : Int), u)) he (h.congr fun k => by rw [if_pos rfl])).congr fun k => rfl
          have no : Evl (fun k => compassref11_Max.j0 k s t A B true n E) (0, 221) := Evl.here fun k => by rw [compassref11_Max.j0, if_pos rfl]
          by_cases hB : (B.length : Int) = n
          · by_cases q1 : rdOf false B s = true
            · by_cases q2 : rdOf false B t = true
              · exact ⟨(0, 221), go (no.congr fun k => by rw [if_pos hB, if_pos (by omega), if_pos (by omega), if_pos q1, if_pos (by omega), if_pos (by omega), q2]), fun F => (by rw [F.snk] at q2; cases q2), fun _ => rfl⟩
              · have q2' : rdOf false B t = false := by simpa using q2
                have tail : Evl (fun k => compassref11_Max.f k n E s t A B) (if b = true then (cut E B E.length, 0) else (0, 221)) := by
                  refine go ((Evl.step (g := fun k => compassref11_Max.j0 k s t A B false n E) (Evl.bind (h := fun k t351 => (compassref11_Flows.f k n E s t A t351).bind fun t352 => if t352 = true then some (t351, 0) else some (0, 221)) (cut_f R hB) (Evl.bind (h := fun k t352 => if t352 = true then some (cut E B E.length, 0) else some (0, 221)) f1 (Evl.pure.congr fun k => ?_))) fun k => ?_).congr fun k => ?_)
                  · by_cases qb : b = true
                    · rw [if_pos qb, if_pos qb]
                    · rw [if_neg qb, if_neg qb]
                  · rw [compassref11_Max.j0, if_neg (by simp)]
                  · rw [if_pos hB, if_pos (by omega), if_pos (by omega), if_pos q1, if_pos (by omega), if_pos (by omega), q2']
                by_cases qb : b = true
                · rw [if_pos qb] at tail
                  have k := f2.1 qb
                  exact ⟨_, tail, fun _ => rfl, fun h => absurd ⟨hB, q1, q2', k.1.1, k.1.2, k.2.1, k.2.2⟩ h⟩
                · rw [if_neg qb] at tail
                  exact ⟨_, tail, fun F => absurd (f2.2 ⟨⟨F.len, F.fit⟩, F.out, F.kept⟩) qb, fun _ => rfl⟩
            · exact ⟨(0, 221), go (no.congr fun k => by rw [if_pos hB, if_pos (by omega), if_pos (by omega), if_neg q1]), fun F => absurd F.src q1, fun _ => rfl⟩
          · exact ⟨(0, 221), go (no.congr fun k => by rw [if_neg hB]), fun F => absurd F.side hB, fun _ => rfl⟩
        -- the program
        have pr : ∃ r : Int × Int, Evl (fun k => proof_Max_1.f k n E s t A B 0) r ∧ (Full n E s t A B → r = (0, cut E B E.length)) ∧ (¬ Full n E s t A B → r = (221, 0)) := by
          have go : ∀ {r : Int × Int}, Evl (fun k => (proof_carried.f k n E A).bind fun bt135 => (if bt135.1 = 0 then ((proof_across.f k n E B).bind fun bt139 => (if bt139.1 = 0 then (proof_Max_1.l0 k bt135.2 bt139.2 bt135.2 (bt135.2.length : Int) 0 s t A B 0) else (some (bt139.1, 0)))) else (some (bt135.1, 0)))) r → Evl (fun k => proof_Max_1.f k n E s t A B 0) r := fun h => start (h.congr fun k => by rw [if_pos (by omega), if_pos (by omega), if_pos (by omega), if_pos (by omega), if_neg h2])
          by_cases qa : A.length = E.length ∧ Amts E A
          · obtain ⟨k1, k2, k3⟩ := e2 qa
            by_cases hB : (B.length : Int) = n
            · obtain ⟨r, m1, m2, m3⟩ := max_l0 (O := cr.2) (A := A) (B := B) (s := s) (t := t) (x := cut E B E.length) (y := 0) k2 n1 hB (by omega) (by omega) (by omega) (by omega) n.toNat 0 (by omega)
              refine ⟨r, go (Evl.bind (h := fun k bt135 => if bt135.1 = 0 then ((proof_across.f k n E B).bind fun bt139 => (if bt139.1 = 0 then (proof_Max_1.l0 k bt135.2 bt139.2 bt135.2 (bt135.2.length : Int) 0 s t A B 0) else (some (bt139.1, 0)))) else (some (bt135.1, 0))) e1 ((Evl.bind (h := fun k bt139 => if bt139.1 = 0 then (proof_Max_1.l0 k cr.2 bt139.2 cr.2 (cr.2.length : Int) 0 s t A B 0) else (some (bt139.1, 0))) (across_f R hB) (m1.congr fun k => by rw [if_pos rfl]; rfl)).congr fun k => by rw [if_pos k1])), fun F => m2 ⟨fun v v0 v1 a b => ?_, F.src, F.snk, ?_⟩, fun h => m3 fun z => h ⟨hB, z.2.1, z.2.2.1, qa.1, qa.2, ?_, fun v v0 v1 a b => ?_⟩⟩
              · rw [k3 v (by omega) v1]; exact F.kept v (by omega) v1 a b
              · rw [k3 s (by omega) (by omega)]; exact F.out
              · rw [← k3 s (by omega) (by omega)]; exact z.2.2.2
              · rw [← k3 v v0 v1]; exact z.1 v (by omega) v1 a b
            · refine ⟨(221, 0), go (Evl.bind (h := fun k bt135 => if bt135.1 = 0 then ((proof_across.f k n E B).bind fun bt139 => (if bt139.1 = 0 then (proof_Max_1.l0 k bt135.2 bt139.2 bt135.2 (bt135.2.length : Int) 0 s t A B 0) else (some (bt139.1, 0)))) else (some (bt135.1, 0))) e1 ((Evl.bind (h := fun k bt139 => if bt139.1 = 0 then (proof_Max_1.l0 k cr.2 bt139.2 cr.2 (cr.2.length : Int) 0 s t A B 0) else (some (bt139.1, 0))) (across_no hB) (Evl.pure.congr fun k => by rw [if_neg (by decide)])).congr fun k => by rw [if_pos k1])), fun F => absurd F.side hB, fun _ => rfl⟩
          · have k1 := e3 qa
            refine ⟨(221, 0), go (Evl.bind (h := fun k bt135 => if bt135.1 = 0 then ((proof_across.f k n E B).bind fun bt139 => (if bt139.1 = 0 then (proof_Max_1.l0 k bt135.2 bt139.2 bt135.2 (bt135.2.length : Int) 0 s t A B 0) else (some (bt139.1, 0)))) else (some (bt135.1, 0))) e1 (Evl.pure.congr fun k => by rw [k1, if_neg (by decide)])), fun F => absurd ⟨F.len, F.fit⟩ qa, fun _ => rfl⟩
        obtain ⟨r1, d1, d2, d3⟩ := doc
        obtain ⟨r2, p1, p2, p3⟩ := pr
        by_cases F : Full n E s t A B
        · have q1 := d2 F
          have q2 := p2 F
          subst q1 q2
          exact ⟨_, _, prog p1, d1, fun h => absurd rfl h, fun _ => ⟨R, z, F, rfl⟩, fun _ _ _ => rfl⟩
        · have q1 := d3 F
          have q2 := p3 F
          subst q1 q2
          exact ⟨_, _, prog p1, d1, fun _ => rfl, fun h => (by cases h), fun _ _ h => absurd h F⟩
  · rw [if_neg hc] at he
    refine ⟨0, c, prog (r := (c, 0)) ((Evl.bind (h := fun k u => if u = 0 then _ else some (u, (0 : Int))) hr (Evl.pure.congr fun k => by rw [if_neg hc])).congr fun k => rfl), (Evl.bind (h := fun k u => if u = 0 then _ else some ((0 : Int), u)) he (Evl.pure.congr fun k => by rw [if_neg hc])).congr fun k => rfl, fun _ => rfl, fun h => absurd h hc, fun R => absurd (g5 R) hc⟩
end Go.Proofs.Ytkdoihcjhccliaa.G
namespace Go.Proofs.Ytkdoihcjhccliaa.G
open Go.RowKit Go.Proofs.Ytkdoihcjhccliaa.Q Go.Proofs.YtkdoihcjhccliaaW.PrintWords Go.Proofs.YtkdoihcjhccliaaW.PrintLast
set_option linter.unusedVariables false

/-- Over the first nodes what goes out, weighted. -/
def wsum (p : Int → Int) (E : List S98) (A : List Int) (i : Nat) : Nat → Int
  | 0 => 0
  | v + 1 => wsum p E A i v + p v * net E A v i
/-- Over the first edges what lies on them, weighted by both ends. -/
def esum (p : Int → Int) (E : List S98) (A : List Int) : Nat → Int
  | 0 => 0
  | i + 1 => esum p E A i + (p (rd_T98 E i).f0 * rd A i - p (rd_T98 E i).f1 * rd A i)

theorem wsum_zero (p : Int → Int) (E : List S98) (A : List Int) (v : Nat) : wsum p E A 0 v = 0 := by
  induction v with
  | zero => rfl
  | succ v ih => simp only [wsum, net, ih, Int.mul_zero]; rfl
theorem wsum_step (p : Int → Int) (E : List S98) (A : List Int) (i : Nat) (f0 : 0 ≤ (rd_T98 E i).f0) (t0 : 0 ≤ (rd_T98 E i).f1) (v : Nat) : wsum p E A (i + 1) v = wsum p E A i v + (if (rd_T98 E i).f0 < v then p (rd_T98 E i).f0 * rd A i else 0) - (if (rd_T98 E i).f1 < v then p (rd_T98 E i).f1 * rd A i else 0) := by
  induction v with
  | zero => simp only [wsum]; rw [if_neg (by omega), if_neg (by omega)]; omega
  | succ v ih =>
    simp only [wsum, net, ih, Int.mul_sub, Int.mul_add]
    push_cast
    have a : p v * (if (rd_T98 E i).f0 = v then rd A i else 0) = if (rd_T98 E i).f0 = v then p (rd_T98 E i).f0 * rd A i else 0 := by
      split
      · rename_i h; rw [h]
      · exact Int.mul_zero _
    have b : p v * (if (rd_T98 E i).f1 = v then rd A i else 0) = if (rd_T98 E i).f1 = v then p (rd_T98 E i).f1 * rd A i else 0 := by
      split
      · rename_i h; rw [h]
      · exact Int.mul_zero _
    rw [a, b]
    generalize p (rd_T98 E i).f0 * rd A i = x
    generalize p (rd_T98 E i).f1 * rd A i = y
    generalize (rd_T98 E i).f0 = c at *
    generalize (rd_T98 E i).f1 = d at *
    generalize p v * net E A v i = z
    generalize wsum p E A i v = u
    clear a b ih
    (repeat' split) <;> omega
theorem wsum_esum {n : Int} {E : List S98} (R : Right n E) (p : Int → Int) (A : List Int) : ∀ i : Nat, i ≤ E.length → wsum p E A i n.toNat = esum p E A i := by
  have n0 := R.n0
  intro i
  induction i with
  | zero => intro _; exact wsum_zero p E A _
  | succ i ih =>
    intro hi
    have e := R.e i (by omega) (by omega)
    have a1 := e.a1
    have b1 := e.b1
    rw [wsum_step p E A i e.a0 e.b0, ih (by omega), if_pos (by omega), if_pos (by omega), esum]; omega

/-- The side's weights. -/
def ind (B : List Bool) (v : Int) : Int := if rdOf false B v = true then 1 else 0
theorem esum_cut {n : Int} {E : List S98} (R : Right n E) (B : List Bool) {A : List Int} (h : Amts E A) : ∀ i : Nat, i ≤ E.length → esum (ind B) E A i ≤ cut E B i := by
  intro i
  induction i with
  | zero => intro _; exact Int.le_refl _
  | succ i ih =>
    intro hi
    have a := ih (by omega)
    have b := h i (by omega) (by omega)
    have c0 := (R.e i (by omega) (by omega)).c0
    simp only [esum, cut, ind]
    by_cases q0 : rdOf false B (rd_T98 E i).f0 = true
    · by_cases q1 : rdOf false B (rd_T98 E i).f1 = true
      · rw [if_pos q0, if_pos q1, if_neg (by rw [q1]; simp)]; omega
      · rw [if_pos q0, if_neg q1, if_pos ⟨q0, by simpa using q1⟩]; omega
    · rw [if_neg q0, if_neg (show ¬ (rdOf false B (rd_T98 E i).f0 = true ∧ rdOf false B (rd_T98 E i).f1 = false) from fun h => q0 h.1)]
      split <;> omega
theorem wsum_flow {E : List S98} {B : List Bool} {A : List Int} {i : Nat} {s t : Int} (hs : rdOf false B s = true) (ht : rdOf false B t = false) (s0 : 0 ≤ s) (v : Nat) (h : ∀ u : Int, 0 ≤ u → u < v → u ≠ s → u ≠ t → net E A u i = 0) : wsum (ind B) E A i v = if s < v then net E A s i else 0 := by
  induction v with
  | zero => rw [if_neg (by omega)]; rfl
  | succ v ih =>
    rw [wsum, ih fun u a b => h u a (by omega)]
    push_cast
    by_cases a : (v : Int) = s
    · rw [if_neg (by omega), if_pos (by omega), a, ind, if_pos hs]; omega
    · have z : ind B v * net E A v i = 0 := by
        by_cases b : (v : Int) = t
        · rw [b, ind, ht, if_neg (by simp), Int.zero_mul]
        · rw [h v (by omega) (by omega) a b, Int.mul_zero]
      rw [z]
      by_cases c : s < (v : Int)
      · rw [if_pos c, if_pos (by omega)]; omega
      · rw [if_neg c, if_neg (by omega)]; omega
/-- No flow is greater than a cut. -/
theorem flow_cut {n : Int} {E : List S98} (R : Right n E) {B : List Bool} {A : List Int} {s t : Int} (hs : rdOf false B s = true) (ht : rdOf false B t = false) (s0 : 0 ≤ s) (s1 : s < n) (h : Amts E A) (k : ∀ v : Int, 0 ≤ v → v < n → v ≠ s → v ≠ t → net E A v E.length = 0) : net E A s E.length ≤ cut E B E.length := by
  have n0 := R.n0
  have a := wsum_flow (E := E) (A := A) (i := E.length) hs ht s0 n.toNat (fun u a b c d => k u a (by omega) c d)
  rw [if_pos (by omega), wsum_esum R (ind B) A E.length (Nat.le_refl _)] at a
  rw [← a]
  exact esum_cut R B h E.length (Nat.le_refl _)
end Go.Proofs.Ytkdoihcjhccliaa.G
namespace Go.Proofs.Ytkdoihcjhccliaa.G
open Go.RowKit Go.Proofs.Ytkdoihcjhccliaa.Q Go.Proofs.YtkdoihcjhccliaaW.PrintWords Go.Proofs.YtkdoihcjhccliaaW.PrintLast
set_option linter.unusedVariables false

def ssum (S : List Int) : Nat → Int
  | 0 => 0
  | i + 1 => ssum S i + rd S i
/-- Right supplies. -/
structure Sup (n : Int) (S : List Int) : Prop where
  len : (S.length : Int) = n
  lab : ∀ v : Int, 0 ≤ v → v < n → -1048576 ≤ rd S v ∧ rd S v ≤ 1048576
  all : ssum S n.toNat = 0
theorem ssum_le {S : List Int} {m : Nat} (h : ∀ v : Int, 0 ≤ v → v < (m : Int) → -1048576 ≤ rd S v ∧ rd S v ≤ 1048576) : ∀ i : Nat, i ≤ m → -(i * 1048576 : Int) ≤ ssum S i ∧ ssum S i ≤ (i * 1048576 : Int) := by
  intro i
  induction i with
  | zero => intro _; simp [ssum]
  | succ i ih =>
    intro hi
    have a := ih (by omega)
    have b := h (i : Int) (by omega) (by omega)
    simp only [ssum]; push_cast; omega

theorem supplied_l0 {n : Int} (E : List S98) (n1 : n ≤ 1024) {S : List Int} (hS : (S.length : Int) = n) (d : Nat) : ∀ i : Nat, ((i + d : Nat) : Int) = n →
    (∀ v : Int, 0 ≤ v → v < (i : Int) → -1048576 ≤ rd S v ∧ rd S v ≤ 1048576) →
    ∃ x : Int, Evl (fun k => proof_supplied.l0 k (ssum S i) S S.length i) x ∧ Evl (fun k => compassref11_Supplies.l0 k S (ssum S i) i n E) x ∧ (x = 0 ∨ x = 130) ∧ (x = 0 ↔ Sup n S) := by
  induction d with
  | zero =>
    intro i hi hP
    have e : n.toNat = i := by omega
    by_cases c : ssum S i = 0
    · exact ⟨0, Evl.here fun k => by rw [proof_supplied.l0, if_neg (by omega), if_pos c], Evl.here fun k => by rw [compassref11_Supplies.l0, if_neg (by omega), if_pos c], Or.inl rfl, fun _ => ⟨hS, fun v a b => hP v a (by omega), by rw [e]; exact c⟩, fun _ => rfl⟩
    · exact ⟨130, Evl.here fun k => by rw [proof_supplied.l0, if_neg (by omega), if_neg c], Evl.here fun k => by rw [compassref11_Supplies.l0, if_neg (by omega), if_neg c], Or.inr rfl, fun h => (by cases h), fun h => absurd (by have := h.all; rwa [e] at this) c⟩
  | succ d ih =>
    intro i hi hP
    have w : wrap64 ((i : Int) + 1) = ((i + 1 : Nat) : Int) := by rw [w1 (by omega) (by omega)]; rfl
    have b := ssum_le (m := i) hP i (Nat.le_refl _)
    by_cases c1 : rd S i ≥ -1048576
    · by_cases c2 : rd S i ≤ 1048576
      · obtain ⟨x, e1, e2, e3, e4⟩ := ih (i + 1) (by omega) (fun v v0 v1 => by
          by_cases q : v = i
          · rw [q]; exact ⟨c1, c2⟩
          · exact hP v v0 (by omega))
        have z : wrap64 (ssum S i + rd S i) = ssum S (i + 1) := by rw [wr (by omega) (by omega)]; rfl
        refine ⟨x, e1.step fun k => ?_, e2.step fun k => ?_, e3, e4⟩
        · rw [proof_supplied.l0, if_pos (by omega), if_pos (by omega), if_pos (by omega), if_pos c1, if_pos c2, z, w]
        · rw [compassref11_Supplies.l0, if_pos (by omega), if_pos (by omega), if_pos (by omega), if_neg (by omega), if_neg (by omega), z, w]
      · exact ⟨130, Evl.here fun k => by rw [proof_supplied.l0, if_pos (by omega), if_pos (by omega), if_pos (by omega), if_pos c1, if_neg c2], Evl.here fun k => by rw [compassref11_Supplies.l0, if_pos (by omega), if_pos (by omega), if_pos (by omega), if_neg (by omega), if_pos (by omega)], Or.inr rfl, fun h => (by cases h), fun h => absurd (h.lab i (by omega) (by omega)).2 c2⟩
    · exact ⟨130, Evl.here fun k => by rw [proof_supplied.l0, if_pos (by omega), if_pos (by omega), if_pos (by omega), if_neg c1], Evl.here fun k => by rw [compassref11_Supplies.l0, if_pos (by omega), if_pos (by omega), if_pos (by omega), if_pos (by omega)], Or.inr rfl, fun h => (by cases h), fun h => absurd (h.lab i (by omega) (by omega)).1 c1⟩
theorem supplied_f {n : Int} {E : List S98} (R : Right n E) {a : Int} (g : Evl (fun k => compassref03_Check.f k n E) (0, a)) (S : List Int) :
    ∃ x : Int, Evl (fun k => proof_supplied.f k n E S) x ∧ Evl (fun k => compassref11_Supplies.f k n E S) x ∧ (x = 0 ∨ x = 130) ∧ (x = 0 ↔ Sup n S) := by
  have n0 := R.n0
  by_cases h : (S.length : Int) = n
  · obtain ⟨x, e1, e2, e3, e4⟩ := supplied_l0 E R.n1 h n.toNat 0 (by omega) (fun v a b => by omega)
    refine ⟨x, e1.congr fun k => by rw [proof_supplied.f, if_pos h]; rfl, ?_, e3, e4⟩
    exact (Evl.bind (h := fun k bt => if bt.1 = 0 then (if (S.length : Int) = n then (compassref11_Supplies.l0 k S 0 0 n E) else (some 130)) else (some bt.1)) g (e2.congr fun k => by rw [if_pos rfl, if_pos h]; rfl)).congr fun k => rfl
  · exact ⟨130, Evl.pure.congr fun k => by rw [proof_supplied.f, if_neg h], (Evl.bind (h := fun k bt => if bt.1 = 0 then (if (S.length : Int) = n then (compassref11_Supplies.l0 k S 0 0 n E) else (some 130)) else (some bt.1)) g (Evl.pure.congr fun k => by rw [if_pos rfl, if_neg h])).congr fun k => rfl, Or.inr rfl, fun h => (by cases h), fun q => absurd q.len h⟩
theorem supplies_bad {n : Int} {E : List S98} {c a : Int} (hc : c ≠ 0) (g : Evl (fun k => compassref03_Check.f k n E) (c, a)) (S : List Int) : Evl (fun k => compassref11_Supplies.f k n E S) c :=
  (Evl.bind (h := fun k bt => if bt.1 = 0 then (if (S.length : Int) = n then (compassref11_Supplies.l0 k S 0 0 n E) else (some 130)) else (some bt.1)) g (Evl.pure.congr fun k => by rw [if_neg hc])).congr fun k => rfl

/-- Potentials. -/
def Pots (n : Int) (P : List Int) : Prop := (P.length : Int) = n ∧ ∀ v : Int, 0 ≤ v → v < n → -4398046511104 ≤ rd P v ∧ rd P v ≤ 4398046511104
theorem pots_f {n : Int} (E : List S98) (n0 : 0 ≤ n) (n1 : n ≤ 1024) (P : List Int) : ∃ b : Bool, Evl (fun k => compassref11_Pots.f k n E P) b ∧ (b = true ↔ Pots n P) := by
  by_cases h : (P.length : Int) = n
  · have loop : ∀ (d i : Nat), ((i + d : Nat) : Int) = n → (∀ v : Int, 0 ≤ v → v < (i : Int) → -4398046511104 ≤ rd P v ∧ rd P v ≤ 4398046511104) → ∃ b : Bool, Evl (fun k => compassref11_Pots.l0 k P i n E) b ∧ (b = true ↔ Pots n P) := by
      intro d
      induction d with
      | zero =>
        intro i hi hP
        exact ⟨true, Evl.here fun k => by rw [compassref11_Pots.l0, if_neg (by omega)], fun _ => ⟨h, fun v a b => hP v a (by omega)⟩, fun _ => rfl⟩
      | succ d ih =>
        intro i hi hP
        have w : wrap64 ((i : Int) + 1) = ((i + 1 : Nat) : Int) := by rw [w1 (by omega) (by omega)]; rfl
        by_cases c1 : rd P i < -4398046511104
        · exact ⟨false, Evl.here fun k => by rw [compassref11_Pots.l0, if_pos (by omega), if_pos (by omega), if_pos (by omega), if_pos c1], fun h => (by cases h), fun h => absurd (h.2 i (by omega) (by omega)).1 (by omega)⟩
        · by_cases c2 : rd P i > 4398046511104
          · exact ⟨false, Evl.here fun k => by rw [compassref11_Pots.l0, if_pos (by omega), if_pos (by omega), if_pos (by omega), if_neg c1, if_pos c2], fun h => (by cases h), fun h => absurd (h.2 i (by omega) (by omega)).2 (by omega)⟩
          · obtain ⟨b, e1, e2⟩ := ih (i + 1) (by omega) (fun v v0 v1 => by
              by_cases q : v = i
              · rw [q]; exact ⟨by omega, by omega⟩
              · exact hP v v0 (by omega))
            exact ⟨b, e1.step fun k => by rw [compassref11_Pots.l0, if_pos (by omega), if_pos (by omega), if_pos (by omega), if_neg c1, if_neg c2, w], e2⟩
    obtain ⟨b, e1, e2⟩ := loop n.toNat 0 (by omega) (fun v a b => by omega)
    exact ⟨b, e1.congr fun k => by rw [compassref11_Pots.f, if_pos h]; rfl, e2⟩
  · exact ⟨false, Evl.pure.congr fun k => by rw [compassref11_Pots.f, if_neg h], fun h => (by cases h), fun q => absurd q.1 h⟩

/-- An edge's cost, some times, by potentials. -/
def red (P : List Int) (q : Int) (e : S98) : Int := q * e.f3 + rd P e.f0 - rd P e.f1
theorem red_f {n : Int} {e : S98} {P : List Int} (h : Pots n P) (r : RightE n e) : compassref11_Reduced.f e.f0 e.f1 e.f2 e.f3 P = some (red P 1 e) := by
  obtain ⟨hl, hp⟩ := h
  obtain ⟨a0, a1, b0, b1, c0, c1, d0, d1⟩ := r
  have p0 := hp e.f0 a0 a1
  have p1 := hp e.f1 b0 b1
  unfold compassref11_Reduced.f red
  rw [if_pos a0, if_pos (by omega), if_pos b0, if_pos (by omega), wr (x := e.f3 + rd P e.f0) (by omega) (by omega), wr (by omega) (by omega), Int.one_mul]
theorem reduced_l1 {n : Int} {E : List S98} (R : Right n E) {P : List Int} (h : Pots n P) {q : Int} (q0 : 0 ≤ q) (q1 : q ≤ 1024) (d : Nat) : ∀ (i : Nat) (O : List Int), i + d = E.length → O.length = i →
    (∀ j : Int, 0 ≤ j → j < (i : Int) → rd O j = red P q (rd_T98 E j)) →
    ∃ O' : List Int, Evl (fun k => proof_reduced.l1 k P q O E E.length i) (0, O') ∧ O'.length = E.length ∧ ∀ j : Int, 0 ≤ j → j < (E.length : Int) → rd O' j = red P q (rd_T98 E j) := by
  have hm := R.m1
  induction d with
  | zero =>
    intro i O hi hO hP
    exact ⟨O, Evl.here fun k => by rw [proof_reduced.l1, if_neg (by omega)], by omega, fun j a b => hP j a (by omega)⟩
  | succ d ih =>
    intro i O hi hO hP
    have g2 : (i : Int) < (E.length : Int) := by omega
    have w : wrap64 ((i : Int) + 1) = ((i + 1 : Nat) : Int) := by rw [w1 (by omega) (by omega)]; rfl
    obtain ⟨hl, hp⟩ := h
    obtain ⟨a0, a1, b0, b1, c0, c1, d0, d1⟩ := R.e i (by omega) g2
    have p0 := hp _ a0 a1
    have p1 := hp _ b0 b1
    have m0 : -1073741824 ≤ q * (rd_T98 E i).f3 := by
      have a := Int.mul_le_mul_of_nonneg_left d0 q0
      omega
    have m1 : q * (rd_T98 E i).f3 ≤ 1073741824 := by
      have a := Int.mul_le_mul_of_nonneg_left d1 q0
      omega
    have z : wrap64 ((wrap64 ((wrap64 (q * ((rd_T98 E i).f3))) + (rd P ((rd_T98 E i).f0)))) - (rd P ((rd_T98 E i).f1))) = red P q (rd_T98 E i) := by
      rw [wr (x := q * (rd_T98 E i).f3) (by omega) (by omega), wr (x := q * (rd_T98 E i).f3 + rd P (rd_T98 E i).f0) (by omega) (by omega), wr (by omega) (by omega)]; rfl
    obtain ⟨O', e1, e2, e3⟩ := ih (i + 1) (O ++ [red P q (rd_T98 E i)]) (by omega) (by simp [hO]) (fun j j0 j1 => by
      rw [rd_append _ _ _ j0]
      by_cases c : j < (O.length : Int)
      · rw [if_pos c]; exact hP j j0 (by omega)
      · rw [if_neg c, show j - (O.length : Int) = 0 by omega, show j = (i : Int) by omega]; rfl)
    refine ⟨O', e1.step fun k => ?_, e2, e3⟩
    rw [proof_reduced.l1, if_pos g2, if_pos (by omega), if_pos g2, if_pos a0, if_pos (by omega), if_pos b0, if_pos (by omega), if_pos (by omega), z, w]
theorem reduced_f {n : Int} {E : List S98} (R : Right n E) (P : List Int) {q : Int} (q0 : 0 ≤ q) (q1 : q ≤ 1024) : ∃ r : Int × List Int, Evl (fun k => proof_reduced.f k n E P q) r ∧
    (Pots n P → r.1 = 0 ∧ r.2.length = E.length ∧ ∀ j : Int, 0 ≤ j → j < (E.length : Int) → rd r.2 j = red P q (rd_T98 E j)) ∧ (¬ Pots n P → r = (221, [])) := by
  have n0 := R.n0
  have n1 := R.n1
  have m1 := R.m1
  by_cases h : (P.length : Int) = n
  · have loop : ∀ (d i : Nat), ((i + d : Nat) : Int) = n → (∀ v : Int, 0 ≤ v → v < (i : Int) → -4398046511104 ≤ rd P v ∧ rd P v ≤ 4398046511104) → ∃ r : Int × List Int, Evl (fun k => proof_reduced.l0 k P q P P.length i n E) r ∧
        (Pots n P → r.1 = 0 ∧ r.2.length = E.length ∧ ∀ j : Int, 0 ≤ j → j < (E.length : Int) → rd r.2 j = red P q (rd_T98 E j)) ∧ (¬ Pots n P → r = (221, [])) := by
      intro d
      induction d with
      | zero =>
        intro i hi hP
        have hh : Pots n P := ⟨h, fun v a b => hP v a (by omega)⟩
        obtain ⟨O', e1, e2, e3⟩ := reduced_l1 R hh q0 q1 E.length 0 [] (by omega) rfl (fun j a b => by omega)
        exact ⟨(0, O'), e1.step fun k => by rw [proof_reduced.l0, if_neg (by omega), if_pos (by omega), if_pos (by omega)]; rfl, fun _ => ⟨rfl, e2, e3⟩, fun c => absurd hh c⟩
      | succ d ih =>
        intro i hi hP
        have w : wrap64 ((i : Int) + 1) = ((i + 1 : Nat) : Int) := by rw [w1 (by omega) (by omega)]; rfl
        by_cases c1 : rd P i ≥ -4398046511104
        · by_cases c2 : rd P i ≤ 4398046511104
          · obtain ⟨r, e1, e2⟩ := ih (i + 1) (by omega) (fun v v0 v1 => by
              by_cases q : v = i
              · rw [q]; exact ⟨by omega, by omega⟩
              · exact hP v v0 (by omega))
            exact ⟨r, e1.step fun k => by rw [proof_reduced.l0, if_pos (by omega), if_pos (by omega), if_pos (by omega), if_pos c1, if_pos c2, w], e2⟩
          · exact ⟨(221, []), Evl.here fun k => by rw [proof_reduced.l0, if_pos (by omega), if_pos (by omega), if_pos (by omega), if_pos c1, if_neg c2], fun h => absurd (h.2 i (by omega) (by omega)).2 c2, fun _ => rfl⟩
        · exact ⟨(221, []), Evl.here fun k => by rw [proof_reduced.l0, if_pos (by omega), if_pos (by omega), if_pos (by omega), if_neg c1], fun h => absurd (h.2 i (by omega) (by omega)).1 c1, fun _ => rfl⟩
    obtain ⟨r, e1, e2⟩ := loop n.toNat 0 (by omega) (fun v a b => by omega)
    exact ⟨r, e1.congr fun k => by rw [proof_reduced.f, if_pos h]; rfl, e2⟩
  · exact ⟨(221, []), Evl.pure.congr fun k => by rw [proof_reduced.f, if_neg h], fun q => absurd q.1 h, fun _ => rfl⟩

/-- What amounts on the first edges cost, as the program adds. -/
def totw (E : List S98) (A : List Int) : Nat → Int
  | 0 => 0
  | i + 1 => wrap64 (totw E A i + wrap64 ((rd_T98 E i).f3 * rd A i))
/-- What they cost. -/
def cost (E : List S98) (A : List Int) : Nat → Int
  | 0 => 0
  | i + 1 => cost E A i + (rd_T98 E i).f3 * rd A i
theorem cost_one {n : Int} {e : S98} (r : RightE n e) {a : Int} (a0 : 0 ≤ a) (a1 : a ≤ 1048576) : -1099511627776 ≤ e.f3 * a ∧ e.f3 * a ≤ 1099511627776 := by
  have x := Int.mul_le_mul_of_nonneg_right r.d0 a0
  have y := Int.mul_le_mul_of_nonneg_right r.d1 a0
  omega
theorem totw_cost {n : Int} {E : List S98} (R : Right n E) {A : List Int} (h : Labs E.length A) : ∀ i : Nat, i ≤ E.length → totw E A i = cost E A i ∧ -(i * 1099511627776 : Int) ≤ cost E A i ∧ cost E A i ≤ (i * 1099511627776 : Int) := by
  have m1 := R.m1
  intro i
  induction i with
  | zero => intro _; simp [totw, cost]
  | succ i ih =>
    intro hi
    obtain ⟨a, b, c⟩ := ih (by omega)
    have l := h i (by omega) (by omega)
    have m := cost_one (R.e i (by omega) (by omega)) l.1 l.2
    simp only [totw, cost]
    rw [a, wr (x := (rd_T98 E i).f3 * rd A i) (by omega) (by omega), wr (by omega) (by omega)]
    push_cast
    exact ⟨rfl, by omega, by omega⟩
theorem total_f {n : Int} {E : List S98} (hm : (E.length : Int) ≤ 4096) {A : List Int} (hA : A.length = E.length) : Evl (fun k => compassref11_Total.f k n E A) (totw E A E.length) := by
  have loop : ∀ (d i : Nat), i + d = E.length → Evl (fun k => compassref11_Total.l0 k A (totw E A i) i n E) (totw E A E.length) := by
    intro d
    induction d with
    | zero => intro i hi; exact Evl.here fun k => by rw [compassref11_Total.l0, if_neg (by omega), show i = E.length by omega]
    | succ d ih =>
      intro i hi
      have w : wrap64 ((i : Int) + 1) = ((i + 1 : Nat) : Int) := by rw [w1 (by omega) (by omega)]; rfl
      exact (ih (i + 1) (by omega)).step fun k => by rw [compassref11_Total.l0, if_pos (by omega), if_pos (by omega), if_pos (by omega), w]; rfl
  exact (loop E.length 0 (by omega)).congr fun k => rfl

/-- Where what goes out of each node is alike, the weights at the nodes count alike. -/
theorem wsum_same (p : Int → Int) (E : List S98) (A O : List Int) (i : Nat) (v : Nat) (h : ∀ u : Int, 0 ≤ u → u < v → net E A u i = net E O u i) : wsum p E A i v = wsum p E O i v := by
  induction v with
  | zero => rfl
  | succ v ih => rw [wsum, wsum, ih fun u a b => h u a (by omega), h v (by omega) (by omega)]
/-- By the potentials no change of amounts that fits costs less. -/
theorem cost_dual {E : List S98} {A O P : List Int} (hA : ∀ i : Int, 0 ≤ i → i < (E.length : Int) → (red P 1 (rd_T98 E i) > 0 → rd A i ≤ rd O i) ∧ (red P 1 (rd_T98 E i) < 0 → rd O i ≤ rd A i)) : ∀ i : Nat, i ≤ E.length → cost E A i + esum (rd P) E A i ≤ cost E O i + esum (rd P) E O i := by
  intro i
  induction i with
  | zero => intro _; exact Int.le_refl _
  | succ i ih =>
    intro hi
    have a := ih (by omega)
    have b := hA i (by omega) (by omega)
    have one : ∀ x : Int, (rd_T98 E i).f3 * x + (rd P (rd_T98 E i).f0 * x - rd P (rd_T98 E i).f1 * x) = red P 1 (rd_T98 E i) * x := fun x => by
      unfold red
      rw [Int.one_mul, Int.sub_mul, Int.add_mul]; omega
    have key : red P 1 (rd_T98 E i) * rd A i ≤ red P 1 (rd_T98 E i) * rd O i := by
      rcases Int.lt_trichotomy (red P 1 (rd_T98 E i)) 0 with c | c | c
      · exact Int.mul_le_mul_of_nonpos_left (Int.le_of_lt c) (b.2 c)
      · rw [c, Int.zero_mul, Int.zero_mul]; exact Int.le_refl _
      · exact Int.mul_le_mul_of_nonneg_left (b.1 c) (Int.le_of_lt c)
    rw [← one, ← one] at key
    simp only [cost, esum]
    omega
theorem cost_least {n : Int} {E : List S98} (R : Right n E) {A O P : List Int} (hn : ∀ v : Int, 0 ≤ v → v < n → net E A v E.length = net E O v E.length) (hA : ∀ i : Int, 0 ≤ i → i < (E.length : Int) → (red P 1 (rd_T98 E i) > 0 → rd A i ≤ rd O i) ∧ (red P 1 (rd_T98 E i) < 0 → rd O i ≤ rd A i)) : cost E A E.length ≤ cost E O E.length := by
  have n0 := R.n0
  have a := cost_dual hA E.length (Nat.le_refl _)
  rw [← wsum_esum R (rd P) A E.length (Nat.le_refl _), ← wsum_esum R (rd P) O E.length (Nat.le_refl _), wsum_same (rd P) E A O E.length n.toNat (fun u u0 u1 => hn u u0 (by omega))] at a
  omega
end Go.Proofs.Ytkdoihcjhccliaa.G
namespace Go.Proofs.Ytkdoihcjhccliaa.G
open Go.RowKit Go.Proofs.Ytkdoihcjhccliaa.Q Go.Proofs.YtkdoihcjhccliaaW.PrintWords Go.Proofs.YtkdoihcjhccliaaW.PrintLast
set_option linter.unusedVariables false

def I64 (a : Int) : Prop := -9223372036854775808 ≤ a ∧ a ≤ 9223372036854775807
theorem wu64 (n : Int) : IntKind.u64.wrap n = n % 18446744073709551616 := by simp [IntKind.wrap, IntKind.bits, IntKind.signed]
theorem rsize_nat {a : Int} (h : I64 a) : safeint_size.f a = some ((a.natAbs : Nat) : Int) := by
  unfold I64 at h
  unfold safeint_size.f
  by_cases c : a < 0
  · rw [if_pos c]; simp only [wu64]; congr 1; omega
  · rw [if_neg c]; simp only [wu64]; congr 1; omega
theorem rgcd_l0 : ∀ (y x k : Nat), y < k → safeint_Gcd.l0 k (x : Int) (y : Int) = some ((Nat.gcd x y : Nat) : Int) := by
  intro y
  induction y using Nat.strongRecOn with
  | ind y ih =>
    intro x k hk
    obtain ⟨k, rfl⟩ : ∃ m, k = m + 1 := ⟨k - 1, by omega⟩
    simp only [safeint_Gcd.l0]
    by_cases h0 : y = 0
    · subst h0; simp
    · rw [if_neg (by omega)]
      have hlt : x % y < y := Nat.mod_lt _ (by omega)
      rw [show Int.tmod (x : Int) (y : Int) = ((x % y : Nat) : Int) from (Int.ofNat_tmod x y).symm, ih (x % y) hlt y k (by omega)]
      congr 2
      rw [Nat.gcd_comm y, ← Nat.gcd_rec, Nat.gcd_comm]
theorem rgcd_f {a b : Int} (ha : I64 a) (hb : I64 b) (k : Nat) (hk : b.natAbs < k) :
    safeint_Gcd.f k a b = some ((Nat.gcd a.natAbs b.natAbs : Nat) : Int) := by
  unfold safeint_Gcd.f
  rw [rsize_nat ha, Option.bind_some, rsize_nat hb, Option.bind_some]
  exact rgcd_l0 _ _ _ hk

/-- What the program lays down for n/d. -/
def lowest (u v : Nat) (minus : Bool) : Int × Int × Int :=
  if 9223372036854775807 < v ∨ (9223372036854775807 < u ∧ minus = false) then (0, 0, 10) else (if minus then -(u : Int) else u, v, 0)
theorem j0_low (u v : Nat) (minus : Bool) (k : Nat) (hu : u ≤ 9223372036854775808) (hv : v ≤ 9223372036854775808) : safeint_NewRatio.j0 (k + 2) u v minus = some (lowest u v minus) := by
  have e1 : minus = true → u ≤ 9223372036854775808 → wrap64 (IntKind.u64.wrap (-(u : Int))) = -(u : Int) := fun _ h => by rw [wu64]; unfold wrap64; omega
  have e2 : u ≤ 9223372036854775807 → wrap64 (u : Int) = u := fun h => by unfold wrap64; omega
  have e3 : v ≤ 9223372036854775807 → wrap64 (v : Int) = v := fun h => by unfold wrap64; omega
  unfold lowest
  rw [safeint_NewRatio.j0]
  by_cases c1 : (v : Int) > 9223372036854775807
  · rw [if_pos c1, if_pos (Or.inl (by omega)), safeint_NewRatio.j1, if_pos rfl]
  · rw [if_neg c1]
    by_cases c2 : (u : Int) > 9223372036854775807
    · rw [if_pos c2]
      cases minus with
      | true =>
        have hue : u = 9223372036854775808 := by omega
        rw [if_pos rfl, if_pos rfl, safeint_NewRatio.j1, if_neg (by rw [hue]; decide), if_pos rfl, e1 rfl hu, e3 (by omega), if_neg (by simp; omega)]
      | false => rw [if_neg (by decide), safeint_NewRatio.j1, if_pos (by decide), if_pos (Or.inr ⟨by omega, rfl⟩)]
    · rw [if_neg c2, safeint_NewRatio.j1, if_neg (by decide), if_neg (show ¬ (9223372036854775807 < v ∨ 9223372036854775807 < u ∧ minus = false) from by omega)]
      cases minus with
      | true => rw [if_pos rfl, if_pos rfl, e1 rfl hu, e3 (by omega)]
      | false => rw [if_neg (by decide), if_neg (by decide), e2 (by omega), e3 (by omega)]
/-- The sign of n/d. -/
def minusOf (n d : Int) : Bool := if ((decide (n < 0)) != (decide (d < 0))) = true then (n != 0) else false
theorem natAbs_le {n : Int} (h : I64 n) : n.natAbs ≤ 9223372036854775808 := by unfold I64 at h; omega
theorem ratio_f {n d : Int} (hn : I64 n) (hd : I64 d) (h0 : d ≠ 0) (k : Nat) (hk : d.natAbs + 3 < k) :
    safeint_NewRatio.f k n d = some (lowest (n.natAbs / Nat.gcd n.natAbs d.natAbs) (d.natAbs / Nat.gcd n.natAbs d.natAbs) (minusOf n d)) := by
  have hg : Nat.gcd n.natAbs d.natAbs ≠ 0 := fun h => by have := Nat.eq_zero_of_gcd_eq_zero_right h; omega
  have q : ∀ x : Nat, x ≤ 9223372036854775808 → x / Nat.gcd n.natAbs d.natAbs ≤ 9223372036854775808 := fun x hx => Nat.le_trans (Nat.div_le_self _ _) hx
  have w : ∀ x : Nat, x ≤ 9223372036854775808 → IntKind.u64.wrap (Int.tdiv (x : Int) ((Nat.gcd n.natAbs d.natAbs : Nat) : Int)) = ((x / Nat.gcd n.natAbs d.natAbs : Nat) : Int) := fun x hx => by
    rw [show Int.tdiv (x : Int) ((Nat.gcd n.natAbs d.natAbs : Nat) : Int) = ((x / Nat.gcd n.natAbs d.natAbs : Nat) : Int) from (Int.ofNat_tdiv ..).symm, wu64]
    have := q x hx
    generalize x / Nat.gcd n.natAbs d.natAbs = y at *
    exact Int.emod_eq_of_lt (by omega) (by omega)
  unfold safeint_NewRatio.f minusOf
  rw [if_neg h0, rgcd_f hn hd k (by omega), Option.bind_some, rsize_nat hn, Option.bind_some, if_neg (by omega), rsize_nat hd, Option.bind_some, w _ (natAbs_le hn), w _ (natAbs_le hd)]
  obtain ⟨k, rfl⟩ : ∃ m, k = m + 2 := ⟨k - 2, by omega⟩
  split
  · exact j0_low _ _ _ k (q _ (natAbs_le hn)) (q _ (natAbs_le hd))
  · exact j0_low _ _ _ k (q _ (natAbs_le hn)) (q _ (natAbs_le hd))


/-- A small fraction in lowest terms. -/
theorem ratio_small {s n : Int} (h0 : -4611686018427387904 ≤ s) (h1 : s ≤ 4611686018427387904) (n0 : 0 < n) (n1 : n ≤ 1048576) : ∃ p q : Int, Evl (fun k => safeint_NewRatio.f k s n) (p, q, 0) ∧ 0 < q ∧ q ≤ n ∧ p * n = s * q ∧ -4611686018427387904 ≤ p ∧ p ≤ 4611686018427387904 ∧ Evl (fun k => safeint_Gcd.f k p q) 1 := by
  have hs : I64 s := ⟨by omega, by omega⟩
  have hn : I64 n := ⟨by omega, by omega⟩
  obtain ⟨g, hg⟩ : ∃ g, Nat.gcd s.natAbs n.natAbs = g := ⟨_, rfl⟩
  have gp : 0 < g := by rw [← hg]; exact Nat.gcd_pos_of_pos_right _ (by omega)
  obtain ⟨u, hu⟩ : g ∣ s.natAbs := by rw [← hg]; exact Nat.gcd_dvd_left _ _
  obtain ⟨v, hv⟩ : g ∣ n.natAbs := by rw [← hg]; exact Nat.gcd_dvd_right _ _
  have du : s.natAbs / g = u := by rw [hu]; exact Nat.mul_div_cancel_left _ gp
  have dv : n.natAbs / g = v := by rw [hv]; exact Nat.mul_div_cancel_left _ gp
  have ule : u ≤ s.natAbs := by rw [← du]; exact Nat.div_le_self _ _
  have vle : v ≤ n.natAbs := by rw [← dv]; exact Nat.div_le_self _ _
  have vp : 0 < v := by
    rcases Nat.eq_zero_or_pos v with h | h
    · rw [h, Nat.mul_zero] at hv; omega
    · exact h
  have cop : Nat.gcd u v = 1 := by
    have := Nat.coprime_div_gcd_div_gcd (m := s.natAbs) (n := n.natAbs) (by rw [hg]; exact gp)
    rw [hg, du, dv] at this; exact this
  have hr : Evl (fun k => safeint_NewRatio.f k s n) (lowest u v (minusOf s n)) := ⟨n.natAbs + 4, fun k hk => by show safeint_NewRatio.f k s n = _; rw [ratio_f hs hn (by omega) k (by omega), hg, du, dv]⟩
  have low : lowest u v (minusOf s n) = (if minusOf s n then -(u : Int) else u, (v : Int), 0) := by
    unfold lowest; rw [if_neg (by omega)]
  rw [low] at hr
  have hn' : n = (g : Int) * v := by have : (n.natAbs : Int) = ((g * v : Nat) : Int) := by rw [hv]
                                     rw [Int.natCast_mul] at this; omega
  have hs' : (s.natAbs : Int) = (g : Int) * u := by rw [hu, Int.natCast_mul]
  have hm : minusOf s n = decide (s < 0) := by
    unfold minusOf
    rw [decide_eq_false (show ¬ n < 0 by omega)]
    by_cases c : s < 0
    · rw [decide_eq_true c, if_pos (by decide)]; exact bne_iff_ne.mpr (by omega)
    · rw [decide_eq_false c, if_neg (by decide)]
  refine ⟨if minusOf s n then -(u : Int) else u, v, hr, by omega, by omega, ?_, ?_, ?_, ?_⟩
  · rw [hm]
    by_cases c : s < 0
    · rw [decide_eq_true c, if_pos rfl, hn', show s = -((g : Int) * u) by omega]; simp only [Int.neg_mul]; congr 1; rw [← Int.mul_assoc, Int.mul_comm (u : Int) g]
    · rw [decide_eq_false c, if_neg (by decide), hn', show s = (g : Int) * u by omega, ← Int.mul_assoc, Int.mul_comm (u : Int) g]
  · split <;> omega
  · split <;> omega
  · refine ⟨v + 1, fun k hk => ?_⟩
    show safeint_Gcd.f k _ _ = _
    rw [rgcd_f (by unfold I64; split <;> omega) (by unfold I64; omega) k (by omega)]
    have : (if minusOf s n = true then -(u : Int) else u).natAbs = u := by split <;> omega
    rw [this, show ((v : Int)).natAbs = v by omega, cop]; rfl

theorem tmod_next {k len : Int} (h0 : 0 ≤ k) (h1 : k < len) : Int.tmod (k + 1) len = if k + 1 < len then k + 1 else 0 := by
  rw [Int.tmod_eq_emod_of_nonneg (by omega)]
  by_cases h : k + 1 < len
  · rw [if_pos h, Int.emod_eq_of_lt (by omega) h]
  · rw [if_neg h, show k + 1 = len by omega, Int.emod_self]
/-- The next place of a ring. -/
def nx (len k : Int) : Int := if k + 1 < len then k + 1 else 0
theorem nx_in {len k : Int} (h0 : 0 ≤ k) (h1 : k < len) : 0 ≤ nx len k ∧ nx len k < len := by unfold nx; split <;> omega
/-- What is asked of one place of a ring. -/
structure Link (E : List S98) (l : List Int) (k : Int) : Prop where
  a0 : 0 ≤ rd l k
  a1 : rd l k < (E.length : Int)
  b0 : 0 ≤ rd l (nx l.length k)
  b1 : rd l (nx l.length k) < (E.length : Int)
  on : (rd_T98 E (rd l k)).f1 = (rd_T98 E (rd l (nx l.length k))).f0
/-- These edges make a circle. -/
structure Ring (E : List S98) (l : List Int) : Prop where
  pos : 0 < (l.length : Int)
  ok : ∀ k : Int, 0 ≤ k → k < (l.length : Int) → Link E l k
  once : ∀ j k : Int, 0 ≤ j → j < k → k < (l.length : Int) → (rd_T98 E (rd l j)).f1 ≠ (rd_T98 E (rd l k)).f1
/-- What the first edges of a ring cost. -/
def csum (E : List S98) (l : List Int) : Nat → Int
  | 0 => 0
  | k + 1 => csum E l k + (rd_T98 E (rd l k)).f3
theorem csum_le {n : Int} {E : List S98} (R : Right n E) {l : List Int} {m : Nat} (h : ∀ k : Int, 0 ≤ k → k < (m : Int) → 0 ≤ rd l k ∧ rd l k < (E.length : Int)) : ∀ k : Nat, k ≤ m → -(k * 1048576 : Int) ≤ csum E l k ∧ csum E l k ≤ (k * 1048576 : Int) := by
  intro k
  induction k with
  | zero => intro _; simp [csum]
  | succ k ih =>
    intro hk
    have a := ih (by omega)
    obtain ⟨x0, x1⟩ := h k (by omega) (by omega)
    have e := R.e _ x0 x1
    have d0 := e.d0
    have d1 := e.d1
    simp only [csum]; push_cast; omega

/-- What follows the program's rounds over the circle. -/
def mean_tail (k : Nat) (n : Int) (E : List S98) (P : List Int) (len c : Int) : Option (Int × Int × Int) := (proof_reduced.f k n E P len).bind fun bt250 => (if bt250.1 = 0 then (proof_Mean_1.l1 k len c bt250.2 (bt250.2.length : Int) 0 0 0) else (some (bt250.1, 0, 0)))

theorem ring_loop {n : Int} {E : List S98} (R : Right n E) {l P : List Int} (pos : 0 < (l.length : Int)) (hl : (l.length : Int) ≤ 4096) (d : Nat) : ∀ (k : Nat) (B : List Bool), k + d = l.length → (B.length : Int) = n →
    (∀ v : Int, 0 ≤ v → v < n → (rdOf false B v = true ↔ ∃ j : Int, 0 ≤ j ∧ j < (k : Int) ∧ (rd_T98 E (rd l j)).f1 = v)) → (∀ j : Int, 0 ≤ j → j < (k : Int) → Link E l j) → (∀ i j : Int, 0 ≤ i → i < j → j < (k : Int) → (rd_T98 E (rd l i)).f1 ≠ (rd_T98 E (rd l j)).f1) →
    ∃ b : Bool, Evl (fun q => compassref04_Circle.l0 q l B k n E) b ∧ (b = true ↔ Ring E l) ∧ (b = false → Evl (fun q => proof_Mean_1.l0 q l.length B (csum E l k) l l.length k n E l P 0 0) (221, 0, 0)) ∧
      (b = true → ∀ r, Evl (fun q => mean_tail q n E P l.length (csum E l l.length)) r → Evl (fun q => proof_Mean_1.l0 q l.length B (csum E l k) l l.length k n E l P 0 0) r) := by
  induction d with
  | zero =>
    intro k B hk hB hb hL hO
    have e : k = l.length := by omega
    subst e
    refine ⟨true, Evl.here fun q => by rw [compassref04_Circle.l0, if_neg (by omega)], ⟨fun _ => ⟨pos, fun j a b => hL j a b, fun i j a b c => hO i j a b c⟩, fun _ => rfl⟩, fun h => (by cases h), fun _ r H => H.step fun q => ?_⟩
    rw [proof_Mean_1.l0, if_neg (by omega)]; rfl
  | succ d ih =>
    intro k B hk hB hb hL hO
    have g : (k : Int) < (l.length : Int) := by omega
    have w : wrap64 ((k : Int) + 1) = ((k + 1 : Nat) : Int) := by rw [w1 (by omega) (by omega)]; rfl
    have wt : Int.tmod (wrap64 ((k : Int) + 1)) (l.length : Int) = nx l.length k := by rw [w1 (by omega) (by omega), tmod_next (by omega) g]; rfl
    obtain ⟨x0, x1⟩ := nx_in (len := (l.length : Int)) (k := (k : Int)) (by omega) g
    -- the program, up to the test that falls
    have no : ¬ Ring E l → (∀ q, compassref04_Circle.l0 (q + 2) l B k n E = some false) → (∀ q, proof_Mean_1.l0 (q + 1) l.length B (csum E l k) l l.length k n E l P 0 0 = some (221, 0, 0)) →
        ∃ b : Bool, Evl (fun q => compassref04_Circle.l0 q l B k n E) b ∧ (b = true ↔ Ring E l) ∧ (b = false → Evl (fun q => proof_Mean_1.l0 q l.length B (csum E l k) l l.length k n E l P 0 0) (221, 0, 0)) ∧
          (b = true → ∀ r, Evl (fun q => mean_tail q n E P l.length (csum E l l.length)) r → Evl (fun q => proof_Mean_1.l0 q l.length B (csum E l k) l l.length k n E l P 0 0) r) := fun hn h1 h2 =>
      ⟨false, Evl.step (h := fun q => compassref04_Circle.l0 (q + 1) l B k n E) (Evl.here fun q => h1 q) fun q => rfl, ⟨fun h => (by cases h), fun h => absurd h hn⟩, fun _ => Evl.here fun q => h2 q, fun h => (by cases h)⟩
    by_cases c1 : rd l k ≥ 0
    · by_cases c2 : rd l k < (E.length : Int)
      · by_cases c3 : rd l (nx l.length k) ≥ 0
        · by_cases c4 : rd l (nx l.length k) < (E.length : Int)
          · have e := R.e _ c1 c2
            have t0 := e.b0
            have t1 : (rd_T98 E (rd l k)).f1 < (B.length : Int) := by rw [hB]; exact e.b1
            by_cases c5 : (rd_T98 E (rd l k)).f1 = (rd_T98 E (rd l (nx l.length k))).f0
            · by_cases c6 : rdOf false B (rd_T98 E (rd l k)).f1 = true
              · refine no (fun h => ?_) (fun q => ?_) (fun q => ?_)
                · obtain ⟨j, j0, j1, ej⟩ := (hb _ t0 e.b1).1 c6
                  exact h.once j k j0 j1 g ej
                · rw [compassref04_Circle.l0, if_pos g, if_pos (by omega), if_neg (by omega), decide_eq_false (by omega), compassref04_Circle.j2, if_neg (by simp), if_neg (by omega), wt, if_pos x0, if_pos x1, if_neg (by omega), if_neg (by omega), if_pos (by omega), if_pos g, if_pos c1, if_pos c2, if_pos c3, if_pos c4, if_pos c5, if_pos t0, if_pos t1, if_pos c6]
                · rw [proof_Mean_1.l0, if_pos g, if_pos (by omega), if_pos g, if_neg (by omega), wt, if_pos x0, if_pos x1, if_pos c1, if_pos c2, if_pos c3, if_pos c4, if_pos c1, if_pos c3, if_pos c5, if_pos t0, if_pos t1, if_pos c6]
              · have rv : ∀ v : Int, 0 ≤ v → v < n → (rdOf false (B.set (rd_T98 E (rd l k)).f1.toNat true) v = true ↔ ∃ j : Int, 0 ≤ j ∧ j < ((k + 1 : Nat) : Int) ∧ (rd_T98 E (rd l j)).f1 = v) := fun v v0 v1 => by
                  rw [rdOf_set _ _ _ _ _ t0 t1 v0]
                  by_cases q : v = (rd_T98 E (rd l k)).f1
                  · rw [if_pos q]; exact ⟨fun _ => ⟨k, by omega, by omega, q.symm⟩, fun _ => rfl⟩
                  · rw [if_neg q, hb v v0 v1]
                    constructor
                    · rintro ⟨j, a, b, c⟩; exact ⟨j, a, by omega, c⟩
                    · rintro ⟨j, a, b, c⟩
                      by_cases t : j = k
                      · rw [t] at c; exact absurd c.symm q
                      · exact ⟨j, a, by omega, c⟩
                have link : Link E l k := ⟨c1, c2, c3, c4, c5⟩
                obtain ⟨b, e1, e2, e3, e4⟩ := ih (k + 1) (B.set (rd_T98 E (rd l k)).f1.toNat true) (by omega) (by rw [List.length_set]; exact hB) rv (fun j a b => by
                  by_cases t : j = k
                  · rw [t]; exact link
                  · exact hL j a (by omega)) (fun i j a b c => by
                  by_cases t : j = k
                  · rw [t]; intro h
                    exact c6 ((hb _ t0 e.b1).2 ⟨i, a, by omega, h⟩)
                  · exact hO i j a b (by omega))
                have cl := csum_le R (l := l) (m := k) (fun j a b => ⟨(hL j a b).a0, (hL j a b).a1⟩) k (Nat.le_refl _)
                have d0 := e.d0
                have d1 := e.d1
                have wc : wrap64 (csum E l k + (rd_T98 E (rd l k)).f3) = csum E l (k + 1) := by rw [wr (by omega) (by omega)]; rfl
                have ps : ∀ q, proof_Mean_1.l0 (q + 1) l.length B (csum E l k) l l.length k n E l P 0 0 = proof_Mean_1.l0 q l.length (B.set (rd_T98 E (rd l k)).f1.toNat true) (csum E l (k + 1)) l l.length ((k + 1 : Nat) : Int) n E l P 0 0 := fun q => by
                  rw [proof_Mean_1.l0, if_pos g, if_pos (by omega), if_pos g, if_neg (by omega), wt, if_pos x0, if_pos x1, if_pos c1, if_pos c2, if_pos c3, if_pos c4, if_pos c1, if_pos c3, if_pos c5, if_pos t0, if_pos t1, if_neg c6, wc, w]
                refine ⟨b, Evl.step (h := fun q => compassref04_Circle.j2 q l B k false n E) (e1.step fun q => ?_) fun q => ?_, e2, fun h => (e3 h).step fun q => ps q, fun h r H => (e4 h r H).step fun q => ps q⟩
                · rw [compassref04_Circle.j2, if_neg (by simp), if_neg (by omega), wt, if_pos x0, if_pos x1, if_neg (by omega), if_neg (by omega), if_pos (by omega), if_pos g, if_pos c1, if_pos c2, if_pos c3, if_pos c4, if_pos c5, if_pos t0, if_pos t1, if_neg c6, w]
                · rw [compassref04_Circle.l0, if_pos g, if_pos (by omega), if_neg (by omega), decide_eq_false (by omega)]
            · refine no (fun h => c5 (h.ok k (by omega) g).on) (fun q => ?_) (fun q => ?_)
              · rw [compassref04_Circle.l0, if_pos g, if_pos (by omega), if_neg (by omega), decide_eq_false (by omega), compassref04_Circle.j2, if_neg (by simp), if_neg (by omega), wt, if_pos x0, if_pos x1, if_neg (by omega), if_neg (by omega), if_pos (by omega), if_pos g, if_pos c1, if_pos c2, if_pos c3, if_pos c4, if_neg c5]
              · rw [proof_Mean_1.l0, if_pos g, if_pos (by omega), if_pos g, if_neg (by omega), wt, if_pos x0, if_pos x1, if_pos c1, if_pos c2, if_pos c3, if_pos c4, if_pos c1, if_pos c3, if_neg c5]
          · refine no (fun h => c4 (h.ok k (by omega) g).b1) (fun q => ?_) (fun q => ?_)
            · rw [compassref04_Circle.l0, if_pos g, if_pos (by omega), if_neg (by omega), decide_eq_false (by omega), compassref04_Circle.j2, if_neg (by simp), if_neg (by omega), wt, if_pos x0, if_pos x1, if_neg (by omega), if_pos (by omega)]
            · rw [proof_Mean_1.l0, if_pos g, if_pos (by omega), if_pos g, if_neg (by omega), wt, if_pos x0, if_pos x1, if_pos c1, if_pos c2, if_pos c3, if_neg c4]
        · refine no (fun h => c3 (h.ok k (by omega) g).b0) (fun q => ?_) (fun q => ?_)
          · rw [compassref04_Circle.l0, if_pos g, if_pos (by omega), if_neg (by omega), decide_eq_false (by omega), compassref04_Circle.j2, if_neg (by simp), if_neg (by omega), wt, if_pos x0, if_pos x1, if_pos (by omega)]
          · rw [proof_Mean_1.l0, if_pos g, if_pos (by omega), if_pos g, if_neg (by omega), wt, if_pos x0, if_pos x1, if_pos c1, if_pos c2, if_neg c3]
      · refine no (fun h => c2 (h.ok k (by omega) g).a1) (fun q => ?_) (fun q => ?_)
        · rw [compassref04_Circle.l0, if_pos g, if_pos (by omega), if_neg (by omega), decide_eq_true (by omega), compassref04_Circle.j2, if_pos rfl]
        · rw [proof_Mean_1.l0, if_pos g, if_pos (by omega), if_pos g, if_neg (by omega), wt, if_pos x0, if_pos x1, if_pos c1, if_neg c2]
    · refine no (fun h => c1 (h.ok k (by omega) g).a0) (fun q => ?_) (fun q => ?_)
      · rw [compassref04_Circle.l0, if_pos g, if_pos (by omega), if_pos (by omega), compassref04_Circle.j2, if_pos rfl]
      · rw [proof_Mean_1.l0, if_pos g, if_pos (by omega), if_pos g, if_neg (by omega), wt, if_pos x0, if_pos x1, if_neg c1]
end Go.Proofs.Ytkdoihcjhccliaa.G
namespace Go.Proofs.Ytkdoihcjhccliaa.G
open Go.RowKit Go.Proofs.Ytkdoihcjhccliaa.Q Go.Proofs.YtkdoihcjhccliaaW.PrintWords Go.Proofs.YtkdoihcjhccliaaW.PrintLast
set_option linter.unusedVariables false

theorem sub_len : ∀ (l m : List Int), l.Nodup → (∀ x ∈ l, x ∈ m) → l.length ≤ m.length := by
  intro l
  induction l with
  | nil => intro m _ _; exact Nat.zero_le _
  | cons a t ih =>
    intro m h hs
    obtain ⟨ha, ht⟩ := List.nodup_cons.mp h
    have hm : a ∈ m := hs a (by simp)
    have := ih (m.erase a) ht (fun x hx => (List.mem_erase_of_ne (fun e => ha (by rw [← e]; exact hx))).mpr (hs x (by simp [hx])))
    rw [List.length_erase_of_mem hm] at this
    have := List.length_pos_of_mem hm
    rw [List.length_cons]; omega
theorem nodup_len (m : Nat) : ∀ l : List Int, l.Nodup → (∀ x ∈ l, 0 ≤ x ∧ x < (m : Int)) → l.length ≤ m := by
  induction m with
  | zero =>
    intro l _ h
    cases l with
    | nil => exact Nat.le_refl _
    | cons a t => have := h a (by simp); omega
  | succ m ih =>
    intro l hl h
    have := ih (l.erase (m : Int)) (hl.erase _) (fun x hx => by
      rw [hl.mem_erase_iff] at hx
      have := h x hx.2
      have := hx.1
      omega)
    rw [List.length_erase] at this
    split at this <;> omega
theorem nodup_rd {l : List Int} {f : Int → Int} (h : ∀ i j : Int, 0 ≤ i → i < j → j < (l.length : Int) → f (rd l i) ≠ f (rd l j)) : (l.map f).Nodup := by
  rw [List.Nodup, List.pairwise_iff_getElem]
  intro i j hi hj hij
  rw [List.length_map] at hi hj
  rw [List.getElem_map, List.getElem_map]
  have := h (i : Int) (j : Int) (by omega) (by omega) (by omega)
  unfold rd at this
  rw [List.getD_eq_getElem?_getD, List.getD_eq_getElem?_getD, show ((i : Int)).toNat = i by omega, show ((j : Int)).toNat = j by omega, List.getElem?_eq_getElem hi, List.getElem?_eq_getElem hj] at this
  exact this
theorem Ring.le_nodes {n : Int} {E : List S98} (R : Right n E) {l : List Int} (h : Ring E l) : (l.length : Int) ≤ n := by
  have n0 := R.n0
  have := nodup_len n.toNat (l.map fun i => (rd_T98 E i).f1) (nodup_rd h.once) (fun x hx => by
    obtain ⟨y, hy, rfl⟩ := List.mem_map.1 hx
    obtain ⟨j, j0, j1, rfl⟩ := mem_rd hy
    have e := R.e _ (h.ok j j0 j1).a0 (h.ok j j0 j1).a1
    have b1 := e.b1
    exact ⟨e.b0, by omega⟩)
  rw [List.length_map] at this
  omega
theorem Ring.le_edges {E : List S98} {l : List Int} (h : Ring E l) : (l.length : Int) ≤ (E.length : Int) := by
  have := nodup_len E.length (l.map id) (nodup_rd (f := id) fun i j i0 ij j1 q => h.once i j i0 ij j1 (by simp only [id] at q; rw [q])) (fun x hx => by
    rw [List.map_id] at hx
    obtain ⟨j, j0, j1, rfl⟩ := mem_rd hx
    exact ⟨(h.ok j j0 j1).a0, (h.ok j j0 j1).a1⟩)
  rw [List.length_map] at this
  omega

theorem cost_f {n : Int} {E : List S98} (R : Right n E) {l : List Int} (hl : (l.length : Int) ≤ 4096) (h : ∀ k : Int, 0 ≤ k → k < (l.length : Int) → 0 ≤ rd l k ∧ rd l k < (E.length : Int)) : Evl (fun k => compassref08_Cost.f k n E l) (csum E l l.length) := by
  have loop : ∀ (d k : Nat), k + d = l.length → Evl (fun q => compassref08_Cost.l0 q l (csum E l k) k n E) (csum E l l.length) := by
    intro d
    induction d with
    | zero => intro k hk; exact Evl.here fun q => by rw [compassref08_Cost.l0, if_neg (by omega), show k = l.length by omega]
    | succ d ih =>
      intro k hk
      have w : wrap64 ((k : Int) + 1) = ((k + 1 : Nat) : Int) := by rw [w1 (by omega) (by omega)]; rfl
      obtain ⟨x0, x1⟩ := h k (by omega) (by omega)
      have cl := csum_le R (l := l) h k (by omega)
      have e := R.e _ x0 x1
      have d0 := e.d0
      have d1 := e.d1
      have wc : wrap64 (csum E l k + (rd_T98 E (rd l k)).f3) = csum E l (k + 1) := by rw [wr (by omega) (by omega)]; rfl
      exact (ih (k + 1) (by omega)).step fun q => by rw [compassref08_Cost.l0, if_pos (by omega), if_pos (by omega), if_pos x0, if_pos x1, wc, w]
  exact (loop l.length 0 (by omega)).congr fun k => rfl

/-- The document's Circle. -/
theorem circle_f {n : Int} {E : List S98} (R : Right n E) (l : List Int) : ∃ b : Bool, Evl (fun q => compassref04_Circle.f q n E l) b ∧ (b = true ↔ Ring E l) := by
  have n0 := R.n0
  have n1 := R.n1
  have m1 := R.m1
  have no : Evl (fun q => compassref04_Circle.j0 q l true n E) false := Evl.here fun q => by rw [compassref04_Circle.j0, if_pos rfl]
  by_cases h0 : (l.length : Int) = 0
  · exact ⟨false, no.congr fun q => by rw [compassref04_Circle.f, if_pos h0], fun h => (by cases h), fun h => absurd h.pos (by omega)⟩
  · by_cases h1 : (l.length : Int) > (E.length : Int)
    · exact ⟨false, no.congr fun q => by rw [compassref04_Circle.f, if_neg h0, decide_eq_true h1], fun h => (by cases h), fun h => absurd h.le_edges (by omega)⟩
    · obtain ⟨b, e1, e2, -, -⟩ := ring_loop R (l := l) (P := []) (by omega) (by omega) l.length 0 (List.replicate n.toNat false) (by omega) (by rw [List.length_replicate]; omega) (fun v v0 v1 => by
        rw [rdOf_replicate _ _ _ _ v0 (by omega)]
        exact ⟨fun h => (by cases h), fun ⟨j, a, b, _⟩ => by omega⟩) (fun j a b => by omega) (fun i j a b c => by omega)
      exact ⟨b, (e1.step (g := fun q => compassref04_Circle.j0 q l false n E) fun q => by rw [compassref04_Circle.j0, if_neg (by simp), if_pos n0, if_pos (by omega)]; rfl).congr fun q => by rw [compassref04_Circle.f, if_neg h0, decide_eq_false h1], e2⟩

/-- Potentials prove a mean least. -/
def Fine (E : List S98) (P : List Int) (len c : Int) : Prop := ∀ i : Int, 0 ≤ i → i < (E.length : Int) → c ≤ red P len (rd_T98 E i)

theorem mean_l1 {E : List S98} {P C : List Int} {len c : Int} (hm : (E.length : Int) ≤ 4096) (hC : C.length = E.length) (hr : ∀ j : Int, 0 ≤ j → j < (E.length : Int) → rd C j = red P len (rd_T98 E j)) {p q : Int} (hq : Evl (fun k => safeint_NewRatio.f k c len) (p, q, 0)) (d : Nat) : ∀ i : Nat, i + d = E.length →
    (∀ j : Int, 0 ≤ j → j < (i : Int) → c ≤ red P len (rd_T98 E j)) →
    ∃ r : Int × Int × Int, Evl (fun k => proof_Mean_1.l1 k len c C C.length i 0 0) r ∧ (Fine E P len c → r = (0, p, q)) ∧ (¬ Fine E P len c → r = (221, 0, 0)) := by
  induction d with
  | zero =>
    intro i hi hP
    have t : Fine E P len c := fun j a b => hP j a (by omega)
    exact ⟨_, (Evl.bind (h := fun k bt255 => some ((0 : Int), bt255.1, bt255.2.1)) hq Evl.pure).step fun k => by rw [proof_Mean_1.l1, if_neg (by omega)], fun _ => rfl, fun h => absurd t h⟩
  | succ d ih =>
    intro i hi hP
    have w : wrap64 ((i : Int) + 1) = ((i + 1 : Nat) : Int) := by rw [w1 (by omega) (by omega)]; rfl
    have g : (i : Int) < (E.length : Int) := by omega
    have hi2 := hr i (by omega) g
    by_cases ok : red P len (rd_T98 E i) ≥ c
    · obtain ⟨r, e1, e2⟩ := ih (i + 1) (by omega) (fun j j0 j1 => by
        by_cases t : j = i
        · rw [t]; exact ok
        · exact hP j j0 (by omega))
      exact ⟨r, e1.step fun k => by rw [proof_Mean_1.l1, if_pos (by omega), if_pos (by omega), if_pos (by omega), hi2, if_pos ok, w], e2⟩
    · exact ⟨(221, 0, 0), Evl.here fun k => by rw [proof_Mean_1.l1, if_pos (by omega), if_pos (by omega), if_pos (by omega), hi2, if_neg ok], fun h => absurd (h i (by omega) g) ok, fun _ => rfl⟩
theorem mean_d0 {n : Int} {E : List S98} (R : Right n E) {P : List Int} (hp : Pots n P) {len c : Int} (l0 : 0 ≤ len) (l1 : len ≤ 4096) (c0 : -1099511627776 ≤ c) (c1 : c ≤ 1099511627776) (d : Nat) : ∀ i : Nat, i + d = E.length →
    (∀ j : Int, 0 ≤ j → j < (i : Int) → c ≤ red P len (rd_T98 E j)) →
    ∃ r : Int × Int × Int, Evl (fun k => compassref11_Mean.l0 k P c len i n E) r ∧ (Fine E P len c → r = (c, len, 0)) ∧ (¬ Fine E P len c → r = (0, 0, 221)) := by
  have hm := R.m1
  obtain ⟨hl, hpp⟩ := hp
  induction d with
  | zero =>
    intro i hi hP
    have t : Fine E P len c := fun j a b => hP j a (by omega)
    exact ⟨_, Evl.here fun k => by rw [compassref11_Mean.l0, if_neg (by omega)], fun _ => rfl, fun h => absurd t h⟩
  | succ d ih =>
    intro i hi hP
    have w : wrap64 ((i : Int) + 1) = ((i + 1 : Nat) : Int) := by rw [w1 (by omega) (by omega)]; rfl
    have g : (i : Int) < (E.length : Int) := by omega
    obtain ⟨a0, a1, b0, b1, -, -, d0, d1⟩ := R.e i (by omega) g
    have p0 := hpp _ a0 a1
    have p1 := hpp _ b0 b1
    have m0 : -4294967296 ≤ len * (rd_T98 E i).f3 := by
      have a := Int.mul_le_mul_of_nonneg_left d0 l0
      omega
    have m1 : len * (rd_T98 E i).f3 ≤ 4294967296 := by
      have a := Int.mul_le_mul_of_nonneg_left d1 l0
      omega
    have z : wrap64 ((wrap64 ((wrap64 (len * ((rd_T98 E i).f3))) - c)) + (rd P ((rd_T98 E i).f0))) = len * (rd_T98 E i).f3 - c + rd P (rd_T98 E i).f0 := by
      rw [wr (x := len * (rd_T98 E i).f3) (by omega) (by omega), wr (x := len * (rd_T98 E i).f3 - c) (by omega) (by omega), wr (by omega) (by omega)]
    by_cases ok : red P len (rd_T98 E i) ≥ c
    · obtain ⟨r, e1, e2⟩ := ih (i + 1) (by omega) (fun j j0 j1 => by
        by_cases t : j = i
        · rw [t]; exact ok
        · exact hP j j0 (by omega))
      refine ⟨r, e1.step fun k => ?_, e2⟩
      unfold red at ok
      rw [compassref11_Mean.l0, if_pos g, if_pos (by omega), if_pos a0, if_pos (by omega), if_pos b0, if_pos (by omega), z, if_neg (by omega), w]
    · refine ⟨(0, 0, 221), Evl.here fun k => ?_, fun h => absurd (h i (by omega) g) ok, fun _ => rfl⟩
      unfold red at ok
      rw [compassref11_Mean.l0, if_pos g, if_pos (by omega), if_pos a0, if_pos (by omega), if_pos b0, if_pos (by omega), z, if_pos (by omega)]

theorem mean_f (n : Int) (E : List S98) (l P : List Int) : ∃ p q e s c : Int, Evl (fun k => proof_Mean.f k n E l P) (p, q, e) ∧ Evl (fun k => compassref11_Mean.f k n E l P) (s, c, e) ∧
    (e ≠ 0 → p = 0 ∧ q = 0) ∧ (e = 0 → Right n E ∧ Ring E l ∧ Pots n P ∧ Fine E P l.length (csum E l l.length) ∧ s = csum E l l.length ∧ c = l.length ∧ 0 < q ∧ q ≤ c ∧ p * c = s * q ∧ -4611686018427387904 ≤ p ∧ p ≤ 4611686018427387904 ∧ Evl (fun k => safeint_Gcd.f k p q) 1) ∧
    (Right n E → Ring E l → Pots n P → Fine E P l.length (csum E l l.length) → e = 0) := by
  obtain ⟨x, a, g1, g2, g3, g4, g5⟩ := check_f n E
  have hr := right_f g1
  have prog : ∀ {r : Int × Int × Int}, Evl (fun k => proof_Mean_1.f k n E l P 0 0) r → Evl (fun k => proof_Mean.f k n E l P) (r.2.1, r.2.2, r.1) := fun h => (Evl.bind (h := fun k t => some (t.2.1, t.2.2, t.1)) h Evl.pure).congr fun k => rfl
  by_cases hc : x = 0
  · subst hc
    obtain ⟨rfl, R⟩ := g3 rfl
    have n0 := R.n0
    have n1 := R.n1
    have m1 := R.m1
    have start : ∀ {r : Int × Int × Int}, Evl (fun k => if (l.length : Int) > 0 then (if (l.length : Int) ≤ n then (if 0 ≤ n then (if (n : Int).toNat ≤ 281474976710656 then (proof_Mean_1.l0 k (l.length : Int) (List.replicate (n : Int).toNat false) 0 l (l.length : Int) 0 n E l P 0 0) else (none)) else (none)) else (some (221, 0, 0))) else (some (221, 0, 0))) r → Evl (fun k => proof_Mean_1.f k n E l P 0 0) r := fun h =>
      (Evl.bind (h := fun k u => if u = 0 then _ else some (u, (0 : Int), (0 : Int))) hr (h.congr fun k => by rw [if_pos rfl])).congr fun k => rfl
    obtain ⟨cb, c1, c2⟩ := circle_f R l
    obtain ⟨pb, p1, p2⟩ := pots_f E n0 n1 P
    have dno : Evl (fun k => compassref11_Mean.j0 k l P true n E) (0, 0, 221) := Evl.here fun k => by rw [compassref11_Mean.j0, if_pos rfl]
    have dstart : ∀ {r : Int × Int × Int}, Evl (fun k => if cb = true then ((compassref11_Pots.f k n E P).bind fun t433 => (compassref11_Mean.j0 k l P (!t433) n E)) else (compassref11_Mean.j0 k l P true n E)) r → Evl (fun k => compassref11_Mean.f k n E l P) r := fun h =>
      (Evl.bind (h := fun k bt430 => if bt430.1 = 0 then ((compassref04_Circle.f k n E l).bind fun t432 => (if t432 = true then ((compassref11_Pots.f k n E P).bind fun t433 => (compassref11_Mean.j0 k l P (!t433) n E)) else (compassref11_Mean.j0 k l P true n E))) else (some (0, 0, bt430.1))) g2 ((Evl.bind (h := fun k t432 => if t432 = true then ((compassref11_Pots.f k n E P).bind fun t433 => (compassref11_Mean.j0 k l P (!t433) n E)) else (compassref11_Mean.j0 k l P true n E)) c1 h).congr fun k => by rw [if_pos rfl])).congr fun k => rfl
    by_cases H : Ring E l
    · have ln := H.le_nodes R
      have pos := H.pos
      have rng : ∀ k : Int, 0 ≤ k → k < (l.length : Int) → 0 ≤ rd l k ∧ rd l k < (E.length : Int) := fun k a b => ⟨(H.ok k a b).a0, (H.ok k a b).a1⟩
      have cl := csum_le R (l := l) rng l.length (Nat.le_refl _)
      have ct := c2.2 H
      obtain ⟨b, e1, e2, -, e4⟩ := ring_loop R (l := l) (P := P) pos (by omega) l.length 0 (List.replicate n.toNat false) (by omega) (by rw [List.length_replicate]; omega) (fun v v0 v1 => by
        rw [rdOf_replicate _ _ _ _ v0 (by omega)]
        exact ⟨fun h => (by cases h), fun ⟨j, a, b, _⟩ => by omega⟩) (fun j a b => by omega) (fun i j a b c => by omega)
      have go : ∀ {r : Int × Int × Int}, Evl (fun q => (proof_reduced.f q n E P (l.length : Int)).bind fun bt250 => (if bt250.1 = 0 then (proof_Mean_1.l1 q (l.length : Int) (csum E l l.length) bt250.2 (bt250.2.length : Int) 0 0 0) else (some (bt250.1, 0, 0)))) r → Evl (fun k => proof_Mean_1.f k n E l P 0 0) r := fun {r} h => start ((e4 (e2.2 H) r (h.congr fun k => rfl)).congr fun k => by rw [if_pos (by omega), if_pos ln, if_pos n0, if_pos (by omega)]; rfl)
      have dgo : ∀ {r : Int × Int × Int}, Evl (fun k => compassref11_Mean.j0 k l P (!pb) n E) r → Evl (fun k => compassref11_Mean.f k n E l P) r := fun h => dstart ((Evl.bind (h := fun k t433 => compassref11_Mean.j0 k l P (!t433) n E) p1 h).congr fun k => by rw [if_pos ct])
      obtain ⟨cr, r1, r2, r3⟩ := reduced_f R P (q := (l.length : Int)) (by omega) (by omega)
      by_cases hp : Pots n P
      · have pt := p2.2 hp
        obtain ⟨k1, k2, k3⟩ := r2 hp
        obtain ⟨p, q, q1, q2, q3, q4, q5, q6, q7⟩ := ratio_small (s := csum E l l.length) (n := (l.length : Int)) (by omega) (by omega) pos (by omega)
        obtain ⟨r, f1, f2, f3⟩ := mean_l1 (E := E) (P := P) m1 k2 k3 q1 E.length 0 (by omega) (fun j a b => by omega)
        obtain ⟨r', d1, d2, d3⟩ := mean_d0 R hp (len := (l.length : Int)) (c := csum E l l.length) (by omega) (by omega) (by omega) (by omega) E.length 0 (by omega) (fun j a b => by omega)
        have pr := go (Evl.bind (h := fun k bt250 => if bt250.1 = 0 then (proof_Mean_1.l1 k (l.length : Int) (csum E l l.length) bt250.2 (bt250.2.length : Int) 0 0 0) else (some (bt250.1, 0, 0))) r1 (f1.congr fun k => by rw [if_pos k1]; rfl))
        have dr : Evl (fun k => compassref11_Mean.f k n E l P) r' := dgo ((Evl.step (g := fun k => compassref11_Mean.j0 k l P false n E) (Evl.bind (h := fun k t434 => compassref11_Mean.l0 k P t434 (l.length : Int) 0 n E) (cost_f R (by omega) rng) d1) fun k => by rw [compassref11_Mean.j0, if_neg (by simp)]).congr fun k => by rw [pt, Bool.not_true])
        by_cases F : Fine E P l.length (csum E l l.length)
        · have z1 := f2 F
          have z2 := d2 F
          subst z1 z2
          exact ⟨p, q, 0, _, _, prog pr, dr, fun h => absurd rfl h, fun _ => ⟨R, H, hp, F, rfl, rfl, q2, q3, q4, q5, q6, q7⟩, fun _ _ _ _ => rfl⟩
        · have z1 := f3 F
          have z2 := d3 F
          subst z1 z2
          exact ⟨0, 0, 221, 0, 0, prog pr, dr, fun _ => ⟨rfl, rfl⟩, fun h => (by cases h), fun _ _ _ h => absurd h F⟩
      · have pf : pb = false := by
          have : ¬ pb = true := fun h => hp (p2.1 h)
          simpa using this
        have k1 := r3 hp
        exact ⟨0, 0, 221, 0, 0, prog (r := (221, 0, 0)) (go (Evl.bind (h := fun k bt250 => if bt250.1 = 0 then (proof_Mean_1.l1 k (l.length : Int) (csum E l l.length) bt250.2 (bt250.2.length : Int) 0 0 0) else (some (bt250.1, 0, 0))) r1 (Evl.pure.congr fun k => by rw [k1, if_neg (by decide)]))), dgo (dno.congr fun k => by rw [pf, Bool.not_false]), fun _ => ⟨rfl, rfl⟩, fun h => (by cases h), fun _ _ h => absurd h hp⟩
    · have cf : ¬ cb = true := fun h => H (c2.1 h)
      have dr : Evl (fun k => compassref11_Mean.f k n E l P) (0, 0, 221) := dstart (dno.congr fun k => by rw [if_neg cf])
      have pr : Evl (fun k => proof_Mean_1.f k n E l P 0 0) (221, 0, 0) := by
        by_cases h0 : (l.length : Int) > 0
        · by_cases h1 : (l.length : Int) ≤ n
          · obtain ⟨b, e1, e2, e3, -⟩ := ring_loop R (l := l) (P := P) h0 (by omega) l.length 0 (List.replicate n.toNat false) (by omega) (by rw [List.length_replicate]; omega) (fun v v0 v1 => by
              rw [rdOf_replicate _ _ _ _ v0 (by omega)]
              exact ⟨fun h => (by cases h), fun ⟨j, a, b, _⟩ => by omega⟩) (fun j a b => by omega) (fun i j a b c => by omega)
            have bf : b = false := by
              have : ¬ b = true := fun h => H (e2.1 h)
              simpa using this
            exact start ((e3 bf).congr fun k => by rw [if_pos h0, if_pos h1, if_pos n0, if_pos (by omega)]; rfl)
          · exact start (Evl.pure.congr fun k => by rw [if_pos h0, if_neg h1])
        · exact start (Evl.pure.congr fun k => by rw [if_neg h0])
      exact ⟨0, 0, 221, 0, 0, prog pr, dr, fun _ => ⟨rfl, rfl⟩, fun h => (by cases h), fun _ h => absurd h H⟩
  · exact ⟨0, 0, x, 0, 0, prog (r := (x, 0, 0)) ((Evl.bind (h := fun k u => if u = 0 then _ else some (u, (0 : Int), (0 : Int))) hr (Evl.pure.congr fun k => by rw [if_neg hc])).congr fun k => rfl), (Evl.bind (h := fun k u => if u.1 = 0 then _ else some ((0 : Int), (0 : Int), u.1)) g2 (Evl.pure.congr fun k => by rw [if_neg hc])).congr fun k => rfl, fun _ => ⟨rfl, rfl⟩, fun h => absurd h hc, fun R => absurd (g5 R) hc⟩
end Go.Proofs.Ytkdoihcjhccliaa.G
namespace Go.Proofs.Ytkdoihcjhccliaa.G
open Go.RowKit Go.Proofs.Ytkdoihcjhccliaa.Q Go.Proofs.YtkdoihcjhccliaaW.PrintWords Go.Proofs.YtkdoihcjhccliaaW.PrintLast
set_option linter.unusedVariables false
/-- A set of nodes that no edge leaves or enters. -/
def Closed (E : List S98) (X : Int → Prop) : Prop := ∀ i, 0 ≤ i → i < (E.length : Int) → (X (rd_T98 E i).f0 ↔ X (rd_T98 E i).f1)
def Conn (E : List S98) (u v : Int) : Prop := ∀ X, Closed E X → (X u ↔ X v)
def rng (m : Nat) : List Int := (List.range m).map Int.ofNat
theorem mem_rng (m : Nat) (x : Int) : x ∈ rng m ↔ 0 ≤ x ∧ x < (m : Int) := by
  unfold rng
  rw [List.mem_map]
  constructor
  · rintro ⟨i, hi, rfl⟩
    rw [List.mem_range] at hi
    exact ⟨Int.natCast_nonneg i, Int.ofNat_lt.mpr hi⟩
  · rintro ⟨h0, h1⟩
    exact ⟨x.toNat, List.mem_range.mpr (by omega), by show ((x.toNat : Nat) : Int) = x; omega⟩
theorem len_rng (m : Nat) : (rng m).length = m := by unfold rng; rw [List.length_map, List.length_range]
theorem nodup_rng (m : Nat) : (rng m).Nodup := by
  unfold rng
  refine List.pairwise_map.mpr (List.Pairwise.imp (fun {a b} h e => h (Int.ofNat.inj e)) List.nodup_range)
end Go.Proofs.Ytkdoihcjhccliaa.G
namespace Go.Proofs.Ytkdoihcjhccliaa.G
open Go.RowKit Go.Proofs.Ytkdoihcjhccliaa.Q Go.Proofs.YtkdoihcjhccliaaW.PrintWords Go.Proofs.YtkdoihcjhccliaaW.PrintLast
set_option linter.unusedVariables false

/-- Where a node stands first. -/
structure At (O : List Int) (v p : Int) : Prop where
  a0 : 0 ≤ p
  a1 : p < (O.length : Int)
  is : rd O p = v
  no : ∀ j : Int, 0 ≤ j → j < p → rd O j ≠ v
theorem At.uniq {O : List Int} {v p q : Int} (h : At O v p) (g : At O v q) : p = q := by
  rcases Int.lt_trichotomy p q with c | c | c
  · exact absurd h.is (g.no p h.a0 c)
  · exact c
  · exact absurd g.is (h.no q g.a0 c)
theorem place_f {O : List Int} (hO : (O.length : Int) ≤ 1000000) (v : Int) : ∃ p : Int, Evl (fun k => compassref11_Place.f k O v) p ∧ ((At O v p) ∨ p = -1 ∧ ∀ j : Int, 0 ≤ j → j < (O.length : Int) → rd O j ≠ v) := by
  have loop : ∀ (d i : Nat), i + d = O.length → (∀ j : Int, 0 ≤ j → j < (i : Int) → rd O j ≠ v) → ∃ p : Int, Evl (fun k => compassref11_Place.l0 k O v i) p ∧ ((At O v p) ∨ p = -1 ∧ ∀ j : Int, 0 ≤ j → j < (O.length : Int) → rd O j ≠ v) := by
    intro d
    induction d with
    | zero => intro i hi hP; exact ⟨-1, Evl.here fun k => by rw [compassref11_Place.l0, if_neg (by omega)], Or.inr ⟨rfl, fun j a b => hP j a (by omega)⟩⟩
    | succ d ih =>
      intro i hi hP
      have w : wrap64 ((i : Int) + 1) = ((i + 1 : Nat) : Int) := by rw [w1 (by omega) (by omega)]; rfl
      by_cases c : rd O i = v
      · exact ⟨i, Evl.here fun k => by rw [compassref11_Place.l0, if_pos (by omega), if_pos (by omega), if_pos c], Or.inl ⟨by omega, by omega, c, hP⟩⟩
      · obtain ⟨p, e1, e2⟩ := ih (i + 1) (by omega) (fun j j0 j1 => by
          by_cases q : j = i
          · rw [q]; exact c
          · exact hP j j0 (by omega))
        exact ⟨p, e1.step fun k => by rw [compassref11_Place.l0, if_pos (by omega), if_pos (by omega), if_neg c, w], e2⟩
  obtain ⟨p, e1, e2⟩ := loop O.length 0 (by omega) (fun j a b => by omega)
  exact ⟨p, e1.congr fun k => rfl, e2⟩

/-- Each node stands in the order just once. -/
structure Perm (n : Int) (O : List Int) : Prop where
  len : (O.length : Int) = n
  inn : ∀ j : Int, 0 ≤ j → j < n → 0 ≤ rd O j ∧ rd O j < n
  once : ∀ i j : Int, 0 ≤ i → i < j → j < n → rd O i ≠ rd O j
theorem Perm.all {n : Int} {O : List Int} (h : Perm n O) (v : Int) (v0 : 0 ≤ v) (v1 : v < n) : ∃ j : Int, 0 ≤ j ∧ j < n ∧ rd O j = v := by
  apply Classical.byContradiction
  intro no
  have hl := h.len
  have nd : (O.map id).Nodup := nodup_rd (f := id) fun i j i0 ij j1 q => h.once i j i0 ij (by omega) q
  rw [List.map_id] at nd
  have vin : v ∈ rng n.toNat := (mem_rng _ _).2 ⟨v0, by omega⟩
  have := sub_len O ((rng n.toNat).erase v) nd (fun x hx => by
    obtain ⟨j, j0, j1, rfl⟩ := mem_rd hx
    have r := h.inn j j0 (by omega)
    exact (List.mem_erase_of_ne fun e => no ⟨j, j0, by omega, e⟩).2 ((mem_rng _ _).2 ⟨r.1, by omega⟩))
  rw [List.length_erase_of_mem vin, len_rng] at this
  omega
theorem perm_of {n : Int} {O : List Int} (hl : (O.length : Int) = n) (h : ∀ v : Int, 0 ≤ v → v < n → ∃ j : Int, 0 ≤ j ∧ j < n ∧ rd O j = v) : Perm n O := by
  -- without one place all nodes would still stand in the rest
  have key : ∀ i : Int, 0 ≤ i → i < n → (∀ v : Int, 0 ≤ v → v < n → ∃ j : Int, 0 ≤ j ∧ j < n ∧ j ≠ i ∧ rd O j = v) → False := by
    intro i i0 i1 hh
    have := sub_len (rng n.toNat) (O.eraseIdx i.toNat) (nodup_rng _) (fun x hx => by
      have hr := (mem_rng _ _).1 hx
      obtain ⟨j, j0, j1, ji, e⟩ := hh x hr.1 (by omega)
      rw [List.mem_eraseIdx_iff_getElem]
      refine ⟨j.toNat, by omega, by omega, ?_⟩
      rw [← e]
      unfold rd
      rw [List.getD_eq_getElem?_getD, List.getElem?_eq_getElem (by omega)]; rfl)
    rw [len_rng, List.length_eraseIdx, if_pos (by omega)] at this
    omega
  refine ⟨hl, fun j j0 j1 => ?_, fun i j i0 ij j1 e => ?_⟩
  · apply Classical.byContradiction
    intro bad
    refine key j j0 j1 fun v v0 v1 => ?_
    obtain ⟨q, q0, q1, e⟩ := h v v0 v1
    exact ⟨q, q0, q1, fun t => bad (by rw [← t, e]; exact ⟨v0, v1⟩), e⟩
  · refine key j (by omega) j1 fun v v0 v1 => ?_
    obtain ⟨q, q0, q1, t⟩ := h v v0 v1
    by_cases c : q = j
    · exact ⟨i, i0, by omega, by omega, by rw [e, ← c]; exact t⟩
    · exact ⟨q, q0, q1, c, t⟩

/-- An order in which each edge goes on. -/
structure Topo (n : Int) (E : List S98) (O : List Int) : Prop where
  perm : Perm n O
  on : ∀ i : Int, 0 ≤ i → i < (E.length : Int) → ∀ p q : Int, 0 ≤ p → p < n → 0 ≤ q → q < n → rd O p = (rd_T98 E i).f0 → rd O q = (rd_T98 E i).f1 → p < q
theorem Perm.at_ {n : Int} {O : List Int} (h : Perm n O) {p : Int} (p0 : 0 ≤ p) (p1 : p < n) : At O (rd O p) p := ⟨p0, by rw [h.len]; exact p1, rfl, fun j j0 j1 => h.once j p j0 j1 p1⟩

theorem acyc_d1 {n : Int} {E : List S98} (R : Right n E) {O : List Int} (h : Perm n O) (d : Nat) : ∀ i : Nat, i + d = E.length →
    (∀ j : Int, 0 ≤ j → j < (i : Int) → ∀ p q : Int, 0 ≤ p → p < n → 0 ≤ q → q < n → rd O p = (rd_T98 E j).f0 → rd O q = (rd_T98 E j).f1 → p < q) →
    ∃ e : Int, Evl (fun k => compassref11_Acyclic.l1 k O i n E) e ∧ (e = 0 ∨ e = 221) ∧ (e = 0 ↔ Topo n E O) := by
  have m1 := R.m1
  have n1 := R.n1
  have hl := h.len
  induction d with
  | zero => intro i hi hP; exact ⟨0, Evl.here fun k => by rw [compassref11_Acyclic.l1, if_neg (by omega)], Or.inl rfl, fun _ => ⟨h, fun j a b => hP j a (by omega)⟩, fun _ => rfl⟩
  | succ d ih =>
    intro i hi hP
    have w : wrap64 ((i : Int) + 1) = ((i + 1 : Nat) : Int) := by rw [w1 (by omega) (by omega)]; rfl
    have g : (i : Int) < (E.length : Int) := by omega
    have e := R.e i (by omega) g
    obtain ⟨x, x1, x2⟩ := place_f (O := O) (by omega) (rd_T98 E i).f0
    obtain ⟨y, y1, y2⟩ := place_f (O := O) (by omega) (rd_T98 E i).f1
    obtain ⟨p, p0, p1, ep⟩ := h.all _ e.a0 e.a1
    obtain ⟨q, q0, q1, eq⟩ := h.all _ e.b0 e.b1
    have ax : x = p := by
      rcases x2 with a | a
      · have := h.at_ p0 p1; rw [ep] at this; exact a.uniq this
      · exact absurd ep (a.2 p p0 (by omega))
    have ay : y = q := by
      rcases y2 with a | a
      · have := h.at_ q0 q1; rw [eq] at this; exact a.uniq this
      · exact absurd eq (a.2 q q0 (by omega))
    subst ax ay
    have body : ∀ {r : Int}, Evl (fun k => if x ≥ y then some 221 else compassref11_Acyclic.l1 k O (wrap64 ((i : Int) + 1)) n E) r → Evl (fun k => compassref11_Acyclic.l1 k O i n E) r := fun H =>
      (Evl.bind (h := fun k t458 => (compassref11_Place.f k O ((rd_T98 E i).f1)).bind fun t460 => (if t458 ≥ t460 then (some 221) else (compassref11_Acyclic.l1 k O (wrap64 ((i : Int) + 1)) n E))) x1 (Evl.bind (h := fun k t460 => if x ≥ t460 then (some 221) else (compassref11_Acyclic.l1 k O (wrap64 ((i : Int) + 1)) n E)) y1 H)).step fun k => by rw [compassref11_Acyclic.l1, if_pos g, if_pos (by omega)]
    by_cases c : x ≥ y
    · exact ⟨221, body (Evl.pure.congr fun k => by rw [if_pos c]), Or.inr rfl, fun h => (by cases h), fun T => absurd (T.on i (by omega) g x y p0 p1 q0 q1 ep eq) (by omega)⟩
    · obtain ⟨r, e1, e2⟩ := ih (i + 1) (by omega) (fun j j0 j1 p' q' a b a' b' u v => by
        by_cases t : j = i
        · rw [t] at u v
          have z1 := (h.at_ a b).uniq (v := rd O p') (by rw [u, ← ep]; exact h.at_ p0 p1)
          have z2 := (h.at_ a' b').uniq (v := rd O q') (by rw [v, ← eq]; exact h.at_ q0 q1)
          omega
        · exact hP j j0 (by omega) p' q' a b a' b' u v)
      exact ⟨r, body (e1.congr fun k => by rw [if_neg c, w]), e2⟩
theorem acyc_doc {n : Int} {E : List S98} (R : Right n E) {O : List Int} (hl : (O.length : Int) = n) : ∃ e : Int, Evl (fun k => compassref11_Acyclic.l0 k O 0 n E) e ∧ (e = 0 ∨ e = 221) ∧ (e = 0 ↔ Topo n E O) := by
  have n0 := R.n0
  have n1 := R.n1
  have loop : ∀ (d i : Nat), ((i + d : Nat) : Int) = n → (∀ v : Int, 0 ≤ v → v < (i : Int) → ∃ j : Int, 0 ≤ j ∧ j < n ∧ rd O j = v) → ∃ e : Int, Evl (fun k => compassref11_Acyclic.l0 k O i n E) e ∧ (e = 0 ∨ e = 221) ∧ (e = 0 ↔ Topo n E O) := by
    intro d
    induction d with
    | zero =>
      intro i hi hP
      obtain ⟨e, e1, e2⟩ := acyc_d1 R (perm_of hl fun v a b => hP v a (by omega)) E.length 0 (by omega) (fun j a b => by omega)
      exact ⟨e, e1.step fun k => by rw [compassref11_Acyclic.l0, if_neg (by omega)]; rfl, e2⟩
    | succ d ih =>
      intro i hi hP
      have w : wrap64 ((i : Int) + 1) = ((i + 1 : Nat) : Int) := by rw [w1 (by omega) (by omega)]; rfl
      obtain ⟨x, x1, x2⟩ := place_f (O := O) (by omega) i
      have body : ∀ {r : Int}, Evl (fun k => if x < 0 then some 221 else compassref11_Acyclic.l0 k O (wrap64 ((i : Int) + 1)) n E) r → Evl (fun k => compassref11_Acyclic.l0 k O i n E) r := fun H =>
        (Evl.bind (h := fun k t456 => if t456 < 0 then (some 221) else (compassref11_Acyclic.l0 k O (wrap64 ((i : Int) + 1)) n E)) x1 H).step fun k => by rw [compassref11_Acyclic.l0, if_pos (by omega)]
      rcases x2 with a | a
      · obtain ⟨r, e1, e2⟩ := ih (i + 1) (by omega) (fun v v0 v1 => by
          by_cases t : v = i
          · exact ⟨x, a.a0, by have := a.a1; omega, by rw [t]; exact a.is⟩
          · exact hP v v0 (by omega))
        exact ⟨r, body (e1.congr fun k => by rw [if_neg (by have := a.a0; omega), w]), e2⟩
      · refine ⟨221, body (Evl.pure.congr fun k => by rw [if_pos (by omega)]), Or.inr rfl, fun h => (by cases h), fun T => ?_⟩
        obtain ⟨j, j0, j1, e⟩ := T.perm.all i (by omega) (by omega)
        exact absurd e (a.2 j j0 (by omega))
  exact loop n.toNat 0 (by omega) (fun v a b => by omega)

theorem acyc_l1 {n : Int} {E : List S98} (R : Right n E) {O L : List Int} (h : Perm n O) (hL : (L.length : Int) = n) (hp : ∀ j : Int, 0 ≤ j → j < n → rd L (rd O j) = j + 1) (d : Nat) : ∀ i : Nat, i + d = E.length →
    (∀ j : Int, 0 ≤ j → j < (i : Int) → ∀ p q : Int, 0 ≤ p → p < n → 0 ≤ q → q < n → rd O p = (rd_T98 E j).f0 → rd O q = (rd_T98 E j).f1 → p < q) →
    ∃ e : Int, Evl (fun k => proof_Acyclic_1.l1 k L E E.length i) e ∧ (e = 0 ∨ e = 221) ∧ (e = 0 ↔ Topo n E O) := by
  have m1 := R.m1
  induction d with
  | zero => intro i hi hP; exact ⟨0, Evl.here fun k => by rw [proof_Acyclic_1.l1, if_neg (by omega)], Or.inl rfl, fun _ => ⟨h, fun j a b => hP j a (by omega)⟩, fun _ => rfl⟩
  | succ d ih =>
    intro i hi hP
    have w : wrap64 ((i : Int) + 1) = ((i + 1 : Nat) : Int) := by rw [w1 (by omega) (by omega)]; rfl
    have g : (i : Int) < (E.length : Int) := by omega
    have e := R.e i (by omega) g
    have a0 := e.a0
    have a1 := e.a1
    have b0 := e.b0
    have b1 := e.b1
    obtain ⟨p, p0, p1, ep⟩ := h.all _ e.a0 e.a1
    obtain ⟨q, q0, q1, eq⟩ := h.all _ e.b0 e.b1
    have lp := hp p p0 p1
    have lq := hp q q0 q1
    rw [ep] at lp
    rw [eq] at lq
    by_cases c : rd L (rd_T98 E i).f0 < rd L (rd_T98 E i).f1
    · obtain ⟨r, e1, e2⟩ := ih (i + 1) (by omega) (fun j j0 j1 p' q' a b a' b' u v => by
        by_cases t : j = i
        · rw [t] at u v
          have z1 := (h.at_ a b).uniq (v := rd O p') (by rw [u, ← ep]; exact h.at_ p0 p1)
          have z2 := (h.at_ a' b').uniq (v := rd O q') (by rw [v, ← eq]; exact h.at_ q0 q1)
          omega
        · exact hP j j0 (by omega) p' q' a b a' b' u v)
      exact ⟨r, e1.step fun k => by rw [proof_Acyclic_1.l1, if_pos g, if_pos (by omega), if_pos g, if_pos a0, if_pos (by omega), if_pos b0, if_pos (by omega), if_pos c, w], e2⟩
    · exact ⟨221, Evl.here fun k => by rw [proof_Acyclic_1.l1, if_pos g, if_pos (by omega), if_pos g, if_pos a0, if_pos (by omega), if_pos b0, if_pos (by omega), if_neg c], Or.inr rfl, fun h => (by cases h), fun T => absurd (T.on i (by omega) g p q p0 p1 q0 q1 ep eq) (by omega)⟩
theorem acyc_l0 {n : Int} {E : List S98} (R : Right n E) {O : List Int} (hl : (O.length : Int) = n) (d : Nat) : ∀ (i : Nat) (L : List Int), ((i + d : Nat) : Int) = n → (L.length : Int) = n →
    (∀ j : Int, 0 ≤ j → j < (i : Int) → (0 ≤ rd O j ∧ rd O j < n) ∧ rd L (rd O j) = j + 1) → (∀ a b : Int, 0 ≤ a → a < b → b < (i : Int) → rd O a ≠ rd O b) → (∀ v : Int, 0 ≤ v → v < n → rd L v ≠ 0 → ∃ j : Int, 0 ≤ j ∧ j < (i : Int) ∧ rd O j = v) →
    ∃ e : Int, Evl (fun k => proof_Acyclic_1.l0 k L O O.length i n E) e ∧ (e = 0 ∨ e = 221) ∧ (e = 0 ↔ Topo n E O) := by
  have n1 := R.n1
  induction d with
  | zero =>
    intro i L hi hL hP hO hz
    have P : Perm n O := ⟨hl, fun j a b => (hP j a (by omega)).1, fun a b c d e => hO a b c d (by omega)⟩
    obtain ⟨e, e1, e2⟩ := acyc_l1 R P hL (fun j a b => (hP j a (by omega)).2) E.length 0 (by omega) (fun j a b => by omega)
    exact ⟨e, e1.step fun k => by rw [proof_Acyclic_1.l0, if_neg (by omega)]; rfl, e2⟩
  | succ d ih =>
    intro i L hi hL hP hO hz
    have w : wrap64 ((i : Int) + 1) = ((i + 1 : Nat) : Int) := by rw [w1 (by omega) (by omega)]; rfl
    by_cases c1 : rd O i ≥ 0
    · by_cases c2 : rd O i < n
      · by_cases c3 : rd L (rd O i) = 0
        · have new : ∀ j : Int, 0 ≤ j → j < (i : Int) → rd O j ≠ rd O i := fun j j0 j1 q => by
            have := (hP j j0 j1).2
            rw [q, c3] at this; omega
          have rs : ∀ v : Int, 0 ≤ v → rd (L.set (rd O i).toNat ((i : Int) + 1)) v = if v = rd O i then (i : Int) + 1 else rd L v := fun v v0 => rd_set _ _ _ _ c1 (by omega) v0
          obtain ⟨r, e1, e2⟩ := ih (i + 1) (L.set (rd O i).toNat ((i : Int) + 1)) (by omega) (by rw [List.length_set]; exact hL) (fun j j0 j1 => by
            by_cases t : j = i
            · rw [t]; exact ⟨⟨c1, c2⟩, by rw [rs _ c1, if_pos rfl]⟩
            · have := hP j j0 (by omega)
              exact ⟨this.1, by rw [rs _ this.1.1, if_neg (new j j0 (by omega))]; exact this.2⟩) (fun a b a0 ab b1 => by
            by_cases t : b = i
            · rw [t]; exact new a a0 (by omega)
            · exact hO a b a0 ab (by omega)) (fun v v0 v1 hv => by
            rw [rs v v0] at hv
            by_cases t : v = rd O i
            · exact ⟨i, by omega, by omega, t.symm⟩
            · rw [if_neg t] at hv
              obtain ⟨j, j0, j1, e⟩ := hz v v0 v1 hv
              exact ⟨j, j0, by omega, e⟩)
          exact ⟨r, e1.step fun k => by rw [proof_Acyclic_1.l0, if_pos (by omega), if_pos (by omega), if_pos (by omega), if_pos c1, if_pos c2, if_pos c1, if_pos (by omega), if_pos c3, w]; rfl, e2⟩
        · refine ⟨221, Evl.here fun k => by rw [proof_Acyclic_1.l0, if_pos (by omega), if_pos (by omega), if_pos (by omega), if_pos c1, if_pos c2, if_pos c1, if_pos (by omega), if_neg c3], Or.inr rfl, fun h => (by cases h), fun T => ?_⟩
          obtain ⟨j, j0, j1, e⟩ := hz _ c1 c2 c3
          exact absurd e (T.perm.once j i j0 j1 (by omega))
      · exact ⟨221, Evl.here fun k => by rw [proof_Acyclic_1.l0, if_pos (by omega), if_pos (by omega), if_pos (by omega), if_pos c1, if_neg c2], Or.inr rfl, fun h => (by cases h), fun T => absurd (T.perm.inn i (by omega) (by omega)).2 c2⟩
    · exact ⟨221, Evl.here fun k => by rw [proof_Acyclic_1.l0, if_pos (by omega), if_pos (by omega), if_pos (by omega), if_neg c1], Or.inr rfl, fun h => (by cases h), fun T => absurd (T.perm.inn i (by omega) (by omega)).1 c1⟩

theorem acyclic_f (n : Int) (E : List S98) (O : List Int) : ∃ e : Int, Evl (fun k => proof_Acyclic.f k n E O) e ∧ Evl (fun k => compassref11_Acyclic.f k n E O) e ∧ (e = 0 → Right n E ∧ Topo n E O) ∧ (Right n E → Topo n E O → e = 0) := by
  obtain ⟨c, a, g1, g2, g3, g4, g5⟩ := check_f n E
  have hr := right_f g1
  by_cases hc : c = 0
  · subst hc
    obtain ⟨rfl, R⟩ := g3 rfl
    have n0 := R.n0
    have n1 := R.n1
    have start : ∀ {r : Int}, Evl (fun k => if (O.length : Int) = n then (if 0 ≤ n then (if (n : Int).toNat ≤ 35184372088832 then (proof_Acyclic_1.l0 k (List.replicate (n : Int).toNat 0) O (O.length : Int) 0 n E) else (none)) else (none)) else (some 221)) r → Evl (fun k => proof_Acyclic.f k n E O) r := fun h =>
      (Evl.bind (h := fun k u => if u = 0 then _ else some u) hr (h.congr fun k => by rw [if_pos rfl])).congr fun k => rfl
    have dstart : ∀ {r : Int}, Evl (fun k => if (O.length : Int) = n then (compassref11_Acyclic.l0 k O 0 n E) else (some 221)) r → Evl (fun k => compassref11_Acyclic.f k n E O) r := fun h =>
      (Evl.bind (h := fun k bt454 => if bt454.1 = 0 then (if (O.length : Int) = n then (compassref11_Acyclic.l0 k O 0 n E) else (some 221)) else (some bt454.1)) g2 (h.congr fun k => by rw [if_pos rfl])).congr fun k => rfl
    by_cases h : (O.length : Int) = n
    · obtain ⟨x, x1, x2, x3⟩ := acyc_doc R h
      obtain ⟨y, y1, y2, y3⟩ := acyc_l0 R h n.toNat 0 (List.replicate n.toNat 0) (by omega) (by rw [List.length_replicate]; omega) (fun j a b => by omega) (fun a b c d e => by omega) (fun v v0 v1 hv => absurd (rd_replicate _ _ _ v0 (by omega)) hv)
      have xy : x = y := by
        by_cases t : Topo n E O
        · rw [x3.2 t, y3.2 t]
        · have z1 : x ≠ 0 := fun q => t (x3.1 q)
          have z2 : y ≠ 0 := fun q => t (y3.1 q)
          omega
      subst xy
      exact ⟨x, start (y1.congr fun k => by rw [if_pos h, if_pos n0, if_pos (by omega)]; rfl), dstart (x1.congr fun k => by rw [if_pos h]), fun q => ⟨R, x3.1 q⟩, fun _ t => x3.2 t⟩
    · exact ⟨221, start (Evl.pure.congr fun k => by rw [if_neg h]), dstart (Evl.pure.congr fun k => by rw [if_neg h]), fun q => (by cases q), fun _ t => absurd t.perm.len h⟩
  · exact ⟨c, (Evl.bind (h := fun k u => if u = 0 then _ else some u) hr (Evl.pure.congr fun k => by rw [if_neg hc])).congr fun k => rfl, (Evl.bind (h := fun k u => if u.1 = 0 then _ else some u.1) g2 (Evl.pure.congr fun k => by rw [if_neg hc])).congr fun k => rfl, fun h => absurd h hc, fun R => absurd (g5 R) hc⟩

/-- Where each edge goes on in an order there is no circle. -/
theorem no_ring {n : Int} {E : List S98} (R : Right n E) {O l : List Int} (T : Topo n E O) (h : Ring E l) : False := by
  have pos := h.pos
  have from_ : ∀ k : Int, 0 ≤ k → k < (l.length : Int) → ∃ p : Int, 0 ≤ p ∧ p < n ∧ rd O p = (rd_T98 E (rd l k)).f0 := fun k a b => by
    have L := h.ok k a b
    have e := R.e _ L.a0 L.a1
    exact T.perm.all _ e.a0 e.a1
  have step : ∀ k : Int, 0 ≤ k → k < (l.length : Int) → ∀ p q : Int, 0 ≤ p → p < n → 0 ≤ q → q < n → rd O p = (rd_T98 E (rd l k)).f0 → rd O q = (rd_T98 E (rd l (nx l.length k))).f0 → p < q := fun k a b p q p0 p1 q0 q1 e f => by
    have L := h.ok k a b
    exact T.on _ L.a0 L.a1 p q p0 p1 q0 q1 e (by rw [f, L.on])
  obtain ⟨p0, a0, a1, e0⟩ := from_ 0 (by omega) pos
  have up : ∀ k : Nat, (k : Int) < (l.length : Int) → ∀ p : Int, 0 ≤ p → p < n → rd O p = (rd_T98 E (rd l k)).f0 → p0 ≤ p := by
    intro k
    induction k with
    | zero =>
      intro _ p b0 b1 e
      have := (T.perm.at_ a0 a1).uniq (v := rd O p0) (by rw [e0, show (rd l 0) = rd l ((0 : Nat) : Int) from rfl, ← e]; exact T.perm.at_ b0 b1)
      omega
    | succ k ih =>
      intro hk p b0 b1 e
      obtain ⟨q, c0, c1, f⟩ := from_ k (by omega) (by omega)
      have i1 := ih (by omega) q c0 c1 f
      have i2 := step k (by omega) (by omega) q p c0 c1 b0 b1 f (by rw [nx, if_pos (by omega)]; exact e)
      omega
  obtain ⟨q, c0, c1, f⟩ := from_ ((l.length : Int) - 1) (by omega) (by omega)
  have u := up (l.length - 1) (by omega) q c0 c1 (by rw [show (((l.length - 1 : Nat)) : Int) = (l.length : Int) - 1 by omega]; exact f)
  have v := step ((l.length : Int) - 1) (by omega) (by omega) q p0 c0 c1 a0 a1 f (by rw [nx, if_neg (by omega)]; exact e0)
  omega
end Go.Proofs.Ytkdoihcjhccliaa.G
namespace Go.Proofs.Ytkdoihcjhccliaa.G
open Go.RowKit Go.Proofs.Ytkdoihcjhccliaa.Q Go.Proofs.YtkdoihcjhccliaaW.PrintWords Go.Proofs.YtkdoihcjhccliaaW.PrintLast
set_option linter.unusedVariables false

/-- A graph of n nodes whose costs are at most C, either way. -/
structure Gr (n : Int) (E : List S98) (C : Int) : Prop where
  n0 : 0 ≤ n
  n1 : n ≤ 1100
  m1 : (E.length : Int) ≤ 10000
  c0 : 0 ≤ C
  c1 : C ≤ 134217728
  e : ∀ i : Int, 0 ≤ i → i < (E.length : Int) → (0 ≤ (rd_T98 E i).f0 ∧ (rd_T98 E i).f0 < n) ∧ (0 ≤ (rd_T98 E i).f1 ∧ (rd_T98 E i).f1 < n) ∧ -C ≤ (rd_T98 E i).f3 ∧ (rd_T98 E i).f3 ≤ C

/-- One edge, the first edges, rounds over all edges. -/
def rlx (E : List S98) (D : List Int) (j : Nat) : List Int := if rd D (rd_T98 E j).f0 + (rd_T98 E j).f3 < rd D (rd_T98 E j).f1 then D.set (rd_T98 E j).f1.toNat (rd D (rd_T98 E j).f0 + (rd_T98 E j).f3) else D
def pas (E : List S98) (D : List Int) : Nat → List Int
  | 0 => D
  | i + 1 => rlx E (pas E D i) i
def rnd (n : Int) (E : List S98) : Nat → List Int
  | 0 => List.replicate n.toNat 0
  | r + 1 => pas E (rnd n E r) E.length

theorem rlx_len (E : List S98) (D : List Int) (j : Nat) : (rlx E D j).length = D.length := by unfold rlx; split; rw [List.length_set]; rfl
theorem pas_len (E : List S98) (D : List Int) : ∀ i, (pas E D i).length = D.length
  | 0 => rfl
  | i + 1 => by rw [pas, rlx_len, pas_len E D i]
theorem rnd_len (n : Int) (E : List S98) : ∀ r, (rnd n E r).length = n.toNat
  | 0 => List.length_replicate
  | r + 1 => by rw [rnd, pas_len, rnd_len n E r]
theorem rlx_rd {n : Int} {E : List S98} {C : Int} (g : Gr n E C) {D : List Int} (hD : (D.length : Int) = n) {j : Nat} (hj : j < E.length) (v : Int) (v0 : 0 ≤ v) :
    rd (rlx E D j) v = if rd D (rd_T98 E j).f0 + (rd_T98 E j).f3 < rd D (rd_T98 E j).f1 ∧ v = (rd_T98 E j).f1 then rd D (rd_T98 E j).f0 + (rd_T98 E j).f3 else rd D v := by
  obtain ⟨-, ⟨b0, b1⟩, -⟩ := g.e j (by omega) (by omega)
  unfold rlx
  by_cases q : rd D (rd_T98 E j).f0 + (rd_T98 E j).f3 < rd D (rd_T98 E j).f1
  · rw [if_pos q, rd_set _ _ _ _ b0 (by omega) v0]
    by_cases z : v = (rd_T98 E j).f1
    · rw [if_pos z, if_pos ⟨q, z⟩]
    · rw [if_neg z, if_neg fun h => z h.2]
  · rw [if_neg q, if_neg fun h => q h.1]
theorem rlx_le {n : Int} {E : List S98} {C : Int} (g : Gr n E C) {D : List Int} (hD : (D.length : Int) = n) {j : Nat} (hj : j < E.length) (v : Int) (v0 : 0 ≤ v) : rd (rlx E D j) v ≤ rd D v := by
  rw [rlx_rd g hD hj v v0]
  split
  · rename_i h; rw [h.2]; omega
  · exact Int.le_refl _
theorem pas_le {n : Int} {E : List S98} {C : Int} (g : Gr n E C) {D : List Int} (hD : (D.length : Int) = n) (v : Int) (v0 : 0 ≤ v) : ∀ i, i ≤ E.length → rd (pas E D i) v ≤ rd D v
  | 0, _ => Int.le_refl _
  | i + 1, h => by
    have a := pas_le g hD v v0 i (by omega)
    have b := rlx_le g (D := pas E D i) (by rw [pas_len]; exact hD) (j := i) (by omega) v v0
    rw [pas]; omega
theorem pas_rel {n : Int} {E : List S98} {C : Int} (g : Gr n E C) {D : List Int} (hD : (D.length : Int) = n) : ∀ i, i ≤ E.length → ∀ j : Nat, j < i → rd (pas E D i) (rd_T98 E j).f1 ≤ rd D (rd_T98 E j).f0 + (rd_T98 E j).f3
  | 0, _, j, h => by omega
  | i + 1, hi, j, h => by
    obtain ⟨⟨a0, a1⟩, ⟨b0, b1⟩, -⟩ := g.e j (by omega) (by omega)
    have hl : ((pas E D i).length : Int) = n := by rw [pas_len]; exact hD
    by_cases q : j = i
    · subst q
      have a := pas_le g hD _ a0 j (by omega)
      rw [pas, rlx_rd g hl (by omega) _ b0]
      by_cases z : rd (pas E D j) (rd_T98 E j).f0 + (rd_T98 E j).f3 < rd (pas E D j) (rd_T98 E j).f1
      · rw [if_pos ⟨z, rfl⟩]; omega
      · rw [if_neg fun h => z h.1]; omega
    · have a := pas_rel g hD i (by omega) j (by omega)
      have b := rlx_le g hl (j := i) (by omega) _ b0
      rw [pas]; omega
theorem rnd_hi {n : Int} {E : List S98} {C : Int} (g : Gr n E C) (v : Int) (v0 : 0 ≤ v) (v1 : v < n) : ∀ r, rd (rnd n E r) v ≤ 0
  | 0 => by rw [rnd, rd_replicate _ _ _ v0 (by omega)]; exact Int.le_refl _
  | r + 1 => by
    have n0 := g.n0
    have a := pas_le g (D := rnd n E r) (by rw [rnd_len]; omega) v v0 E.length (Nat.le_refl _)
    have := rnd_hi g v v0 v1 r
    rw [rnd]; omega
theorem pas_lo {n : Int} {E : List S98} {C : Int} (g : Gr n E C) {D : List Int} (hD : (D.length : Int) = n) {T : Nat} (h : ∀ v : Int, 0 ≤ v → v < n → -((T : Int) * C) ≤ rd D v) : ∀ i, i ≤ E.length → ∀ v : Int, 0 ≤ v → v < n → -(((T + i : Nat) : Int) * C) ≤ rd (pas E D i) v
  | 0, _, v, v0, v1 => h v v0 v1
  | i + 1, hi, v, v0, v1 => by
    obtain ⟨⟨a0, a1⟩, ⟨b0, b1⟩, d0, d1⟩ := g.e i (by omega) (by omega)
    have c0 := g.c0
    have hl : ((pas E D i).length : Int) = n := by rw [pas_len]; exact hD
    have a := pas_lo g hD h i (by omega) v v0 v1
    have b := pas_lo g hD h i (by omega) _ a0 a1
    have e : (((T + (i + 1) : Nat) : Int)) * C = ((T + i : Nat) : Int) * C + C := by rw [← Nat.add_assoc, Int.natCast_add, Int.add_mul]; simp
    rw [e, pas, rlx_rd g hl (by omega) v v0]
    split <;> omega
theorem rnd_lo {n : Int} {E : List S98} {C : Int} (g : Gr n E C) : ∀ (r : Nat) (v : Int), 0 ≤ v → v < n → -(((r * E.length : Nat) : Int) * C) ≤ rd (rnd n E r) v
  | 0, v, v0, v1 => by rw [rnd, rd_replicate _ _ _ v0 (by omega), Nat.zero_mul]; simp
  | r + 1, v, v0, v1 => by
    have n0 := g.n0
    have a := pas_lo g (D := rnd n E r) (by rw [rnd_len]; omega) (T := r * E.length) (rnd_lo g r) E.length (Nat.le_refl _) v v0 v1
    rw [rnd, Nat.succ_mul]; exact a
/-- No sum of a round leaves the machine's numbers. -/
theorem step_big {n : Int} {E : List S98} {C : Int} (g : Gr n E C) {r i : Nat} (hr : (r : Int) ≤ n) (hi : i ≤ E.length) : ((r * E.length + i : Nat) : Int) * C ≤ 1500000000000000 := by
  have n1 := g.n1
  have m1 := g.m1
  have c0 := g.c0
  have c1 := g.c1
  have a : r * E.length ≤ 1100 * 10000 := Nat.mul_le_mul (by omega) (by omega)
  have b : ((r * E.length + i : Nat) : Int) * C ≤ (11010000 : Int) * 134217728 := Int.mul_le_mul (by omega) c1 c0 (by decide)
  omega

/-- A walk of k edges from u to v, and what it costs. -/
inductive Walk (E : List S98) (u : Int) : Int → Nat → Int → Prop
  | nil : Walk E u u 0 0
  | cons {k : Nat} {c i : Int} : 0 ≤ i → i < (E.length : Int) → Walk E u (rd_T98 E i).f0 k c → Walk E u (rd_T98 E i).f1 (k + 1) (c + (rd_T98 E i).f3)
theorem Walk.front {E : List S98} {u v : Int} {k : Nat} {c i : Int} (w : Walk E u v k c) (i0 : 0 ≤ i) (i1 : i < (E.length : Int)) (hu : u = (rd_T98 E i).f1) : Walk E (rd_T98 E i).f0 v (k + 1) (c + (rd_T98 E i).f3) := by
  induction w with
  | nil => rw [hu, Int.zero_add]; have := Walk.cons (u := (rd_T98 E i).f0) i0 i1 Walk.nil; rw [Int.zero_add] at this; exact this
  | @cons k c j j0 j1 w ih =>
    have := Walk.cons j0 j1 ih
    rw [show c + (rd_T98 E j).f3 + (rd_T98 E i).f3 = c + (rd_T98 E i).f3 + (rd_T98 E j).f3 by omega]
    exact this
theorem rnd_walk {n : Int} {E : List S98} {C : Int} (g : Gr n E C) {u : Int} (u0 : 0 ≤ u) (u1 : u < n) {v : Int} {k : Nat} {c : Int} (w : Walk E u v k c) : ∀ r : Nat, k ≤ r → rd (rnd n E r) v ≤ c := by
  induction w with
  | nil => intro r _; exact rnd_hi g u u0 u1 r
  | @cons k c j j0 j1 w ih =>
    intro r hr
    obtain ⟨r, rfl⟩ : ∃ q, r = q + 1 := ⟨r - 1, by omega⟩
    have n0 := g.n0
    have a := ih r (by omega)
    have b := pas_rel g (D := rnd n E r) (by rw [rnd_len]; omega) E.length (Nat.le_refl _) j.toNat (by omega)
    rw [show ((j.toNat : Nat) : Int) = j by omega] at b
    rw [rnd]; omega

/-- Whence each node got what it has: by an edge from one that had it before (tau: when). -/
def Via (n : Int) (E : List S98) (D P : List Int) (tau : Int → Nat) (T : Nat) : Prop := ∀ v : Int, 0 ≤ v → v < n → (tau v = 0 ∧ rd D v = 0) ∨
  (0 < tau v ∧ tau v ≤ T ∧ 0 ≤ rd P v ∧ rd P v < (E.length : Int) ∧ (rd_T98 E (rd P v)).f1 = v ∧ rd D (rd_T98 E (rd P v)).f0 + (rd_T98 E (rd P v)).f3 ≤ rd D v ∧ (rd D (rd_T98 E (rd P v)).f0 + (rd_T98 E (rd P v)).f3 = rd D v → tau (rd_T98 E (rd P v)).f0 < tau v))
theorem Via.stay {n : Int} {E : List S98} {D P : List Int} {tau : Int → Nat} {T : Nat} (h : Via n E D P tau T) : Via n E D P tau (T + 1) := fun v v0 v1 => by
  rcases h v v0 v1 with a | ⟨a1, a2, a3⟩
  · exact Or.inl a
  · exact Or.inr ⟨a1, by omega, a3⟩
theorem Via.move {n : Int} {E : List S98} {C : Int} (g : Gr n E C) {D P : List Int} {tau : Int → Nat} {T : Nat} (h : Via n E D P tau T) (hD : (D.length : Int) = n) (hP : (P.length : Int) = n) {j : Nat} (hj : j < E.length)
    (q : rd D (rd_T98 E j).f0 + (rd_T98 E j).f3 < rd D (rd_T98 E j).f1) : Via n E (rlx E D j) (P.set (rd_T98 E j).f1.toNat j) (fun v => if v = (rd_T98 E j).f1 then T + 1 else tau v) (T + 1) := by
  obtain ⟨⟨a0, a1⟩, ⟨b0, b1⟩, -⟩ := g.e j (by omega) (by omega)
  intro v v0 v1
  have rp : rd (P.set (rd_T98 E j).f1.toNat (j : Int)) v = if v = (rd_T98 E j).f1 then (j : Int) else rd P v := rd_set _ _ _ _ b0 (by omega) v0
  have rd1 : ∀ u : Int, 0 ≤ u → rd (rlx E D j) u = if u = (rd_T98 E j).f1 then rd D (rd_T98 E j).f0 + (rd_T98 E j).f3 else rd D u := fun u u0 => by
    rw [rlx_rd g hD hj u u0]
    by_cases z : u = (rd_T98 E j).f1
    · rw [if_pos ⟨q, z⟩, if_pos z]
    · rw [if_neg fun h => z h.2, if_neg z]
  by_cases z : v = (rd_T98 E j).f1
  · have rz : rd (P.set (rd_T98 E j).f1.toNat (j : Int)) v = j := by rw [rp, if_pos z]
    rw [rz]
    right
    refine ⟨?_, ?_, by omega, by omega, z.symm, ?_, ?_⟩
    · show 0 < (if v = _ then _ else _); rw [if_pos z]; omega
    · show (if v = _ then _ else _) ≤ _; rw [if_pos z]; omega
    · rw [rd1 _ a0, rd1 v v0, if_pos z]
      by_cases y : (rd_T98 E j).f0 = (rd_T98 E j).f1
      · rw [if_pos y]; rw [y] at q ⊢; omega
      · rw [if_neg y]; exact Int.le_refl _
    · rw [rd1 _ a0, rd1 v v0, if_pos z]
      intro e
      show (if (rd_T98 E j).f0 = _ then _ else _) < (if v = _ then _ else _)
      rw [if_pos z]
      by_cases y : (rd_T98 E j).f0 = (rd_T98 E j).f1
      · rw [if_pos y, y] at e; rw [y] at q; omega
      · rw [if_neg y]
        rcases h _ a0 a1 with t | t
        · omega
        · omega
  · have rz : rd (P.set (rd_T98 E j).f1.toNat (j : Int)) v = rd P v := by rw [rp, if_neg z]
    rw [rz]
    show ((if v = _ then _ else _) = 0 ∧ _) ∨ (0 < (if v = _ then _ else _) ∧ (if v = _ then _ else _) ≤ _ ∧ _)
    rw [if_neg z, rd1 v v0, if_neg z]
    rcases h v v0 v1 with a | ⟨c1, c2, c3, c4, c5, c6, c7⟩
    · exact Or.inl a
    · obtain ⟨⟨f0, f1⟩, -, -⟩ := g.e _ c3 c4
      refine Or.inr ⟨c1, by omega, c3, c4, c5, ?_, ?_⟩
      · rw [rd1 _ f0]; split
        · rename_i y; rw [y] at c6; omega
        · exact c6
      · rw [rd1 _ f0]
        show _ → (if _ = _ then _ else _) < (if v = _ then _ else _)
        rw [if_neg z]
        by_cases y : (rd_T98 E (rd P v)).f0 = (rd_T98 E j).f1
        · rw [if_pos y]; rw [y] at c6; intro e; omega
        · rw [if_neg y, if_neg y]; exact c7

/-- What the last round left: nothing was changed, or some node came down. -/
def Last (n : Int) (D0 D : List Int) (tau : Int → Nat) (l : Int) : Prop := (l = -1 ∧ D = D0) ∨ (0 ≤ l ∧ l < n ∧ rd D l < rd D0 l ∧ 0 < tau l)

theorem pas_ws {n : Int} {E : List S98} {C : Int} (g : Gr n E C) {r i : Nat} (hr : (r : Int) ≤ n) (hi : i < E.length) : wrap64 (rd (pas E (rnd n E r) i) (rd_T98 E i).f0 + (rd_T98 E i).f3) = rd (pas E (rnd n E r) i) (rd_T98 E i).f0 + (rd_T98 E i).f3 := by
  have n0 := g.n0
  have c1 := g.c1
  have hD0 : ((rnd n E r).length : Int) = n := by rw [rnd_len]; omega
  obtain ⟨⟨a0, a1⟩, -, d0, d1⟩ := g.e i (by omega) (by omega)
  have lo := pas_lo g hD0 (rnd_lo g r) i (Nat.le_of_lt hi) _ a0 a1
  have sb := step_big g hr (i := i) (Nat.le_of_lt hi)
  have hi0 := pas_le g hD0 _ a0 i (Nat.le_of_lt hi)
  have hi1 := rnd_hi g _ a0 a1 r
  generalize ((r * E.length + i : Nat) : Int) * C = z at lo sb
  exact wr (by omega) (by omega)

theorem below_l1 {n : Int} {E : List S98} {C : Int} (g : Gr n E C) {r : Nat} (hr : (r : Int) ≤ n) (d : Nat) : ∀ (i : Nat) (P : List Int) (tau : Int → Nat) (l : Int), i + d = E.length → (P.length : Int) = n → Via n E (pas E (rnd n E r) i) P tau (r * E.length + i) → Last n (rnd n E r) (pas E (rnd n E r) i) tau l →
    ∃ (P' : List Int) (tau' : Int → Nat) (l' : Int), (P'.length : Int) = n ∧ Via n E (rnd n E (r + 1)) P' tau' ((r + 1) * E.length) ∧ Last n (rnd n E r) (rnd n E (r + 1)) tau' l' ∧
      ∀ z, Evl (fun k => compassref11_Below.l0 k (rnd n E (r + 1)) P' l' ((r : Int) + 1) n E) z → Evl (fun k => compassref11_Below.l1 k (pas E (rnd n E r) i) P l r i n E) z := by
  have n0 := g.n0
  have n1 := g.n1
  have m1 := g.m1
  have c1 := g.c1
  induction d with
  | zero =>
    intro i P tau l hi hP V hl
    have e : i = E.length := by omega
    subst e
    refine ⟨P, tau, l, hP, by rw [Nat.succ_mul]; exact V, hl, fun z hz => hz.step fun k => ?_⟩
    rw [compassref11_Below.l1, if_neg (by omega), w1 (by omega) (by omega)]; rfl
  | succ d ih =>
    intro i P tau l hi hP V hl
    have hD : ((pas E (rnd n E r) i).length : Int) = n := by rw [pas_len, rnd_len]; omega
    have hD0 : ((rnd n E r).length : Int) = n := by rw [rnd_len]; omega
    have gi : (i : Int) < (E.length : Int) := by omega
    have g0 : (0 : Int) ≤ i := by omega
    have id : i + 1 + d = E.length := by omega
    have il : i < E.length := by omega
    obtain ⟨⟨a0, a1⟩, ⟨b0, b1⟩, d0, d1⟩ := g.e i g0 gi
    have w : wrap64 ((i : Int) + 1) = ((i + 1 : Nat) : Int) := by rw [w1 (by omega) (by omega)]; rfl
    have ga : (rd_T98 E i).f0 < ((pas E (rnd n E r) i).length : Int) := by omega
    have gb : (rd_T98 E i).f1 < ((pas E (rnd n E r) i).length : Int) := by omega
    have gp : (rd_T98 E i).f1 < (P.length : Int) := by omega
    have ws := pas_ws g hr il
    by_cases q : rd (pas E (rnd n E r) i) (rd_T98 E i).f0 + (rd_T98 E i).f3 < rd (pas E (rnd n E r) i) (rd_T98 E i).f1
    · have ps : pas E (rnd n E r) (i + 1) = (pas E (rnd n E r) i).set (rd_T98 E i).f1.toNat (rd (pas E (rnd n E r) i) (rd_T98 E i).f0 + (rd_T98 E i).f3) := by rw [pas, rlx, if_pos q]
      have V' := V.move g hD hP il q
      have hd := pas_le g hD0 _ b0 i (Nat.le_of_lt il)
      obtain ⟨P', tau', l', x1, x2, x3, x4⟩ := ih (i + 1) (P.set (rd_T98 E i).f1.toNat i) _ (rd_T98 E i).f1 id (by rw [List.length_set]; exact hP) V' (Or.inr ⟨b0, b1, by
        rw [ps, rd_set _ _ _ _ b0 gb b0, if_pos rfl]; exact Int.lt_of_lt_of_le q hd, by show 0 < (if _ = _ then _ else _); rw [if_pos rfl]; exact Nat.succ_pos _⟩)
      refine ⟨P', tau', l', x1, x2, x3, fun z hz => (x4 z hz).step fun k => ?_⟩
      rw [compassref11_Below.l1, if_pos gi, if_pos g0, if_pos a0, if_pos ga, if_pos b0, if_pos gb, ws, if_pos q, if_pos gp, w, ps]
    · have ps : pas E (rnd n E r) (i + 1) = pas E (rnd n E r) i := by rw [pas, rlx, if_neg q]
      obtain ⟨P', tau', l', x1, x2, x3, x4⟩ := ih (i + 1) P tau l id hP (by rw [ps]; exact V.stay) (by rw [ps]; exact hl)
      rw [ps] at x4
      refine ⟨P', tau', l', x1, x2, x3, fun z hz => (x4 z hz).step fun k => ?_⟩
      rw [compassref11_Below.l1, if_pos gi, if_pos g0, if_pos a0, if_pos ga, if_pos b0, if_pos gb, ws, if_neg q, w]

theorem below_l0 {n : Int} {E : List S98} {C : Int} (g : Gr n E C) (d : Nat) : ∀ (r : Nat) (P : List Int) (tau : Int → Nat) (l : Int), ((r + d : Nat) : Int) = n → (P.length : Int) = n → Via n E (rnd n E r) P tau (r * E.length) →
    ∃ (P' : List Int) (tau' : Int → Nat) (l' : Int), (P'.length : Int) = n ∧ Via n E (rnd n E (n.toNat + 1)) P' tau' ((n.toNat + 1) * E.length) ∧ Last n (rnd n E n.toNat) (rnd n E (n.toNat + 1)) tau' l' ∧
      ∀ z, Evl (fun k => if l' < 0 then (some ([] : List Int)) else (compassref11_Below.l2 k P' l' 0 n E)) z → Evl (fun k => compassref11_Below.l0 k (rnd n E r) P l r n E) z := by
  have n0 := g.n0
  induction d with
  | zero =>
    intro r P tau l hr hP V
    obtain ⟨P', tau', l', x1, x2, x3, x4⟩ := below_l1 g (r := r) (by omega) E.length 0 P tau (-1) (by omega) hP V (Or.inl ⟨rfl, rfl⟩)
    have e : r = n.toNat := by omega
    subst e
    refine ⟨P', tau', l', x1, x2, x3, fun z hz => Evl.step (x4 z (hz.step fun k => ?_)) fun k => ?_⟩
    · rw [compassref11_Below.l0, if_neg (by omega)]
    · rw [compassref11_Below.l0, if_pos (by omega)]; rfl
  | succ d ih =>
    intro r P tau l hr hP V
    obtain ⟨P1, tau1, l1, x1, x2, x3, x4⟩ := below_l1 g (r := r) (by omega) E.length 0 P tau (-1) (by omega) hP V (Or.inl ⟨rfl, rfl⟩)
    obtain ⟨P', tau', l', y1, y2, y3, y4⟩ := ih (r + 1) P1 tau1 l1 (by omega) x1 x2
    refine ⟨P', tau', l', y1, y2, y3, fun z hz => Evl.step (x4 z (y4 z hz)) fun k => ?_⟩
    rw [compassref11_Below.l0, if_pos (by omega)]; rfl

/-- Where a node had it from, again and again. -/
def itr (E : List S98) (P : List Int) (v : Int) : Nat → Int
  | 0 => v
  | k + 1 => (rd_T98 E (rd P (itr E P v k))).f0
theorem itr_add (E : List S98) (P : List Int) (v : Int) (a : Nat) : ∀ b, itr E P v (a + b) = itr E P (itr E P v a) b
  | 0 => rfl
  | b + 1 => by show (rd_T98 E (rd P (itr E P v (a + b)))).f0 = _; rw [itr_add E P v a b]; rfl
theorem sub_len2 : ∀ (l m : List Int), l.Nodup → (∀ x ∈ l, x ∈ m) → l.length ≤ m.length := by
  intro l
  induction l with
  | nil => intro m _ _; exact Nat.zero_le _
  | cons a t ih =>
    intro m h hs
    obtain ⟨ha, ht⟩ := List.nodup_cons.mp h
    have hm : a ∈ m := hs a (by simp)
    have := ih (m.erase a) ht (fun x hx => (List.mem_erase_of_ne (fun e => ha (by rw [← e]; exact hx))).mpr (hs x (by simp [hx])))
    rw [List.length_erase_of_mem hm] at this
    have := List.length_pos_of_mem hm
    rw [List.length_cons]; omega
theorem pigeon {m : Nat} (f : Nat → Int) (h : ∀ i, i ≤ m → 0 ≤ f i ∧ f i < (m : Int)) : ∃ a b, a < b ∧ b ≤ m ∧ f a = f b := by
  by_cases q : ∃ a b, a < b ∧ b ≤ m ∧ f a = f b
  · exact q
  · exfalso
    have nd : ((List.range (m + 1)).map f).Nodup := by
      rw [List.Nodup, List.pairwise_map]
      refine List.Pairwise.imp_of_mem (fun {a b} ha hb hab => ?_) (List.pairwise_lt_range (n := m + 1))
      intro e
      rw [List.mem_range] at hb
      exact q ⟨a, b, hab, by omega, e⟩
    have := sub_len2 ((List.range (m + 1)).map f) (rng m) nd (fun x hx => by
      obtain ⟨i, hi, rfl⟩ := List.mem_map.mp hx
      rw [List.mem_range] at hi
      obtain ⟨a, b⟩ := h i (by omega)
      exact (mem_rng m _).mpr ⟨a, b⟩)
    rw [List.length_map, List.length_range, len_rng] at this
    omega

/-- The edges of a circle, the last one first gathered. -/
def gat (E : List S98) (P : List Int) (w : Int) : Nat → List Int
  | 0 => []
  | k + 1 => rd P (itr E P w k) :: gat E P w k
theorem gat_len (E : List S98) (P : List Int) (w : Int) : ∀ k, (gat E P w k).length = k
  | 0 => rfl
  | k + 1 => by rw [gat, List.length_cons, gat_len E P w k]
theorem rd_cons0 (x : Int) (l : List Int) : rd (x :: l) 0 = x := rfl
theorem rd_cons1 (x : Int) (l : List Int) (j : Int) (h : 0 < j) : rd (x :: l) j = rd l (j - 1) := by
  unfold rd; rw [show j.toNat = (j - 1).toNat + 1 by omega]; rfl
theorem gat_rd (E : List S98) (P : List Int) (w : Int) : ∀ (k : Nat) (j : Nat), j < k → rd (gat E P w k) j = rd P (itr E P w (k - 1 - j))
  | 0, j, h => by omega
  | k + 1, 0, _ => by rw [gat]; show rd (_ :: _) 0 = _; rw [rd_cons0]; rfl
  | k + 1, j + 1, h => by
    rw [gat, rd_cons1 _ _ _ (by omega), show ((j + 1 : Nat) : Int) - 1 = (j : Int) by omega, gat_rd E P w k j (by omega), show k + 1 - 1 - (j + 1) = k - 1 - j by omega]
/-- What a list of edges costs. -/
def cst (E : List S98) : List Int → Int
  | [] => 0
  | i :: L => (rd_T98 E i).f3 + cst E L
/-- These edges make a circle, no node twice. -/
structure Circ (E : List S98) (L : List Int) : Prop where
  pos : 0 < L.length
  el : ∀ j : Nat, j < L.length → 0 ≤ rd L j ∧ rd L j < (E.length : Int)
  on : ∀ j : Nat, j + 1 < L.length → (rd_T98 E (rd L j)).f1 = (rd_T98 E (rd L ((j + 1 : Nat) : Int))).f0
  cl : (rd_T98 E (rd L ((L.length - 1 : Nat) : Int))).f1 = (rd_T98 E (rd L 0)).f0
  once : ∀ i j : Nat, i < j → j < L.length → (rd_T98 E (rd L i)).f1 ≠ (rd_T98 E (rd L j)).f1

/-- A node that got something, and all whence it came. -/
structure Hot (n : Int) (E : List S98) (D P : List Int) (tau : Int → Nat) (v : Int) : Prop where
  v0 : 0 ≤ v
  v1 : v < n
  p0 : 0 ≤ rd P v
  p1 : rd P v < (E.length : Int)
  t : (rd_T98 E (rd P v)).f1 = v
  le : rd D (rd_T98 E (rd P v)).f0 + (rd_T98 E (rd P v)).f3 ≤ rd D v
  eq : rd D (rd_T98 E (rd P v)).f0 + (rd_T98 E (rd P v)).f3 = rd D v → tau (rd_T98 E (rd P v)).f0 < tau v
theorem Via.hot {n : Int} {E : List S98} {D P : List Int} {tau : Int → Nat} {T : Nat} (V : Via n E D P tau T) {v : Int} (v0 : 0 ≤ v) (v1 : v < n) (h : 0 < tau v) : Hot n E D P tau v := by
  rcases V v v0 v1 with a | ⟨a1, a2, a3, a4, a5, a6, a7⟩
  · omega
  · exact ⟨v0, v1, a3, a4, a5, a6, a7⟩

theorem chain_hot {n : Int} {E : List S98} {C : Int} (g : Gr n E C) {P : List Int} {tau : Int → Nat} {T : Nat} {l : Int} (V : Via n E (rnd n E (n.toNat + 1)) P tau T) (l0 : 0 ≤ l) (l1 : l < n) (lt : rd (rnd n E (n.toNat + 1)) l < rd (rnd n E n.toNat) l) (lh : 0 < tau l) :
    ∀ k : Nat, (k : Int) ≤ n → 0 < tau (itr E P l k) ∧ 0 ≤ itr E P l k ∧ itr E P l k < n ∧ ∃ c : Int, Walk E (itr E P l k) l k c ∧ c ≤ rd (rnd n E (n.toNat + 1)) l - rd (rnd n E (n.toNat + 1)) (itr E P l k) := by
  intro k
  induction k with
  | zero => intro _; exact ⟨lh, l0, l1, 0, Walk.nil, by show (0 : Int) ≤ _ - rd _ l; omega⟩
  | succ k ih =>
    intro hk
    obtain ⟨h1, h2, h3, c, h4, h5⟩ := ih (by omega)
    have H := V.hot h2 h3 h1
    obtain ⟨⟨f0, f1⟩, -, -⟩ := g.e _ H.p0 H.p1
    have W : Walk E (itr E P l (k + 1)) l (k + 1) (c + (rd_T98 E (rd P (itr E P l k))).f3) := h4.front H.p0 H.p1 H.t.symm
    have le := H.le
    have e : itr E P l (k + 1) = (rd_T98 E (rd P (itr E P l k))).f0 := rfl
    have h6 : c + (rd_T98 E (rd P (itr E P l k))).f3 ≤ rd (rnd n E (n.toNat + 1)) l - rd (rnd n E (n.toNat + 1)) (itr E P l (k + 1)) := by rw [e]; omega
    refine ⟨?_, f0, f1, _, W, h6⟩
    rcases V _ f0 f1 with a | a
    · have b := rnd_walk g f0 f1 W n.toNat (by omega)
      rw [e, a.2] at h6
      omega
    · exact a.1

/-- Down a chain costs fall, by no less than what the edges cost. -/
theorem gat_cost {n : Int} {E : List S98} {D P : List Int} {tau : Int → Nat} {w : Int} (H : ∀ k, Hot n E D P tau (itr E P w k)) : ∀ k, cst E (gat E P w k) ≤ rd D w - rd D (itr E P w k) ∧ (0 < k → cst E (gat E P w k) = rd D w - rd D (itr E P w k) → tau (itr E P w k) < tau w)
  | 0 => ⟨by show (0 : Int) ≤ _ - rd D w; omega, fun h => by omega⟩
  | k + 1 => by
    obtain ⟨a, b⟩ := gat_cost H k
    have h := H k
    have le := h.le
    have e : itr E P w (k + 1) = (rd_T98 E (rd P (itr E P w k))).f0 := rfl
    rw [gat, cst, e]
    refine ⟨by omega, fun _ q => ?_⟩
    have t := h.eq (by omega)
    by_cases z : k = 0
    · subst z; exact t
    · have := b (by omega) (by omega); omega

theorem circle_of {n : Int} {E : List S98} {D P : List Int} {tau : Int → Nat} {w : Int} (H : ∀ k, Hot n E D P tau (itr E P w k)) {p : Nat} (p0 : 0 < p) (hp : itr E P w p = w) (least : ∀ q, 0 < q → q < p → itr E P w q ≠ w) : Circ E (gat E P w p) ∧ cst E (gat E P w p) < 0 := by
  refine ⟨⟨by rw [gat_len]; exact p0, fun j hj => ?_, fun j hj => ?_, ?_, fun i j hij hj => ?_⟩, ?_⟩
  · rw [gat_len] at hj
    rw [gat_rd _ _ _ _ _ hj]; exact ⟨(H _).p0, (H _).p1⟩
  · rw [gat_len] at hj
    rw [gat_rd _ _ _ _ _ (by omega), gat_rd _ _ _ _ _ hj, (H _).t]
    rw [show p - 1 - j = (p - 1 - (j + 1)) + 1 by omega]; rfl
  · rw [gat_len, gat_rd _ _ _ _ _ (by omega), (H _).t]
    have := gat_rd E P w p 0 p0
    rw [show ((0 : Nat) : Int) = 0 from rfl] at this
    rw [this, show p - 1 - (p - 1) = 0 by omega]
    show w = itr E P w (p - 1 - 0 + 1)
    rw [show p - 1 - 0 + 1 = p by omega, hp]
  · rw [gat_len] at hj
    rw [gat_rd _ _ _ _ _ (by omega), gat_rd _ _ _ _ _ hj, (H _).t, (H _).t]
    intro e
    refine least (p - 1 - j + (p - (p - 1 - i))) (by omega) (by omega) ?_
    rw [itr_add, ← e, ← itr_add, show p - 1 - i + (p - (p - 1 - i)) = p by omega, hp]
  · obtain ⟨a, b⟩ := gat_cost H p
    rw [hp] at a b
    by_cases z : cst E (gat E P w p) = 0
    · have := b p0 (by omega); omega
    · omega

theorem least_of (Q : Nat → Prop) : ∀ m, Q m → ∃ p, p ≤ m ∧ Q p ∧ ∀ q, q < p → ¬ Q q := by
  intro m
  induction m using Nat.strongRecOn with
  | _ m ih =>
    intro h
    by_cases z : ∃ q, q < m ∧ Q q
    · obtain ⟨q, q1, q2⟩ := z
      obtain ⟨p, p1, p2, p3⟩ := ih q q1 q2
      exact ⟨p, by omega, p2, p3⟩
    · exact ⟨m, Nat.le_refl _, h, fun q hq hQ => z ⟨q, hq, hQ⟩⟩

theorem below_l2 {n : Int} {E : List S98} {D P : List Int} {tau : Int → Nat} {l : Int} (n1 : n ≤ 1100) (hP : (P.length : Int) = n) (H : ∀ k, Hot n E D P tau (itr E P l k)) (d : Nat) : ∀ i : Nat, ((i + d : Nat) : Int) = n →
    ∀ z, Evl (fun k => compassref11_Below.l3 k P (itr E P l n.toNat) ([rd P (itr E P l n.toNat)]) n E) z → Evl (fun k => compassref11_Below.l2 k P (itr E P l i) i n E) z := by
  induction d with
  | zero =>
    intro i hi z hz
    have e : i = n.toNat := by omega
    subst e
    have h := H n.toNat
    have v0 := h.v0
    have v1 := h.v1
    refine hz.step fun k => ?_
    rw [compassref11_Below.l2, if_neg (by omega), if_pos v0, if_pos (by omega)]
  | succ d ih =>
    intro i hi z hz
    have h := H i
    have v0 := h.v0
    have v1 := h.v1
    have p0 := h.p0
    have p1 := h.p1
    have w : wrap64 ((i : Int) + 1) = ((i + 1 : Nat) : Int) := by rw [w1 (by omega) (by omega)]; rfl
    refine (ih (i + 1) (by omega) z hz).step fun k => ?_
    rw [compassref11_Below.l2, if_pos (by omega), if_pos v0, if_pos (by omega), if_pos p0, if_pos p1, w]; rfl
theorem below_l3 {n : Int} {E : List S98} {D P : List Int} {tau : Int → Nat} {w : Int} (n1 : n ≤ 1100) (hP : (P.length : Int) = n) (H : ∀ k, Hot n E D P tau (itr E P w k)) {p : Nat} (p0 : 0 < p) (pn : p ≤ 1100) (hp : itr E P w p = w) (least : ∀ q, 0 < q → q < p → itr E P w q ≠ w) (d : Nat) : ∀ i : Nat, i + 1 + d = p →
    Evl (fun k => compassref11_Below.l3 k P w (gat E P w (i + 1)) n E) (gat E P w p) := by
  induction d with
  | zero =>
    intro i hi
    have e : p = i + 1 := by omega
    subst e
    have h := H i
    have hl := gat_len E P w (i + 1)
    refine Evl.here fun k => ?_
    have r0 : rd (gat E P w (i + 1)) 0 = rd P (itr E P w i) := rfl
    have hp' : (rd_T98 E (rd P (itr E P w i))).f0 = w := hp
    rw [compassref11_Below.l3, if_pos (by omega), r0, if_pos h.p0, if_pos h.p1, if_pos hp']
  | succ d ih =>
    intro i hi
    have h := H i
    have h' := H (i + 1)
    have v0 := h'.v0
    have v1 := h'.v1
    have hl := gat_len E P w (i + 1)
    have r0 : rd (gat E P w (i + 1)) 0 = rd P (itr E P w i) := rfl
    have ne : ¬ (rd_T98 E (rd P (itr E P w i))).f0 = w := least (i + 1) (by omega) (by omega)
    have q0 : 0 ≤ (rd_T98 E (rd P (itr E P w i))).f0 := v0
    have q1 : (rd_T98 E (rd P (itr E P w i))).f0 < (P.length : Int) := by rw [hP]; exact v1
    refine (ih (i + 1) (by omega)).step fun k => ?_
    rw [compassref11_Below.l3, if_pos (by omega), r0, if_pos h.p0, if_pos h.p1, if_neg ne, if_pos q0, if_pos q1, Option.bind_some, if_pos (by rw [hl]; simp; omega)]; rfl

/-- A circle that costs less than nothing; or potentials that no edge goes below. -/
theorem below_f {n : Int} {E : List S98} {C : Int} (g : Gr n E C) : ∃ L, Evl (fun k => compassref11_Below.f k n E) L ∧
    ((L = [] ∧ ∀ j : Nat, j < E.length → rd (rnd n E n.toNat) (rd_T98 E j).f1 ≤ rd (rnd n E n.toNat) (rd_T98 E j).f0 + (rd_T98 E j).f3) ∨ (Circ E L ∧ cst E L < 0)) := by
  have n0 := g.n0
  have n1 := g.n1
  have V0 : Via n E (rnd n E 0) (List.replicate n.toNat 0) (fun _ => 0) (0 * E.length) := fun v v0 v1 => Or.inl ⟨rfl, by rw [rnd, rd_replicate _ _ _ v0 (by omega)]⟩
  obtain ⟨P, tau, l, hP, V, hl, cont⟩ := below_l0 g n.toNat 0 (List.replicate n.toNat 0) (fun _ => 0) (-1) (by omega) (by rw [List.length_replicate]; omega) V0
  have go : ∀ {L}, Evl (fun k => if l < 0 then (some ([] : List Int)) else (compassref11_Below.l2 k P l 0 n E)) L → Evl (fun k => compassref11_Below.f k n E) L := fun hL => (cont _ hL).congr fun k => by
    rw [compassref11_Below.f, if_pos n0, if_pos (by omega)]; rfl
  rcases hl with ⟨rfl, e⟩ | ⟨l0, l1, lt, lh⟩
  · refine ⟨[], go (Evl.pure.congr fun k => by rw [if_pos (by decide)]), Or.inl ⟨rfl, fun j hj => ?_⟩⟩
    have a := pas_rel g (D := rnd n E n.toNat) (by rw [rnd_len]; omega) E.length (Nat.le_refl _) j hj
    have e' : pas E (rnd n E n.toNat) E.length = rnd n E n.toNat := e
    rw [e'] at a; exact a
  · have ch := chain_hot g V l0 l1 lt lh
    obtain ⟨a, b, ab, bn, eab⟩ := pigeon (m := n.toNat) (itr E P l) (fun i hi => by
      obtain ⟨-, x, y, -⟩ := ch i (by omega)
      exact ⟨x, by omega⟩)
    have per : ∀ k, itr E P l (a + (b - a) + k) = itr E P l (a + k) := fun k => by
      rw [show a + (b - a) = b by omega, itr_add, itr_add, ← eab]
    have back : ∀ j : Nat, ∃ i, i ≤ n.toNat ∧ itr E P l j = itr E P l i := by
      intro j
      induction j using Nat.strongRecOn with
      | _ j ih =>
        by_cases q : j ≤ n.toNat
        · exact ⟨j, q, rfl⟩
        · obtain ⟨i, i1, i2⟩ := ih (j - (b - a)) (by omega)
          refine ⟨i, i1, ?_⟩
          rw [← i2]
          have := per (j - b)
          rw [show a + (b - a) + (j - b) = j by omega, show a + (j - b) = j - (b - a) by omega] at this
          exact this
    have H : ∀ k, Hot n E (rnd n E (n.toNat + 1)) P tau (itr E P l k) := fun k => by
      obtain ⟨i, i1, i2⟩ := back k
      obtain ⟨x, y, z, -⟩ := ch i (by omega)
      rw [i2]; exact V.hot y z x
    have Hw : ∀ k, Hot n E (rnd n E (n.toNat + 1)) P tau (itr E P (itr E P l n.toNat) k) := fun k => by rw [← itr_add]; exact H _
    have cyc : 0 < b - a ∧ itr E P (itr E P l n.toNat) (b - a) = itr E P l n.toNat := ⟨by omega, by
      rw [← itr_add]
      have := per (n.toNat - a)
      rw [show a + (b - a) + (n.toNat - a) = n.toNat + (b - a) by omega, show a + (n.toNat - a) = n.toNat by omega] at this
      exact this⟩
    obtain ⟨p, p1, ⟨p2, p3⟩, p4⟩ := least_of (fun q => 0 < q ∧ itr E P (itr E P l n.toNat) q = itr E P l n.toNat) (b - a) cyc
    have least : ∀ q, 0 < q → q < p → itr E P (itr E P l n.toNat) q ≠ itr E P l n.toNat := fun q q0 q1 e => p4 q q1 ⟨q0, e⟩
    have fin := below_l3 n1 hP Hw p2 (by omega) p3 least (p - 1) 0 (by omega)
    refine ⟨_, go ((below_l2 n1 hP H n.toNat 0 (by omega) _ fin).congr fun k => by rw [if_neg (by omega)]; rfl), Or.inr (circle_of Hw p2 p3 least)⟩
end Go.Proofs.Ytkdoihcjhccliaa.G
namespace Go.Proofs.Ytkdoihcjhccliaa.G
open Go.RowKit Go.Proofs.Ytkdoihcjhccliaa.Q Go.Proofs.YtkdoihcjhccliaaW.PrintWords Go.Proofs.YtkdoihcjhccliaaW.PrintLast
set_option linter.unusedVariables false

theorem countP_setB (p : Bool → Bool) (l : List Bool) : ∀ (i : Nat) (x : Bool), i < l.length → p (l.getD i false) = true → p x = false → (l.set i x).countP p + 1 = l.countP p := by
  induction l with
  | nil => intro i x h; exact absurd h (by simp)
  | cons a t ih =>
    intro i x h hp hx
    cases i with
    | zero => simp at hp; simp [hp, hx]
    | succ i =>
      have := ih i x (by simpa using h) (by simpa using hp) hx
      simp only [List.set_cons_succ, List.countP_cons]
      omega
/-- How many nodes are not done. -/
def undone (B : List Bool) : Int := (B.countP fun b => !b : Nat)
theorem undone_nonneg (B : List Bool) : 0 ≤ undone B := by unfold undone; omega
theorem undone_set (B : List Bool) (i : Int) (h0 : 0 ≤ i) (h : i < (B.length : Int)) (hn : rdOf false B i = false) : undone (B.set i.toNat true) = undone B - 1 := by
  have := countP_setB (fun b => !b) B i.toNat true (by omega) (by unfold rdOf at hn; rw [hn]; rfl) rfl
  unfold undone; omega
theorem undone_none (B : List Bool) (h : undone B = 0) (v : Int) (v0 : 0 ≤ v) (v1 : v < (B.length : Int)) : rdOf false B v = true := by
  have h' : B.countP (fun b => !b) = 0 := by unfold undone at h; omega
  have := List.countP_eq_zero.mp h' (rdOf false B v) (getD_mem B false v.toNat (by omega))
  simpa using this

/-- An order so far, and the nodes in it. -/
structure St (n : Int) (E : List S98) (O : List Int) (B : List Bool) : Prop where
  len : (B.length : Int) = n
  num : (O.length : Int) + undone B = n
  mem : ∀ k, 0 ≤ k → k < (O.length : Int) → 0 ≤ rd O k ∧ rd O k < n ∧ rdOf false B (rd O k) = true
  cov : ∀ v, 0 ≤ v → v < n → rdOf false B v = true → ∃ k, 0 ≤ k ∧ k < (O.length : Int) ∧ rd O k = v
  dis : ∀ j k, 0 ≤ j → j < k → k < (O.length : Int) → rd O j ≠ rd O k
  fwd : ∀ i, 0 ≤ i → i < (E.length : Int) → ∀ k, 0 ≤ k → k < (O.length : Int) → rd O k = (rd_T98 E i).f1 → ∃ j, 0 ≤ j ∧ j < k ∧ rd O j = (rd_T98 E i).f0

/-- A node that may come next. -/
def Ready (E : List S98) (B : List Bool) (v : Int) : Prop := rdOf false B v = false ∧ ∀ i, 0 ≤ i → i < (E.length : Int) → (rd_T98 E i).f1 = v → rdOf false B (rd_T98 E i).f0 = true

theorem St.start (n : Int) (E : List S98) (n0 : 0 ≤ n) : St n E [] (List.replicate n.toNat false) := by
  refine ⟨by rw [List.length_replicate]; omega, ?_, fun k a b => by simp at b; omega, fun v a b h => by rw [rdOf_replicate _ _ _ _ a (by omega)] at h; simp at h, fun j k a b c => by simp at c; omega, fun i a b k c d => by simp at d; omega⟩
  unfold undone
  rw [List.countP_replicate, if_pos (by decide)]; simp; omega
theorem St.push {n : Int} {E : List S98} {O : List Int} {B : List Bool} (S : St n E O B) (hR : Right n E) {v : Int} (v0 : 0 ≤ v) (v1 : v < n) (hv : Ready E B v) : St n E (O ++ [v]) (B.set v.toNat true) := by
  have hl := S.len
  have hO : ((O ++ [v]).length : Int) = O.length + 1 := by simp
  have rk : ∀ k, 0 ≤ k → k < (O.length : Int) → rd (O ++ [v]) k = rd O k := fun k k0 k1 => by rw [rd_append _ _ _ k0, if_pos k1]
  have rl : ∀ k, k = (O.length : Int) → rd (O ++ [v]) k = v := fun k e => by rw [rd_append _ _ _ (by omega), if_neg (by omega), show k - (O.length : Int) = 0 by omega]; rfl
  have rb : ∀ x, 0 ≤ x → rdOf false (B.set v.toNat true) x = if x = v then true else rdOf false B x := fun x x0 => rdOf_set _ _ _ _ _ v0 (by omega) x0
  refine ⟨by rw [List.length_set]; exact hl, ?_, fun k k0 k1 => ?_, fun x x0 x1 hx => ?_, fun j k j0 j1 k1 => ?_, fun i i0 i1 k k0 k1 e => ?_⟩
  · rw [undone_set B v v0 (by omega) hv.1]; have := S.num; omega
  · by_cases e : k < (O.length : Int)
    · obtain ⟨a, b, c⟩ := S.mem k k0 e
      rw [rk k k0 e, rb _ a]
      exact ⟨a, b, by split; rfl; exact c⟩
    · rw [rl k (by omega), rb v v0, if_pos rfl]; exact ⟨v0, v1, rfl⟩
  · rw [rb x x0] at hx
    by_cases e : x = v
    · exact ⟨O.length, by omega, by omega, by rw [rl _ rfl, e]⟩
    · rw [if_neg e] at hx
      obtain ⟨k, k0, k1, ek⟩ := S.cov x x0 x1 hx
      exact ⟨k, k0, by omega, by rw [rk k k0 k1]; exact ek⟩
  · by_cases e : k < (O.length : Int)
    · rw [rk j j0 (by omega), rk k (by omega) e]; exact S.dis j k j0 j1 e
    · rw [rk j j0 (by omega), rl k (by omega)]
      intro q
      have := (S.mem j j0 (by omega)).2.2
      rw [q, hv.1] at this; cases this
  · by_cases h : k < (O.length : Int)
    · rw [rk k k0 h] at e
      obtain ⟨j, j0, j1, ej⟩ := S.fwd i i0 i1 k k0 h e
      exact ⟨j, j0, j1, by rw [rk j j0 (by omega)]; exact ej⟩
    · rw [rl k (by omega)] at e
      have re := hR.e i i0 i1
      obtain ⟨j, j0, j1, ej⟩ := S.cov _ re.a0 re.a1 (hv.2 i i0 i1 e.symm)
      exact ⟨j, j0, by omega, by rw [rk j j0 j1]; exact ej⟩

theorem may_f (n : Int) (E : List S98) (hR : Right n E) (B : List Bool) (hB : (B.length : Int) = n) (v : Int) :
    ((∀ i, 0 ≤ i → i < (E.length : Int) → (rd_T98 E i).f1 = v → rdOf false B (rd_T98 E i).f0 = true) → Evl (fun k => compassref04_may.f k n E B v) true) ∧
    ((¬ ∀ i, 0 ≤ i → i < (E.length : Int) → (rd_T98 E i).f1 = v → rdOf false B (rd_T98 E i).f0 = true) → Evl (fun k => compassref04_may.f k n E B v) false) := by
  have m1 := hR.m1
  have loop : ∀ (d : Nat) (i : Int), 0 ≤ i → i + d = (E.length : Int) → (∀ j, 0 ≤ j → j < i → (rd_T98 E j).f1 = v → rdOf false B (rd_T98 E j).f0 = true) →
      ((∀ i, 0 ≤ i → i < (E.length : Int) → (rd_T98 E i).f1 = v → rdOf false B (rd_T98 E i).f0 = true) → Evl (fun k => compassref04_may.l0 k B v i n E) true) ∧
      ((¬ ∀ i, 0 ≤ i → i < (E.length : Int) → (rd_T98 E i).f1 = v → rdOf false B (rd_T98 E i).f0 = true) → Evl (fun k => compassref04_may.l0 k B v i n E) false) := by
    intro d
    induction d with
    | zero =>
      intro i i0 hi hp
      exact ⟨fun _ => Evl.here fun k => by rw [compassref04_may.l0, if_neg (by omega)], fun h => absurd (fun j a b => hp j a (by omega)) h⟩
    | succ d ih =>
      intro i i0 hi hp
      have i1 : i < (E.length : Int) := by omega
      obtain ⟨a0, a1, b0, b1, -, -, -, -⟩ := hR.e i i0 i1
      have w := w1 (i := i) (by omega) (by omega)
      by_cases e : (rd_T98 E i).f1 = v
      · by_cases f : rdOf false B (rd_T98 E i).f0 = true
        · obtain ⟨h1, h2⟩ := ih (i + 1) (by omega) (by omega) (fun j a b q => by
            by_cases r : j = i
            · rw [r]; exact f
            · exact hp j a (by omega) q)
          have st : ∀ k, compassref04_may.l0 (k + 1) B v i n E = compassref04_may.l0 k B v (i + 1) n E := fun k => by
            rw [compassref04_may.l0, if_pos i1, if_pos i0, if_pos e, if_pos a0, if_pos (by omega), if_pos f, w]
          exact ⟨fun h => (h1 h).step st, fun h => (h2 h).step st⟩
        · exact ⟨fun h => absurd (h i i0 i1 e) f, fun _ => Evl.here fun k => by rw [compassref04_may.l0, if_pos i1, if_pos i0, if_pos e, if_pos a0, if_pos (by omega), if_neg f]⟩
      · obtain ⟨h1, h2⟩ := ih (i + 1) (by omega) (by omega) (fun j a b q => by
          by_cases r : j = i
          · rw [r] at q; exact absurd q e
          · exact hp j a (by omega) q)
        have st : ∀ k, compassref04_may.l0 (k + 1) B v i n E = compassref04_may.l0 k B v (i + 1) n E := fun k => by
          rw [compassref04_may.l0, if_pos i1, if_pos i0, if_neg e, w]
        exact ⟨fun h => (h1 h).step st, fun h => (h2 h).step st⟩
  obtain ⟨h1, h2⟩ := loop E.length 0 (Int.le_refl 0) (by omega) (fun j a b => by omega)
  exact ⟨fun h => (h1 h).congr fun k => rfl, fun h => (h2 h).congr fun k => rfl⟩

/-- The document's round, from node v down. -/
theorem ref_order_step (n : Int) (E : List S98) (hR : Right n E) (O : List Int) (B : List Bool) (hB : (B.length : Int) = n) (v : Int) (v0 : 0 ≤ v) (v1 : v < n) (x : Int) (r : List Int × Int) :
    (Ready E B v → Evl (fun k => compassref04_Order.l1 k B O v (v - 1) n E) r → Evl (fun k => compassref04_Order.l1 k B O x v n E) r) ∧
    (¬ Ready E B v → Evl (fun k => compassref04_Order.l1 k B O x (v - 1) n E) r → Evl (fun k => compassref04_Order.l1 k B O x v n E) r) := by
  have n1 := hR.n1
  have wv := wm (i := v) (by omega) (by omega)
  obtain ⟨h1, h2⟩ := may_f n E hR B hB v
  constructor
  · intro hr H
    refine (Evl.bind (h1 hr.2) (h := fun k t => if t = true then compassref04_Order.l1 k B O v (wrap64 (v - 1)) n E else compassref04_Order.l1 k B O x (wrap64 (v - 1)) n E) (r := r) (H.congr fun k => by rw [if_pos rfl, wv])).step fun k => ?_
    rw [compassref04_Order.l1, if_pos (by omega), if_pos v0, if_pos (by omega), if_neg (by rw [hr.1]; simp)]
  · intro hr H
    by_cases hd : rdOf false B v = true
    · exact H.step fun k => by rw [compassref04_Order.l1, if_pos (by omega), if_pos v0, if_pos (by omega), if_pos hd, wv]
    · refine (Evl.bind (h2 fun h => hr ⟨by simpa using hd, h⟩) (h := fun k t => if t = true then compassref04_Order.l1 k B O v (wrap64 (v - 1)) n E else compassref04_Order.l1 k B O x (wrap64 (v - 1)) n E) (r := r) (H.congr fun k => by rw [if_neg (by simp), wv])).step fun k => ?_
      rw [compassref04_Order.l1, if_pos (by omega), if_pos v0, if_pos (by omega), if_neg hd]
theorem ref_order_none (n : Int) (E : List S98) (hR : Right n E) (O : List Int) (B : List Bool) (hB : (B.length : Int) = n) (hno : ∀ u, 0 ≤ u → u < n → ¬ Ready E B u) (d : Nat) : ∀ v : Int, v + 1 = d → v < n →
    Evl (fun k => compassref04_Order.l1 k B O (-1) v n E) ([], 71) := by
  induction d with
  | zero => intro v hv h; exact Evl.here fun k => by rw [compassref04_Order.l1, if_neg (by omega), if_pos (by decide)]
  | succ d ih => intro v hv h; exact (ref_order_step n E hR O B hB v (by omega) h (-1) _).2 (hno v (by omega) h) (ih (v - 1) (by omega) (by omega))
theorem ref_order_below (n : Int) (E : List S98) (hR : Right n E) (O : List Int) (hO : (O.length : Int) ≤ 5000) (B : List Bool) (hB : (B.length : Int) = n) (u : Int) (u0 : 0 ≤ u) (u1 : u < n) (hno : ∀ y, 0 ≤ y → y < u → ¬ Ready E B y) (r : List Int × Int)
    (H : Evl (fun k => compassref04_Order.l0 k (B.set u.toNat true) (O ++ [u]) n E) r) (d : Nat) : ∀ v : Int, v + 1 = d → v < u → Evl (fun k => compassref04_Order.l1 k B O u v n E) r := by
  induction d with
  | zero => intro v hv h; exact H.step fun k => by rw [compassref04_Order.l1, if_neg (by omega), if_neg (by omega), if_pos u0, if_pos (by omega), if_pos (by omega)]
  | succ d ih => intro v hv h; exact (ref_order_step n E hR O B hB v (by omega) (by omega) u _).2 (hno v (by omega) h) (ih (v - 1) (by omega) (by omega))
theorem ref_order_some (n : Int) (E : List S98) (hR : Right n E) (O : List Int) (hO : (O.length : Int) ≤ 5000) (B : List Bool) (hB : (B.length : Int) = n) (u : Int) (u0 : 0 ≤ u) (u1 : u < n) (hu : Ready E B u) (hno : ∀ y, 0 ≤ y → y < u → ¬ Ready E B y) (r : List Int × Int)
    (H : Evl (fun k => compassref04_Order.l0 k (B.set u.toNat true) (O ++ [u]) n E) r) (d : Nat) : ∀ v x : Int, v = u + d → v < n → Evl (fun k => compassref04_Order.l1 k B O x v n E) r := by
  induction d with
  | zero =>
    intro v x hv h
    obtain rfl : v = u := by omega
    exact (ref_order_step n E hR O B hB v u0 h x _).1 hu (ref_order_below n E hR O hO B hB v u0 u1 hno r H v.toNat (v - 1) (by omega) (by omega))
  | succ d ih =>
    intro v x hv h
    by_cases hr : Ready E B v
    · exact (ref_order_step n E hR O B hB v (by omega) h x _).1 hr (ih (v - 1) v (by omega) (by omega))
    · exact (ref_order_step n E hR O B hB v (by omega) h x _).2 hr (ih (v - 1) x (by omega) (by omega))

/-- Nodes that wait for one another. -/
structure Stuck (n : Int) (E : List S98) (B : List Bool) : Prop where
  len : (B.length : Int) = n
  ex : ∃ v : Int, 0 ≤ v ∧ v < n ∧ rdOf false B v = false
  into : ∀ v : Int, 0 ≤ v → v < n → rdOf false B v = false → ∃ i : Int, 0 ≤ i ∧ i < (E.length : Int) ∧ (rd_T98 E i).f1 = v ∧ rdOf false B (rd_T98 E i).f0 = false

theorem St.topo {n : Int} {E : List S98} {O : List Int} {B : List Bool} (S : St n E O B) (h : (O.length : Int) = n) : Topo n E O := by
  refine ⟨⟨h, fun j j0 j1 => ?_, fun i j i0 ij j1 => S.dis i j i0 ij (by omega)⟩, fun i i0 i1 p q p0 p1 q0 q1 ep eq => ?_⟩
  · obtain ⟨a, b, -⟩ := S.mem j j0 (by omega)
    exact ⟨a, b⟩
  · obtain ⟨j, j0, j1, ej⟩ := S.fwd i i0 i1 q q0 (by omega) eq
    by_cases a : j < p
    · exact absurd (ej.trans ep.symm) (S.dis j p j0 a (by omega))
    · by_cases b : p < j
      · exact absurd (ep.trans ej.symm) (S.dis p j p0 b (by omega))
      · omega
theorem order_go {n : Int} {E : List S98} (hR : Right n E) (d : Nat) : ∀ (O : List Int) (B : List Bool), (O.length : Int) + d = n → St n E O B →
    (∃ O', Evl (fun k => compassref04_Order.l0 k B O n E) (O', 0) ∧ Topo n E O') ∨ (Evl (fun k => compassref04_Order.l0 k B O n E) ([], 71) ∧ ∃ B', Stuck n E B') := by
  have n1 := hR.n1
  induction d with
  | zero => intro O B hd S; exact Or.inl ⟨O, Evl.here fun k => by rw [compassref04_Order.l0, if_neg (by omega)], S.topo (by omega)⟩
  | succ d ih =>
    intro O B hd S
    have hB := S.len
    have wn := wm (i := n) (by omega) (by omega)
    by_cases hall : ∃ u : Nat, (u : Int) < n ∧ Ready E B u
    · obtain ⟨u0, hu0⟩ := hall
      obtain ⟨u, -, ⟨u1, hu⟩, hno⟩ := least_of (fun u : Nat => (u : Int) < n ∧ Ready E B u) u0 hu0
      have hno' : ∀ y : Int, 0 ≤ y → y < (u : Int) → ¬ Ready E B y := fun y y0 y1 hy => hno y.toNat (by omega) ⟨by omega, by rw [show ((y.toNat : Nat) : Int) = y by omega]; exact hy⟩
      have hO : ((O ++ [(u : Int)]).length : Int) = O.length + 1 := by simp
      have st : ∀ r, Evl (fun k => compassref04_Order.l0 k (B.set (u : Int).toNat true) (O ++ [(u : Int)]) n E) r → Evl (fun k => compassref04_Order.l0 k B O n E) r := fun r H =>
        (ref_order_some n E hR O (by omega) B hB u (by omega) u1 hu hno' _ H (n - 1 - u).toNat (n - 1) (-1) (by omega) (by omega)).step fun k => by rw [compassref04_Order.l0, if_pos (by omega), wn]
      rcases ih (O ++ [(u : Int)]) (B.set (u : Int).toNat true) (by omega) (S.push hR (by omega) u1 hu) with ⟨O', H, Z⟩ | ⟨H, Z⟩
      · exact Or.inl ⟨O', st _ H, Z⟩
      · exact Or.inr ⟨st _ H, Z⟩
    · have none : ∀ u, 0 ≤ u → u < n → ¬ Ready E B u := fun u u0 u1 h => hall ⟨u.toNat, by omega, by rw [show ((u.toNat : Nat) : Int) = u by omega]; exact h⟩
      have hnum := S.num
      refine Or.inr ⟨(ref_order_none n E hR O B hB none n.toNat (n - 1) (by omega) (by omega)).step fun k => by rw [compassref04_Order.l0, if_pos (by omega), wn], B, hB, ?_, fun v v0 v1 hv => ?_⟩
      · refine Classical.byContradiction fun h => ?_
        have all : B.countP (fun b => !b) = 0 := List.countP_eq_zero.mpr fun b hb => by
          obtain ⟨j, hj, e⟩ := List.mem_iff_getElem.mp hb
          by_cases q : rdOf false B (j : Int) = false
          · exact absurd ⟨(j : Int), by omega, by omega, q⟩ h
          · unfold rdOf at q
            rw [Int.toNat_natCast, List.getD_eq_getElem?_getD, List.getElem?_eq_getElem hj] at q
            rw [← e]; simpa using q
        have : undone B = 0 := by unfold undone; omega
        omega
      · refine Classical.byContradiction fun h => none v v0 v1 ⟨hv, fun i i0 i1 e => ?_⟩
        by_cases q : rdOf false B (rd_T98 E i).f0 = true
        · exact q
        · exact absurd ⟨i, i0, i1, e, by simpa using q⟩ h
theorem order_ref (n : Int) (E : List S98) : ∃ O c, Evl (fun k => compassref04_Order.f k n E) (O, c) ∧ ((c = 71 ∧ Right n E ∧ ∃ B, Stuck n E B) ∨ (c = 0 ∧ Right n E ∧ Topo n E O) ∨ (c ≠ 0 ∧ c ≠ 71)) := by
  obtain ⟨c, a, -, g2, g3, g4, -⟩ := check_f n E
  by_cases hc : c = 0
  · subst hc
    obtain ⟨-, hR⟩ := g3 rfl
    have n0 := hR.n0
    have n1 := hR.n1
    have key : ∀ r, Evl (fun k => compassref04_Order.l0 k (List.replicate n.toNat false) [] n E) r → Evl (fun k => compassref04_Order.f k n E) r := fun r H => by
      refine (Evl.bind g2 (h := fun k bt => if bt.1 = 0 then (if 0 ≤ n then (if n.toNat ≤ 281474976710656 then compassref04_Order.l0 k (List.replicate n.toNat false) [] n E else none) else none) else some (([] : List Int), bt.1)) ?_).congr fun k => rfl
      exact H.congr fun k => by rw [if_pos rfl, if_pos n0, if_pos (by omega)]
    rcases order_go hR n.toNat [] (List.replicate n.toNat false) (by simp; omega) (St.start n E n0) with ⟨O, H, Z⟩ | ⟨H, Z⟩
    · exact ⟨O, 0, key _ H, Or.inr (Or.inl ⟨rfl, hR, Z⟩)⟩
    · exact ⟨[], 71, key _ H, Or.inl ⟨rfl, hR, Z⟩⟩
  · refine ⟨[], c, (Evl.bind g2 (h := fun k bt => if bt.1 = 0 then (if 0 ≤ n then (if n.toNat ≤ 281474976710656 then compassref04_Order.l0 k (List.replicate n.toNat false) [] n E else none) else none) else some (([] : List Int), bt.1)) (Evl.pure.congr fun k => by rw [if_neg hc])).congr fun k => rfl, Or.inr (Or.inr ⟨hc, ?_⟩)⟩
    omega
end Go.Proofs.Ytkdoihcjhccliaa.G
namespace Go.Proofs.Ytkdoihcjhccliaa.G
open Go.RowKit Go.Proofs.Ytkdoihcjhccliaa.Q Go.Proofs.YtkdoihcjhccliaaW.PrintWords Go.Proofs.YtkdoihcjhccliaaW.PrintLast
set_option linter.unusedVariables false

theorem rd98_set (X : List S98) (e : S98) (i j : Int) (h0 : 0 ≤ i) (h : i < (X.length : Int)) (hj : 0 ≤ j) : rd_T98 (X.set i.toNat e) j = if j = i then e else rd_T98 X j := by
  unfold rd_T98; rw [getD_set _ _ _ _ _ (by omega)]
  by_cases q : j = i
  · rw [if_pos q, if_pos (by omega)]
  · rw [if_neg q, if_neg (by omega)]
theorem copy_f (n : Int) (E : List S98) (hm : (E.length : Int) ≤ 100000) : Evl (fun k => compassref03_Copy.f k n E) (n, E) := by
  have loop : ∀ (d i : Nat), i + d = E.length → Evl (fun k => compassref03_Copy.l0 k i n E n (E.take i)) (n, E) := by
    intro d
    induction d with
    | zero =>
      intro i hi
      rw [List.take_of_length_le (by omega)]
      exact Evl.here fun k => by rw [compassref03_Copy.l0, if_neg (by omega)]
    | succ d ih =>
      intro i hi
      have tk : E.take (i + 1) = E.take i ++ [(⟨(rd_T98 E i).f0, (rd_T98 E i).f1, (rd_T98 E i).f2, (rd_T98 E i).f3⟩ : S98)] := by
        rw [List.take_succ_eq_append_getElem (by omega)]
        unfold rd_T98; rw [List.getD_eq_getElem?_getD, show ((i : Int).toNat) = i by omega, List.getElem?_eq_getElem (by omega)]; rfl
      have hl : (E.take i).length ≤ E.length := List.length_take_le' i E
      refine (ih (i + 1) (by omega)).step fun k => ?_
      rw [compassref03_Copy.l0, if_pos (by omega), if_pos (by omega), if_pos (by omega), w1 (by omega) (by omega), tk]; rfl
  exact (loop E.length 0 (by omega)).congr fun k => rfl

/-- Y is the graph with each cost times q, less p. -/
structure Scal (E : List S98) (p q : Int) (Y : List S98) : Prop where
  len : Y.length = E.length
  el : ∀ j : Int, 0 ≤ j → j < (E.length : Int) → rd_T98 Y j = ⟨(rd_T98 E j).f0, (rd_T98 E j).f1, (rd_T98 E j).f2, (rd_T98 E j).f3 * q - p⟩
theorem scaled_f {n : Int} {E : List S98} (R : Right n E) {p q : Int} (hw : ∀ j : Int, 0 ≤ j → j < (E.length : Int) → wrap64 ((rd_T98 E j).f3 * q) = (rd_T98 E j).f3 * q ∧ wrap64 ((rd_T98 E j).f3 * q - p) = (rd_T98 E j).f3 * q - p) :
    ∃ Y, Evl (fun k => compassref11_scaled.f k n E p q) (n, Y) ∧ Scal E p q Y := by
  have m1 := R.m1
  have loop : ∀ (d i : Nat) (X : List S98), i + d = E.length → X.length = E.length → (∀ j : Int, 0 ≤ j → j < (i : Int) → rd_T98 X j = ⟨(rd_T98 E j).f0, (rd_T98 E j).f1, (rd_T98 E j).f2, (rd_T98 E j).f3 * q - p⟩) → (∀ j : Int, (i : Int) ≤ j → j < (E.length : Int) → rd_T98 X j = rd_T98 E j) →
      ∃ Y, Evl (fun k => compassref11_scaled.l0 k p q i n X) (n, Y) ∧ Scal E p q Y := by
    intro d
    induction d with
    | zero =>
      intro i X hi hX h1 h2
      exact ⟨X, Evl.here fun k => by rw [compassref11_scaled.l0, if_neg (by omega)], hX, fun j j0 j1 => h1 j j0 (by omega)⟩
    | succ d ih =>
      intro i X hi hX h1 h2
      obtain ⟨wa, wb⟩ := hw i (by omega) (by omega)
      have hx := h2 i (by omega) (by omega)
      have rs : ∀ (e : S98) (j : Int), 0 ≤ j → rd_T98 (X.set (i : Int).toNat e) j = if j = i then e else rd_T98 X j := fun e j j0 => rd98_set X e i j (by omega) (by omega) j0
      obtain ⟨Y, y1, y2⟩ := ih (i + 1) (X.set (i : Int).toNat (⟨(rd_T98 E i).f0, (rd_T98 E i).f1, (rd_T98 E i).f2, (rd_T98 E i).f3 * q - p⟩ : S98)) (by omega) (by rw [List.length_set]; exact hX) (fun j j0 j1 => by
        rw [rs _ j j0]
        by_cases z : j = i
        · rw [if_pos z, z]
        · rw [if_neg z]; exact h1 j j0 (by omega)) (fun j j0 j1 => by rw [rs _ j (by omega), if_neg (by omega)]; exact h2 j (by omega) j1)
      refine ⟨Y, y1.step fun k => ?_, y2⟩
      rw [compassref11_scaled.l0, if_pos (by omega), if_pos (by omega), hx, wa, wb, w1 (by omega) (by omega)]; rfl
  obtain ⟨Y, y1, y2⟩ := loop E.length 0 E (by omega) rfl (fun j a b => by omega) (fun _ _ _ => rfl)
  exact ⟨Y, (Evl.bind (h := fun k (bt : Int × List S98) => compassref11_scaled.l0 k p q 0 bt.1 bt.2) (copy_f n E (by omega)) y1).congr fun k => rfl, y2⟩

theorem Circ.ring {E : List S98} {L : List Int} (h : Circ E L) : Ring E L := by
  have pos := h.pos
  refine ⟨by omega, fun k k0 k1 => ?_, fun i j i0 ij j1 => ?_⟩
  · have e := h.el k.toNat (by omega)
    rw [show ((k.toNat : Nat) : Int) = k by omega] at e
    by_cases z : k + 1 < (L.length : Int)
    · have nz : nx L.length k = k + 1 := by unfold nx; rw [if_pos z]
      have e' := h.el (k.toNat + 1) (by omega)
      have o := h.on k.toNat (by omega)
      rw [show ((k.toNat + 1 : Nat) : Int) = k + 1 by omega] at e' o
      rw [show ((k.toNat : Nat) : Int) = k by omega] at o
      exact ⟨e.1, e.2, by rw [nz]; exact e'.1, by rw [nz]; exact e'.2, by rw [nz]; exact o⟩
    · have nz : nx L.length k = 0 := by unfold nx; rw [if_neg z]
      have e' := h.el 0 pos
      have o := h.cl
      rw [show ((L.length - 1 : Nat) : Int) = k by omega] at o
      exact ⟨e.1, e.2, by rw [nz]; exact e'.1, by rw [nz]; exact e'.2, by rw [nz]; exact o⟩
  · have := h.once i.toNat j.toNat (by omega) (by omega)
    rw [show ((i.toNat : Nat) : Int) = i by omega, show ((j.toNat : Nat) : Int) = j by omega] at this
    exact this
theorem csum_cons (E : List S98) (x : Int) (L : List Int) : ∀ k : Nat, csum E (x :: L) (k + 1) = (rd_T98 E x).f3 + csum E L k
  | 0 => by show 0 + (rd_T98 E (rd (x :: L) 0)).f3 = _ + 0; rw [rd_cons0]; omega
  | k + 1 => by
    have e : csum E (x :: L) (k + 1 + 1) = csum E (x :: L) (k + 1) + (rd_T98 E (rd (x :: L) ((k + 1 : Nat) : Int))).f3 := rfl
    rw [e, csum_cons E x L k, rd_cons1 _ _ _ (by omega), show ((k + 1 : Nat) : Int) - 1 = (k : Int) by omega, csum]; omega
theorem csum_cst (E : List S98) : ∀ L : List Int, csum E L L.length = cst E L
  | [] => rfl
  | x :: L => by rw [List.length_cons, csum_cons, csum_cst E L, cst]
theorem cst_scal {E Y : List S98} {p q : Int} (h : Scal E p q Y) : ∀ L : List Int, (∀ i ∈ L, 0 ≤ i ∧ i < (E.length : Int)) → cst Y L = q * cst E L - p * (L.length : Int)
  | [], _ => by show (0 : Int) = q * 0 - p * 0; simp
  | i :: L, hi => by
    obtain ⟨i0, i1⟩ := hi i (List.mem_cons_self ..)
    rw [cst, cst, cst_scal h L (fun j hj => hi j (List.mem_cons_of_mem _ hj)), h.el i i0 i1, List.length_cons, Int.natCast_add, Int.mul_add, Int.mul_add]
    show (rd_T98 E i).f3 * q - p + _ = _
    rw [show p * ((1 : Nat) : Int) = p by simp, Int.mul_comm (rd_T98 E i).f3 q]; omega
theorem Circ.mem {E : List S98} {L : List Int} (h : Circ E L) : ∀ i ∈ L, 0 ≤ i ∧ i < (E.length : Int) := fun i hi => by
  obtain ⟨j, j0, j1, rfl⟩ := mem_rd hi
  have := h.el j.toNat (by omega)
  rw [show ((j.toNat : Nat) : Int) = j by omega] at this; exact this
theorem Circ.scal {E Y : List S98} {p q : Int} (h : Scal E p q Y) {L : List Int} (c : Circ Y L) : Circ E L := by
  have hl := h.len
  have f0 : ∀ i : Int, 0 ≤ i → i < (E.length : Int) → (rd_T98 Y i).f0 = (rd_T98 E i).f0 := fun i i0 i1 => by rw [h.el i i0 i1]
  have f1 : ∀ i : Int, 0 ≤ i → i < (E.length : Int) → (rd_T98 Y i).f1 = (rd_T98 E i).f1 := fun i i0 i1 => by rw [h.el i i0 i1]
  have el : ∀ j : Nat, j < L.length → 0 ≤ rd L j ∧ rd L j < (E.length : Int) := fun j hj => by have := c.el j hj; omega
  have pos := c.pos
  refine ⟨pos, el, fun j hj => ?_, ?_, fun i j ij hj => ?_⟩
  · have a := el j (by omega)
    have b := el (j + 1) hj
    have o := c.on j hj
    rw [f1 _ a.1 a.2, f0 _ b.1 b.2] at o; exact o
  · have a := el (L.length - 1) (by omega)
    have b : 0 ≤ rd L 0 ∧ rd L 0 < (E.length : Int) := el 0 pos
    have o := c.cl
    rw [f1 _ a.1 a.2, f0 _ b.1 b.2] at o; exact o
  · have a := el i (by omega)
    have b := el j hj
    have o := c.once i j ij hj
    rw [f1 _ a.1 a.2, f1 _ b.1 b.2] at o; exact o
theorem Scal.gr {n : Int} {E Y : List S98} (R : Right n E) {p q : Int} (h : Scal E p q Y) {C : Int} (c0 : 0 ≤ C) (c1 : C ≤ 134217728) (hb : ∀ j : Int, 0 ≤ j → j < (E.length : Int) → -C ≤ (rd_T98 E j).f3 * q - p ∧ (rd_T98 E j).f3 * q - p ≤ C) : Gr n Y C := by
  have n1 := R.n1
  have m1 := R.m1
  have hl := h.len
  refine ⟨R.n0, by omega, by omega, c0, c1, fun i i0 i1 => ?_⟩
  have e := R.e i i0 (by omega)
  have b := hb i i0 (by omega)
  rw [h.el i i0 (by omega)]
  exact ⟨⟨e.a0, e.a1⟩, ⟨e.b0, e.b1⟩, b⟩
/-- Products of costs and lengths stay small. -/
theorem cost_small {n : Int} {E : List S98} (R : Right n E) (n6 : n ≤ 64) {q p : Int} (q0 : 0 ≤ q) (q1 : q ≤ 64) (p0 : -67108864 ≤ p) (p1 : p ≤ 67108864) (j : Int) (j0 : 0 ≤ j) (j1 : j < (E.length : Int)) : -134217728 ≤ (rd_T98 E j).f3 * q - p ∧ (rd_T98 E j).f3 * q - p ≤ 134217728 := by
  have e := R.e j j0 j1
  have d0 := e.d0
  have d1 := e.d1
  have a : (rd_T98 E j).f3 * q ≤ 1048576 * q := Int.mul_le_mul_of_nonneg_right d1 q0
  have b : -1048576 * q ≤ (rd_T98 E j).f3 * q := Int.mul_le_mul_of_nonneg_right d0 q0
  omega
theorem scaled_ok {n : Int} {E : List S98} (R : Right n E) (n6 : n ≤ 64) {q p : Int} (q0 : 0 ≤ q) (q1 : q ≤ 64) (p0 : -67108864 ≤ p) (p1 : p ≤ 67108864) : ∃ Y, Evl (fun k => compassref11_scaled.f k n E p q) (n, Y) ∧ Scal E p q Y ∧ Gr n Y 134217728 := by
  have sm := fun j j0 j1 => cost_small R n6 q0 q1 p0 p1 j j0 j1
  obtain ⟨Y, y1, y2⟩ := scaled_f R (p := p) (q := q) (fun j j0 j1 => by have := sm j j0 j1; exact ⟨wr (by omega) (by omega), wr (by omega) (by omega)⟩)
  exact ⟨Y, y1, y2, y2.gr R (by omega) (by omega) sm⟩

theorem least_l3 {n : Int} {E Y : List S98} {L : List Int} {C : Int} (g : Gr n Y C) {r : Nat} (hr : (r : Int) ≤ n) (d : Nat) : ∀ i : Nat, i + d = Y.length →
    ∀ z, Evl (fun k => compassref11_LeastMean.l2 k L (rnd n Y (r + 1)) ((r : Int) + 1) n E n Y) z → Evl (fun k => compassref11_LeastMean.l3 k L (pas Y (rnd n Y r) i) r i n E n Y) z := by
  have n0 := g.n0
  have n1 := g.n1
  have m1 := g.m1
  induction d with
  | zero =>
    intro i hi z hz
    have e : i = Y.length := by omega
    subst e
    refine hz.step fun k => ?_
    rw [compassref11_LeastMean.l3, if_neg (by omega), w1 (by omega) (by omega)]; rfl
  | succ d ih =>
    intro i hi z hz
    have gi : (i : Int) < (Y.length : Int) := by omega
    have g0 : (0 : Int) ≤ i := by omega
    have il : i < Y.length := by omega
    have hD : ((pas Y (rnd n Y r) i).length : Int) = n := by rw [pas_len, rnd_len]; omega
    obtain ⟨⟨a0, a1⟩, ⟨b0, b1⟩, -⟩ := g.e i g0 gi
    have w : wrap64 ((i : Int) + 1) = ((i + 1 : Nat) : Int) := by rw [w1 (by omega) (by omega)]; rfl
    have ga : (rd_T98 Y i).f0 < ((pas Y (rnd n Y r) i).length : Int) := by omega
    have gb : (rd_T98 Y i).f1 < ((pas Y (rnd n Y r) i).length : Int) := by omega
    have ws := pas_ws g hr il
    have nx := ih (i + 1) (by omega) z hz
    by_cases q : rd (pas Y (rnd n Y r) i) (rd_T98 Y i).f0 + (rd_T98 Y i).f3 < rd (pas Y (rnd n Y r) i) (rd_T98 Y i).f1
    · have ps : pas Y (rnd n Y r) (i + 1) = (pas Y (rnd n Y r) i).set (rd_T98 Y i).f1.toNat (rd (pas Y (rnd n Y r) i) (rd_T98 Y i).f0 + (rd_T98 Y i).f3) := by rw [pas, rlx, if_pos q]
      refine nx.step fun k => ?_
      rw [compassref11_LeastMean.l3, if_pos gi, if_pos g0, if_pos a0, if_pos ga, if_pos b0, if_pos gb, ws, if_pos q, w, ps]
    · have ps : pas Y (rnd n Y r) (i + 1) = pas Y (rnd n Y r) i := by rw [pas, rlx, if_neg q]
      rw [ps] at nx
      refine nx.step fun k => ?_
      rw [compassref11_LeastMean.l3, if_pos gi, if_pos g0, if_pos a0, if_pos ga, if_pos b0, if_pos gb, ws, if_neg q, w]
theorem least_l2 {n : Int} {E Y : List S98} {L : List Int} {C : Int} (g : Gr n Y C) (d : Nat) : ∀ r : Nat, ((r + d : Nat) : Int) = n → Evl (fun k => compassref11_LeastMean.l2 k L (rnd n Y r) r n E n Y) (L, rnd n Y n.toNat) := by
  induction d with
  | zero =>
    intro r hr
    have e : r = n.toNat := by omega
    subst e
    exact Evl.here fun k => by rw [compassref11_LeastMean.l2, if_neg (by omega)]
  | succ d ih =>
    intro r hr
    have a := least_l3 (E := E) (L := L) g (r := r) (by omega) Y.length 0 (by omega) _ ((ih (r + 1) (by omega)).congr fun k => rfl)
    exact a.step fun k => by rw [compassref11_LeastMean.l2, if_pos (by omega)]; rfl

/-- A number that all small ones divide. -/
theorem all_dvd (m : Nat) : ∃ D : Nat, 0 < D ∧ ∀ k, 0 < k → k ≤ m → k ∣ D := by
  induction m with
  | zero => exact ⟨1, by omega, fun k a b => by omega⟩
  | succ m ih =>
    obtain ⟨D, d0, d1⟩ := ih
    refine ⟨D * (m + 1), Nat.mul_pos d0 (by omega), fun k a b => ?_⟩
    by_cases q : k = m + 1
    · rw [q]; exact Nat.dvd_mul_left _ _
    · exact Nat.dvd_trans (d1 k a (by omega)) (Nat.dvd_mul_right _ _)
/-- Of two circles the one of lesser mean has the lesser count. -/
theorem mean_less {c c' len len' a a' D : Int} (h0 : 0 < a) (h0' : 0 < a') (d0 : 0 < D) (hD : len * a = D) (hD' : len' * a' = D) (h : c' * len < c * len') : c' * a' < c * a := by
  refine Classical.byContradiction fun no => ?_
  have ge : c * a ≤ c' * a' := by omega
  have p : 0 < a * a' := Int.mul_pos h0 h0'
  have e1 : c' * len * (a * a') = c' * a' * D := by rw [← hD, Int.mul_assoc, Int.mul_assoc, ← Int.mul_assoc len a a', Int.mul_comm (len * a) a']
  have e2 : c * len' * (a * a') = c * a * D := by rw [← hD', Int.mul_assoc, Int.mul_assoc, Int.mul_comm a a', ← Int.mul_assoc len' a' a, Int.mul_comm (len' * a') a]
  have lt := Int.mul_lt_mul_of_pos_right h p
  rw [e1, e2] at lt
  have := Int.mul_le_mul_of_nonneg_right ge (Int.le_of_lt d0)
  omega

structure Best (n : Int) (E : List S98) (L P : List Int) : Prop where
  circ : Circ E L
  pots : Pots n P
  fine : Fine E P L.length (csum E L L.length)
theorem circ_bounds {n : Int} {E : List S98} (R : Right n E) (n6 : n ≤ 64) {L : List Int} (h : Circ E L) : 0 < (L.length : Int) ∧ (L.length : Int) ≤ 64 ∧ -((L.length : Int) * 1048576) ≤ cst E L ∧ cst E L ≤ (L.length : Int) * 1048576 := by
  have hn := h.ring.le_nodes R
  have pos := h.pos
  have cs := csum_le R (l := L) (m := L.length) (fun k k0 k1 => by
    have := h.el k.toNat (by omega)
    rw [show ((k.toNat : Nat) : Int) = k by omega] at this; exact this) L.length (Nat.le_refl _)
  rw [csum_cst] at cs
  exact ⟨by omega, by omega, cs.1, cs.2⟩

theorem least_l1 {n : Int} {E : List S98} (R : Right n E) (n6 : n ≤ 64) (m6 : (E.length : Int) ≤ 256) {D : Nat} (d0 : 0 < D) (hD : ∀ k, 0 < k → k ≤ 64 → k ∣ D) (N : Nat) : ∀ L : List Int, Circ E L → ∀ a : Int, (L.length : Int) * a = D → ((cst E L + 1048576 * (L.length : Int)) * a).toNat ≤ N →
    ∃ L' P, Evl (fun k => compassref11_LeastMean.l1 k L n E) (L', P) ∧ Best n E L' P := by
  have n0 := R.n0
  have m1 := R.m1
  induction N using Nat.strongRecOn with
  | _ N ih =>
    intro L hL a ha hN
    obtain ⟨l0, l1, c0, c1⟩ := circ_bounds R n6 hL
    have ap : 0 < a := by
      refine Classical.byContradiction fun no => ?_
      have := Int.mul_nonpos_of_nonneg_of_nonpos (Int.le_of_lt l0) (show a ≤ 0 by omega)
      omega
    have hc := cost_f R (l := L) (by omega) (fun k k0 k1 => by
      have := hL.el k.toNat (by omega)
      rw [show ((k.toNat : Nat) : Int) = k by omega] at this; exact this)
    have ce := csum_cst E L
    obtain ⟨Y, y1, S, g⟩ := scaled_ok R n6 (p := csum E L L.length) (q := (L.length : Int)) (by omega) l1 (by omega) (by omega)
    obtain ⟨B, b1, b2⟩ := below_f g
    have go : ∀ {z}, Evl (fun k => if (B.length : Int) = 0 then (if 0 ≤ n then (if (n : Int).toNat ≤ 35184372088832 then (compassref11_LeastMean.l2 k L (List.replicate (n : Int).toNat 0) 0 n E n Y) else (none)) else (none)) else (compassref11_LeastMean.l1 k B n E)) z → Evl (fun k => compassref11_LeastMean.l1 k L n E) z := fun hz =>
      (Evl.bind (h := fun k t501 => (compassref11_scaled.f k n E t501 (L.length : Int)).bind fun bt502 => ((compassref11_Below.f k bt502.1 bt502.2).bind fun t507 => (if (t507.length : Int) = 0 then (if 0 ≤ n then (if (n : Int).toNat ≤ 35184372088832 then (compassref11_LeastMean.l2 k L (List.replicate (n : Int).toNat 0) 0 n E bt502.1 bt502.2) else (none)) else (none)) else (compassref11_LeastMean.l1 k t507 n E)))) hc
        (Evl.bind (h := fun k (bt502 : Int × List S98) => (compassref11_Below.f k bt502.1 bt502.2).bind fun t507 => (if (t507.length : Int) = 0 then (if 0 ≤ n then (if (n : Int).toNat ≤ 35184372088832 then (compassref11_LeastMean.l2 k L (List.replicate (n : Int).toNat 0) 0 n E bt502.1 bt502.2) else (none)) else (none)) else (compassref11_LeastMean.l1 k t507 n E))) y1
          (Evl.bind (h := fun k t507 => if (t507.length : Int) = 0 then (if 0 ≤ n then (if (n : Int).toNat ≤ 35184372088832 then (compassref11_LeastMean.l2 k L (List.replicate (n : Int).toNat 0) 0 n E n Y) else (none)) else (none)) else (compassref11_LeastMean.l1 k t507 n E)) b1 hz))).step fun k => by rw [compassref11_LeastMean.l1]
    have Yl := S.len
    rcases b2 with ⟨rfl, feas⟩ | ⟨cB, cn⟩
    · refine ⟨L, rnd n Y n.toNat, go ((least_l2 (E := E) (L := L) g n.toNat 0 (by omega)).congr fun k => by rw [if_pos (show (([] : List Int).length : Int) = 0 from rfl), if_pos n0, if_pos (by omega)]; rfl), hL, ⟨by rw [rnd_len]; omega, fun v v0 v1 => ?_⟩, fun i i0 i1 => ?_⟩
      · have hi := rnd_hi g v v0 v1 n.toNat
        have lo := rnd_lo g n.toNat v v0 v1
        have b : n.toNat * Y.length ≤ 64 * 256 := Nat.mul_le_mul (by omega) (by omega)
        have b' : ((n.toNat * Y.length : Nat) : Int) * 134217728 ≤ 16384 * 134217728 := Int.mul_le_mul_of_nonneg_right (by omega) (by decide)
        generalize ((n.toNat * Y.length : Nat) : Int) * 134217728 = z at lo b'
        exact ⟨by omega, by omega⟩
      · have f := feas i.toNat (by omega)
        rw [show ((i.toNat : Nat) : Int) = i by omega, S.el i i0 i1] at f
        have f' : rd (rnd n Y n.toNat) (rd_T98 E i).f1 ≤ rd (rnd n Y n.toNat) (rd_T98 E i).f0 + ((rd_T98 E i).f3 * (L.length : Int) - csum E L L.length) := f
        unfold red
        rw [Int.mul_comm]; omega
    · have cE := cB.scal S
      obtain ⟨k0, k1, e0, e1⟩ := circ_bounds R n6 cE
      obtain ⟨b, hb⟩ := hD B.length (by omega) (by omega)
      have hb' : (B.length : Int) * (b : Int) = (D : Int) := by rw [hb, Int.natCast_mul]
      have bp : 0 < (b : Int) := by
        refine Classical.byContradiction fun no => ?_
        have := Int.mul_nonpos_of_nonneg_of_nonpos (Int.le_of_lt k0) (show (b : Int) ≤ 0 by omega)
        omega
      have cs := cst_scal S B cE.mem
      rw [cs, ce] at cn
      have less : cst E B * (L.length : Int) < cst E L * (B.length : Int) := by rw [Int.mul_comm (cst E B)]; omega
      have ml := mean_less ap bp (by omega) ha hb' less
      have u1 : (cst E L + 1048576 * (L.length : Int)) * a = cst E L * a + 1048576 * (D : Int) := by rw [Int.add_mul, Int.mul_assoc, ha]
      have u2 : (cst E B + 1048576 * (B.length : Int)) * (b : Int) = cst E B * (b : Int) + 1048576 * (D : Int) := by rw [Int.add_mul, Int.mul_assoc, hb']
      have nn : 0 ≤ (cst E B + 1048576 * (B.length : Int)) * (b : Int) := Int.mul_nonneg (by omega) (by omega)
      obtain ⟨L', P, z1, z2⟩ := ih ((cst E B + 1048576 * (B.length : Int)) * (b : Int)).toNat (by omega) B cE b hb' (Nat.le_refl _)
      exact ⟨L', P, go (z1.congr fun k => by rw [if_neg (by omega)]), z2⟩

/-- Where nodes wait for one another, no potentials fall along all edges. -/
theorem Stuck.none {n : Int} {E : List S98} {B : List Bool} (h : Stuck n E B) (P : Int → Int) (hi : ∀ v : Int, 0 ≤ v → v < n → P v ≤ 0) (R : Right n E) (low : ∀ i : Int, 0 ≤ i → i < (E.length : Int) → P (rd_T98 E i).f1 < P (rd_T98 E i).f0) : False := by
  have key : ∀ (N : Nat) (v : Int), 0 ≤ v → v < n → rdOf false B v = false → P v ≤ -(N : Int) := by
    intro N
    induction N with
    | zero => intro v v0 v1 _; have := hi v v0 v1; omega
    | succ N ih =>
      intro v v0 v1 hv
      obtain ⟨i, i0, i1, e1, e2⟩ := h.into v v0 v1 hv
      have r := R.e i i0 i1
      have a := ih _ r.a0 r.a1 e2
      have b := low i i0 i1
      rw [e1] at b
      omega
  obtain ⟨v, v0, v1, hv⟩ := h.ex
  have := key ((-(P v)).toNat + 1) v v0 v1 hv
  have := hi v v0 v1
  omega

/-- Where there is a circle the document finds one of least mean. -/
theorem least_f {n : Int} {E : List S98} (R : Right n E) (n6 : n ≤ 64) (m6 : (E.length : Int) ≤ 256) {W : List Bool} (hW : Stuck n E W) : ∃ L P, Evl (fun k => compassref11_LeastMean.f k n E) (L, P) ∧ Best n E L P := by
  obtain ⟨D, d0, hD⟩ := all_dvd 64
  have n0 := R.n0
  -- the greatest cost, once more
  obtain ⟨x, x0, x1, hx, st⟩ : ∃ x : Int, 1 ≤ x ∧ x ≤ 1048577 ∧ (∀ j : Int, 0 ≤ j → j < (E.length : Int) → (rd_T98 E j).f3 < x) ∧ ∀ z, Evl (fun k => (compassref11_scaled.f k n E x 1).bind fun bt494 => ((compassref11_Below.f k bt494.1 bt494.2).bind fun t498 => (if (t498.length : Int) = 0 then (some (([] : List Int), ([] : List Int))) else (compassref11_LeastMean.l1 k t498 n E)))) z → Evl (fun k => compassref11_LeastMean.f k n E) z := by
    have m1 := R.m1
    have loop : ∀ (d i : Nat) (x : Int), i + d = E.length → 1 ≤ x → x ≤ 1048577 → (∀ j : Int, 0 ≤ j → j < (i : Int) → (rd_T98 E j).f3 < x) →
        ∃ y : Int, 1 ≤ y ∧ y ≤ 1048577 ∧ (∀ j : Int, 0 ≤ j → j < (E.length : Int) → (rd_T98 E j).f3 < y) ∧ ∀ z, Evl (fun k => (compassref11_scaled.f k n E y 1).bind fun bt494 => ((compassref11_Below.f k bt494.1 bt494.2).bind fun t498 => (if (t498.length : Int) = 0 then (some (([] : List Int), ([] : List Int))) else (compassref11_LeastMean.l1 k t498 n E)))) z → Evl (fun k => compassref11_LeastMean.l0 k x i n E) z := by
      intro d
      induction d with
      | zero =>
        intro i x hi x0 x1 h
        exact ⟨x, x0, x1, fun j j0 j1 => h j j0 (by omega), fun z hz => hz.step fun k => by rw [compassref11_LeastMean.l0, if_neg (by omega)]⟩
      | succ d ih =>
        intro i x hi x0 x1 h
        have e := R.e i (by omega) (by omega)
        have e1 := e.d1
        have e0 := e.d0
        have w : wrap64 ((i : Int) + 1) = ((i + 1 : Nat) : Int) := by rw [w1 (by omega) (by omega)]; rfl
        by_cases q : (rd_T98 E i).f3 ≥ x
        · obtain ⟨y, y0, y1, y2, y3⟩ := ih (i + 1) ((rd_T98 E i).f3 + 1) (by omega) (by omega) (by omega) (fun j j0 j1 => by
            by_cases y : j = i
            · rw [y]; omega
            · have := h j j0 (by omega); omega)
          exact ⟨y, y0, y1, y2, fun z hz => (y3 z hz).step fun k => by rw [compassref11_LeastMean.l0, if_pos (by omega), if_pos (by omega), if_pos q, w, w1 (by omega) (by omega)]⟩
        · obtain ⟨y, y0, y1, y2, y3⟩ := ih (i + 1) x (by omega) x0 x1 (fun j j0 j1 => by
            by_cases y : j = i
            · rw [y]; omega
            · exact h j j0 (by omega))
          exact ⟨y, y0, y1, y2, fun z hz => (y3 z hz).step fun k => by rw [compassref11_LeastMean.l0, if_pos (by omega), if_pos (by omega), if_neg q, w]⟩
    obtain ⟨y, y0, y1, y2, y3⟩ := loop E.length 0 1 (by omega) (by omega) (by omega) (fun j a b => by omega)
    exact ⟨y, y0, y1, y2, fun z hz => (y3 z hz).congr fun k => rfl⟩
  obtain ⟨Y, s1, S, g⟩ := scaled_ok R n6 (p := x) (q := 1) (by omega) (by omega) (by omega) (by omega)
  obtain ⟨B, b1, b2⟩ := below_f g
  have Yl := S.len
  rcases b2 with ⟨rfl, feas⟩ | ⟨cB, cn⟩
  · exfalso
    refine hW.none (fun v => rd (rnd n Y n.toNat) v) (fun v v0 v1 => rnd_hi g v v0 v1 _) R fun i i0 i1 => ?_
    have f := feas i.toNat (by omega)
    rw [show ((i.toNat : Nat) : Int) = i by omega, S.el i i0 i1] at f
    have f' : rd (rnd n Y n.toNat) (rd_T98 E i).f1 ≤ rd (rnd n Y n.toNat) (rd_T98 E i).f0 + ((rd_T98 E i).f3 * 1 - x) := f
    have := hx i i0 i1
    show rd (rnd n Y n.toNat) (rd_T98 E i).f1 < rd (rnd n Y n.toNat) (rd_T98 E i).f0
    omega
  · have cE := cB.scal S
    obtain ⟨k0, k1, e0, e1⟩ := circ_bounds R n6 cE
    obtain ⟨b, hb⟩ := hD B.length (by omega) (by omega)
    have hb' : (B.length : Int) * (b : Int) = (D : Int) := by rw [hb, Int.natCast_mul]
    obtain ⟨L, P, z1, z2⟩ := least_l1 R n6 m6 d0 hD _ B cE b hb' (Nat.le_refl _)
    refine ⟨L, P, st _ ?_, z2⟩
    exact Evl.bind (h := fun k (bt494 : Int × List S98) => (compassref11_Below.f k bt494.1 bt494.2).bind fun t498 => (if (t498.length : Int) = 0 then (some (([] : List Int), ([] : List Int))) else (compassref11_LeastMean.l1 k t498 n E))) s1
      (Evl.bind (h := fun k t498 => if (t498.length : Int) = 0 then (some (([] : List Int), ([] : List Int))) else (compassref11_LeastMean.l1 k t498 n E)) b1 (z1.congr fun k => by rw [if_neg (by omega)]))
end Go.Proofs.Ytkdoihcjhccliaa.G
namespace Go.Proofs.Ytkdoihcjhccliaa.G
open Go.RowKit Go.Proofs.Ytkdoihcjhccliaa.Q Go.Proofs.YtkdoihcjhccliaaW.PrintWords Go.Proofs.YtkdoihcjhccliaaW.PrintLast
theorem awake_now (k : Nat) : compasslaw11_awake.f (k + 40) = some true := by kernel_rfl
theorem awake_f : Evl (fun k => compasslaw11_awake.f k) true := ⟨40, fun k hk => by
  obtain ⟨d, rfl⟩ : ∃ d, k = d + 40 := ⟨k - 40, by omega⟩
  exact awake_now d⟩
end Go.Proofs.Ytkdoihcjhccliaa.G
namespace Go.Proofs.Ytkdoihcjhccliaa.Pure
open Go.Proofs.Ytkdoihcjhccliaa.G Go.Proofs.Ytkdoihcjhccliaa.Q Go.Proofs.YtkdoihcjhccliaaW.PrintWords Go.Proofs.YtkdoihcjhccliaaW.PrintLast
theorem ProofLoopFull (n : Int) (E : List S98) : ∃ K, compasslaw11_ProofLoopFull.f K n E = some true := by
  refine Evl.at (r := true) ?_
  obtain ⟨O, c, o1, o2⟩ := order_ref n E
  have head : ∀ {z}, Evl (fun k => if n > 64 then (compasslaw11_ProofLoopFull.j0 k O c true n E) else (if (E.length : Int) > 256 then (compasslaw11_ProofLoopFull.j0 k O c true n E) else (if c = 0 then (compasslaw11_ProofLoopFull.j0 k O c false n E) else (compasslaw11_ProofLoopFull.j0 k O c (c != 71) n E)))) z → Evl (fun k => compasslaw11_ProofLoopFull.f k n E) z := fun hz =>
    (Evl.bind (h := fun k t520 => if t520 = true then ((compassref04_Order.f k n E).bind fun bt521 => (if n > 64 then (compasslaw11_ProofLoopFull.j0 k bt521.1 bt521.2 true n E) else (if (E.length : Int) > 256 then (compasslaw11_ProofLoopFull.j0 k bt521.1 bt521.2 true n E) else (if bt521.2 = 0 then (compasslaw11_ProofLoopFull.j0 k bt521.1 bt521.2 false n E) else (compasslaw11_ProofLoopFull.j0 k bt521.1 bt521.2 (bt521.2 != 71) n E))))) else (some false)) awake_f
      ((Evl.bind (h := fun k (bt521 : List Int × Int) => if n > 64 then (compasslaw11_ProofLoopFull.j0 k bt521.1 bt521.2 true n E) else (if (E.length : Int) > 256 then (compasslaw11_ProofLoopFull.j0 k bt521.1 bt521.2 true n E) else (if bt521.2 = 0 then (compasslaw11_ProofLoopFull.j0 k bt521.1 bt521.2 false n E) else (compasslaw11_ProofLoopFull.j0 k bt521.1 bt521.2 (bt521.2 != 71) n E)))) o1 hz).congr fun k => by rw [if_pos rfl])).congr fun k => rfl
  have skip : Evl (fun k => compasslaw11_ProofLoopFull.j0 k O c true n E) true := Evl.here fun k => by rw [compasslaw11_ProofLoopFull.j0, if_pos rfl]
  by_cases h1 : n > 64
  · exact head (skip.congr fun k => by rw [if_pos h1])
  · by_cases h2 : (E.length : Int) > 256
    · exact head (skip.congr fun k => by rw [if_neg h1, if_pos h2])
    · rcases o2 with ⟨hc, R, W, hW⟩ | ⟨hc, R, hT⟩ | ⟨hc, hc'⟩
      · subst hc
        obtain ⟨L, P, f1, b⟩ := least_f R (by omega) (by omega) hW
        obtain ⟨p, q, e, s, c, m1, m2, m3, m4, m5⟩ := mean_f n E L P
        have e0 := m5 R b.circ.ring b.pots b.fine
        refine head (Evl.congr (h := fun k => compasslaw11_ProofLoopFull.j0 k O 71 false n E) ?_ fun k => by rw [if_neg h1, if_neg h2, if_neg (by decide)]; rfl)
        refine (Evl.bind (h := fun k (bt526 : List Int × List Int) => (proof_Mean.f k n E bt526.1 bt526.2).bind fun bt532 => (some (bt532.2.2 == 0))) f1 (Evl.bind (h := fun k (bt532 : Int × Int × Int) => some (bt532.2.2 == 0)) m1 (Evl.pure.congr fun k => ?_))).step fun k => by rw [compasslaw11_ProofLoopFull.j0, if_neg (by decide), if_neg (by decide)]
        show some (e == 0) = some true
        rw [e0]; rfl
      · subst hc
        obtain ⟨e, a1, a2, a3, a4⟩ := acyclic_f n E O
        have e0 := a4 R hT
        refine head (Evl.congr (h := fun k => compasslaw11_ProofLoopFull.j0 k O 0 false n E) ?_ fun k => by rw [if_neg h1, if_neg h2, if_pos rfl])
        refine (Evl.bind (h := fun k t525 => some (t525 == 0)) a1 (Evl.pure.congr fun k => ?_)).step fun k => by rw [compasslaw11_ProofLoopFull.j0, if_neg (by decide), if_pos rfl]
        rw [e0]; rfl
      · have ne : (c != 71) = true := bne_iff_ne.mpr hc'
        exact head (skip.congr fun k => by rw [if_neg h1, if_neg h2, if_neg hc, ne])
end Go.Proofs.Ytkdoihcjhccliaa.Pure
namespace Go.Proofs.Ytkdoihcjhccliaa.G
open Go.RowKit Go.Proofs.Ytkdoihcjhccliaa.Q Go.Proofs.YtkdoihcjhccliaaW.PrintWords Go.ChangeShapes Go.WideShapes Go.Deep
set_option linter.unusedVariables false
section
variable {H : Type} {enc : TypeId × Value → H} {P : Program} {w : World} {base : Nat} {spare : Nat → Bool} {held : Bool}
instance : Inhabited S98 := ⟨z98⟩

theorem open_edge {t i1 i2 : TypeId} {f0 f1 f2 f3 : Field} {fuel : Nat} {cs : List Value} {x : DataW H × List MemPlace} (ht : P.underlying t = some (.struct #[f0, f1, f2, f3])) (hC : P.cellsOf t = 4)
    (o : f0.offset = 0 ∧ f1.offset = 1 ∧ f2.offset = 2 ∧ f3.offset = 3) (c : P.cellsOf f0.type = 1 ∧ P.cellsOf f1.type = 1 ∧ P.cellsOf f2.type = 1 ∧ P.cellsOf f3.type = 1)
    (h0 : P.underlying f0.type = some (.int .i64)) (h1 : P.underlying f1.type = some (.int .i64)) (h2 : P.underlying f2.type = some (.int .i64)) (h3 : P.underlying f3.type = some (.int .i64))
    (h : DataW.trod enc P w base spare held fuel t cs = some x) : ∃ e : S98, cs = [.int .i64 e.f0, .int .i64 e.f1, .int .i64 e.f2, .int .i64 e.f3] := by
  obtain ⟨y0, y1, y2, y3, n, -, hl, g0, g1, g2, g3⟩ := Joins.trod_struct4 ht h
  rw [hC] at hl
  match cs, hl with
  | [c0, c1, c2, c3], _ =>
    obtain ⟨o0, o1, o2, o3⟩ := o
    obtain ⟨k0, k1, k2, k3⟩ := c
    simp only [o0, o1, o2, o3, k0, k1, k2, k3, List.drop_zero, List.drop_succ_cons, List.take_succ_cons, List.take_zero] at g0 g1 g2 g3
    obtain ⟨x0, e0, -, -⟩ := DataW.trod_int h0 g0
    obtain ⟨x1, e1, -, -⟩ := DataW.trod_int h1 g1
    obtain ⟨x2, e2, -, -⟩ := DataW.trod_int h2 g2
    obtain ⟨x3, e3, -, -⟩ := DataW.trod_int h3 g3
    simp only [List.cons.injEq, and_true] at e0 e1 e2 e3
    exact ⟨⟨x0, x1, x2, x3⟩, by rw [e0, e1, e2, e3]⟩

theorem open_edges {t e : TypeId} {f0 f1 f2 f3 : Field} {fuel : Nat} {v : Value} {x : DataW H × List MemPlace} (ht : P.underlying t = some (.slice e)) (he : P.underlying e = some (.struct #[f0, f1, f2, f3])) (hC : P.cellsOf e = 4)
    (o : f0.offset = 0 ∧ f1.offset = 1 ∧ f2.offset = 2 ∧ f3.offset = 3) (c : P.cellsOf f0.type = 1 ∧ P.cellsOf f1.type = 1 ∧ P.cellsOf f2.type = 1 ∧ P.cellsOf f3.type = 1)
    (h0 : P.underlying f0.type = some (.int .i64)) (h1 : P.underlying f1.type = some (.int .i64)) (h2 : P.underlying f2.type = some (.int .i64)) (h3 : P.underlying f3.type = some (.int .i64))
    (h : DataW.trod enc P w base spare held fuel t [v] = some x) : ∃ (A : Option Addr) (l : List S98) (cap : Nat), v = .slice A l.length cap ∧ l.length ≤ cap ∧ Kd.C k98 w A l.length l := by
  rcases open_slice ht h with ⟨hcs, -⟩ | ⟨a, len, cap, m, n, D, Pl, hcs, hb, hl, hm, hmm, -, hx⟩
  · obtain rfl : v = .slice none 0 0 := by simpa using hcs
    exact ⟨none, [], 0, rfl, Nat.le_refl _, Kd.C_nil k98 w⟩
  · obtain rfl : v = .slice (some a) len cap := by simpa using hcs
    have hlm : len ≤ m := by rw [hmm]; split <;> omega
    have each : ∀ i, i < len → ∃ s : S98, w.cells? base (a.add (i * 4)) 4 = some [.int .i64 s.f0, .int .i64 s.f1, .int .i64 s.f2, .int .i64 s.f3] := fun i hi => by
      obtain ⟨cs', q1, q2⟩ := hx i (by omega)
      rw [hC] at q1
      obtain ⟨s, rfl⟩ := open_edge (i1 := 0) (i2 := 0) he hC o c h0 h1 h2 h3 q2
      exact ⟨s, q1⟩
    obtain ⟨f, hf⟩ := choose_lt each
    have hlen : ((List.range len).map f).length = len := by simp
    refine ⟨some a, (List.range len).map f, cap, by rw [hlen], by rw [hlen]; exact hl, ?_⟩
    · rw [hlen]
      refine ⟨hlen, by unfold maxLen at hm; omega, fun _ => ⟨a, rfl, fun j p hp => ?_⟩⟩
      have hj : j < len := by
        have := (List.getElem?_eq_some_iff.mp hp).1
        rw [hlen] at this; exact this
      have hp' : f j = p := by
        rw [List.getElem?_map, List.getElem?_range hj] at hp
        simpa using hp
      subst hp'
      obtain ⟨-, -, hcell⟩ := World.cells?_some (hf j hj)
      refine ⟨_, rfl, k98_mk w (f j), fun i u hu => ?_⟩
      have hi : i < 4 := by
        have := (List.getElem?_eq_some_iff.mp hu).1
        simpa using this
      have := hcell i hi
      rw [Go.Deep.add_add] at this
      show w.cell? (a.add (j * 4 + i)) = some u
      rw [this, hu]
/-- A row of scalars that came in, opened. -/
theorem open_row1 {α : Type} [Inhabited α] (d : Kd α) (mk : α → Value) (hs : d.sz = 1) (hK : ∀ (w : World) (x : α), d.K w x [mk x]) {t e : TypeId} {fuel : Nat} {v : Value} {x : DataW H × List MemPlace} (ht : P.underlying t = some (.slice e)) (hC : P.cellsOf e = 1)
    (he : ∀ {fuel : Nat} {cs : List Value} {x : DataW H × List MemPlace}, DataW.trod enc P w base spare held fuel e cs = some x → ∃ y : α, cs = [mk y])
    (h : DataW.trod enc P w base spare held fuel t [v] = some x) : ∃ (A : Option Addr) (l : List α) (cap : Nat), v = .slice A l.length cap ∧ l.length ≤ cap ∧ Kd.C d w A l.length l := by
  rcases open_slice ht h with ⟨hcs, -⟩ | ⟨a, len, cap, m, n, D, Pl, hcs, hb, hl, hm, hmm, -, hx⟩
  · obtain rfl : v = .slice none 0 0 := by simpa using hcs
    exact ⟨none, [], 0, rfl, Nat.le_refl _, Kd.C_nil d w⟩
  · obtain rfl : v = .slice (some a) len cap := by simpa using hcs
    have hlm : len ≤ m := by rw [hmm]; split <;> omega
    have each : ∀ i, i < len → ∃ s : α, w.cells? base (a.add (i * 1)) 1 = some [mk s] := fun i hi => by
      obtain ⟨cs', q1, q2⟩ := hx i (by omega)
      rw [hC] at q1
      obtain ⟨s, rfl⟩ := he q2
      exact ⟨s, q1⟩
    obtain ⟨f, hf⟩ := choose_lt each
    have hlen : ((List.range len).map f).length = len := by simp
    refine ⟨some a, (List.range len).map f, cap, by rw [hlen], by rw [hlen]; exact hl, ?_⟩
    rw [hlen]
    refine ⟨hlen, by unfold maxLen at hm; omega, fun _ => ⟨a, rfl, fun j p hp => ?_⟩⟩
    have hj : j < len := by
      have := (List.getElem?_eq_some_iff.mp hp).1
      rw [hlen] at this; exact this
    have hp' : f j = p := by
      rw [List.getElem?_map, List.getElem?_range hj] at hp
      simpa using hp
    subst hp'
    obtain ⟨-, -, hcell⟩ := World.cells?_some (hf j hj)
    refine ⟨_, by rw [hs]; rfl, hK w (f j), fun i u hu => ?_⟩
    have hi : i < 1 := by
      have := (List.getElem?_eq_some_iff.mp hu).1
      simpa using this
    have := hcell i hi
    rw [Go.Deep.add_add] at this
    rw [hs]
    show w.cell? (a.add (j * 1 + i)) = some u
    rw [this, hu]
theorem open_ints1 {t e : TypeId} {fuel : Nat} {v : Value} {x : DataW H × List MemPlace} (ht : P.underlying t = some (.slice e)) (he : P.underlying e = some (.int .i64)) (hC : P.cellsOf e = 1)
    (h : DataW.trod enc P w base spare held fuel t [v] = some x) : ∃ (A : Option Addr) (l : List Int) (cap : Nat), v = .slice A l.length cap ∧ l.length ≤ cap ∧ Kd.C (Kd.int .i64) w A l.length l :=
  open_row1 (Kd.int .i64) (Value.int .i64) rfl (fun _ _ => rfl) ht hC (fun h => by obtain ⟨n, e, -, -⟩ := DataW.trod_int he h; exact ⟨n, e⟩) h
theorem open_bools1 {t e : TypeId} {fuel : Nat} {v : Value} {x : DataW H × List MemPlace} (ht : P.underlying t = some (.slice e)) (he : P.underlying e = some .bool) (hC : P.cellsOf e = 1)
    (h : DataW.trod enc P w base spare held fuel t [v] = some x) : ∃ (A : Option Addr) (l : List Bool) (cap : Nat), v = .slice A l.length cap ∧ l.length ≤ cap ∧ Kd.C Kd.bool w A l.length l :=
  open_row1 Kd.bool Value.bool rfl (fun _ _ => rfl) ht hC (fun h => by obtain ⟨n, e, -⟩ := DataW.trod_bool he h; exact ⟨n, e⟩) h
end
end Go.Proofs.Ytkdoihcjhccliaa.G
