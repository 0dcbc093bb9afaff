/- Words for the chapter on walks: what rounds come to, reads behind a write, and right graphs. -/
/- Amounts on the edges of a right graph: what goes out of a node, what leaves a side; the program's looks and the document's. -/
/- Sources and sinks, as the document and the program name what is wrong with them; what goes out of the one comes to the other. -/
/- Sets of nodes that no edge leaves or enters. -/
/- A circle that costs less than nothing, or potentials: what the document's rounds over all edges come to. -/
/- Levels: a node has one just if it can be come to. -/
/- The document's Parts: nodes have the same number just if they lie in the same closed sets. -/
/- The strong parts: two nodes are in one just if each can be come to from the other. -/
/- Weights at the nodes: over all nodes what goes out, weighted, is what lies on the edges, weighted by the ends; no flow is greater than a cut. -/
/- Supplies, potentials, costs: the program's looks and the document's, and weak duality. -/
/- Potentials by the document's rounds: they settle where no circle costs less than nothing. -/
/- What can still be changed: the residual, changes along its edges, the least room. -/
/- What can be come to along edges with room: a tree of ways. -/
/- The document's plain way to a greatest flow: way after way; it ends, with a flow that fills its cut. -/
/- Small lemmas on edges, copies and circles. -/
/- Plans: the program's looks take just what the document's do. -/
/- The document's plain way to a cheapest plan: a flow from all who have to all who want, then circle after circle. -/
/- The document's cheapest plan: circle after circle, to the end. -/
/- The document's cheapest plan: the first flow, from one who gives to all who have, from all who want to one who takes. -/
/- Do all edges hang together? The program's look and the document's. -/
/- Rounds: the program's looks take just what the document's do. -/
/- Edges apart: the program's look takes just what the document's does; and then there is no round. -/
/- The document's plain way to a cheapest round: all hang together strongly, then a plan that lacks nothing; else a side. -/
/- A round out of a plan: each edge once, and what the plan carries. -/
/- There is a plan that lacks nothing, and it makes a cheapest round. -/
/- The document's cheapest round, or the side. -/
/- The law's own look at the program. -/
/- The law ProofRoundFull. -/
/- A graph that came in, opened: its edges as a list. -/
import Derived.Deep.Slices
import Derived.Lib.SmallJoins
import Derived.OpenShut
import Derived.ChangeArms
import Derived.Test.YtkdoihcjhccliaaQ0
import Derived.Test.YtkdoihcjhccliaaQ10
import Derived.Test.YtkdoihcjhccliaaQ14
import Derived.Test.YtkdoihcjhccliaaQ15
import Derived.Test.YtkdoihcjhccliaaQ16
import Derived.Test.YtkdoihcjhccliaaQ19
import Derived.Test.YtkdoihcjhccliaaQ23
import Derived.Test.YtkdoihcjhccliaaQ45
import Derived.Test.YtkdoihcjhccliaaQ3
import Derived.Test.YtkdoihcjhccliaaQ4
import Derived.Test.YtkdoihcjhccliaaQ46
import Derived.Test.YtkdoihcjhccliaaQ47
import Derived.Test.YtkdoihcjhccliaaQ5
import Derived.Test.YtkdoihcjhccliaaQ60
import Derived.Test.YtkdoihcjhccliaaQ61
import Derived.Test.YtkdoihcjhccliaaQ62
import Derived.Test.YtkdoihcjhccliaaQ63
import Derived.Test.YtkdoihcjhccliaaQ64
import Derived.Test.YtkdoihcjhccliaaQ66
import Derived.Test.YtkdoihcjhccliaaQ67
import Derived.Test.YtkdoihcjhccliaaQ73
import Derived.Test.YtkdoihcjhccliaaQ74
import Derived.Test.YtkdoihcjhccliaaQ75
import Derived.Test.YtkdoihcjhccliaaQ76
import Derived.Test.YtkdoihcjhccliaaQ77
import Derived.Test.YtkdoihcjhccliaaQ79
import Derived.Test.YtkdoihcjhccliaaQ80
import Derived.Test.YtkdoihcjhccliaaQ81
import Derived.Test.YtkdoihcjhccliaaQ82
import Derived.Test.YtkdoihcjhccliaaQ83
import Derived.Test.YtkdoihcjhccliaaQ84
namespace Go.Proofs.Ytkdoihcjhccliaa.G
open Go.RowKit Go.Proofs.Ytkdoihcjhccliaa.Q Go.Proofs.YtkdoihcjhccliaaW.PrintWords Go.Proofs.YtkdoihcjhccliaaW.PrintLast
set_option linter.unusedVariables false

/-- With enough rounds the answer is r. -/
def Evl {α : Type} (g : Nat → Option α) (r : α) : Prop := ∃ K, ∀ k, K ≤ k → g k = some r

section
variable {α β : Type}
theorem Evl.step {g h : Nat → Option α} {r : α} (H : Evl h r) (e : ∀ k, g (k + 1) = h k) : Evl g r := by
  obtain ⟨K, hK⟩ := H
  refine ⟨K + 1, fun k hk => ?_⟩
  obtain ⟨m, rfl⟩ : ∃ m, k = m + 1 := ⟨k - 1, by omega⟩
  rw [e]; exact hK m (by omega)
theorem Evl.here {g : Nat → Option α} {r : α} (e : ∀ k, g (k + 1) = some r) : Evl g r := by
  refine ⟨1, fun k hk => ?_⟩
  obtain ⟨m, rfl⟩ : ∃ m, k = m + 1 := ⟨k - 1, by omega⟩
  exact e m
theorem Evl.pure {r : α} : Evl (fun _ => some r) r := ⟨0, fun _ _ => rfl⟩
theorem Evl.congr {g h : Nat → Option α} {r : α} (H : Evl h r) (e : ∀ k, g k = h k) : Evl g r := by
  obtain ⟨K, hK⟩ := H
  exact ⟨K, fun k hk => by rw [e]; exact hK k hk⟩
theorem Evl.bind {g : Nat → Option α} {h : Nat → α → Option β} {a : α} {r : β} (G : Evl g a) (H : Evl (fun k => h k a) r) : Evl (fun k => (g k).bind (h k)) r := by
  obtain ⟨K, hK⟩ := G
  obtain ⟨L, hL⟩ := H
  exact ⟨max K L, fun k hk => by show (g k).bind (h k) = some r; rw [hK k (by omega), Option.bind_some]; exact hL k (by omega)⟩
theorem Evl.at {g : Nat → Option α} {r : α} (H : Evl g r) : ∃ k, g k = some r := by
  obtain ⟨K, hK⟩ := H
  exact ⟨K, hK K (Nat.le_refl _)⟩
theorem Evl.eq {g : Nat → Option α} {r s : α} (H : Evl g r) (J : Evl g s) : r = s := by
  obtain ⟨K, hK⟩ := H
  obtain ⟨L, hL⟩ := J
  have := hK (max K L) (by omega)
  rw [hL (max K L) (by omega)] at this
  exact (Option.some.inj this).symm
end

section
variable {α : Type}
theorem zN (l : List α) (d x : α) (i j : Nat) (h : i < l.length) : (l.set i x).getD j d = if j = i then x else l.getD j d := by
  by_cases e : j = i
  · subst e; rw [if_pos rfl]; simp [List.getD, h]
  · rw [if_neg e]; simp [List.getD, List.getElem?_set_ne (fun a => e a.symm)]
theorem xH (l m : List α) (d : α) (j : Nat) : (l ++ m).getD j d = if j < l.length then l.getD j d else m.getD (j - l.length) d := by
  by_cases e : j < l.length
  · rw [if_pos e]; simp [List.getD, List.getElem?_append_left e]
  · rw [if_neg e]; simp [List.getD, List.getElem?_append_right (Nat.le_of_not_lt e)]
theorem TI (l : List α) (d : α) (j : Nat) (h : j < l.length) : l.getD j d ∈ l := by
  rw [List.getD_eq_getElem?_getD, List.getElem?_eq_getElem h]; exact List.getElem_mem h
theorem wR (n : Nat) (x d : α) (j : Nat) (h : j < n) : (List.replicate n x).getD j d = x := by
  simp [List.getD, h]
theorem TJ (l m : List α) (d : α) (hl : l.length = m.length) (h : ∀ j, j < l.length → l.getD j d = m.getD j d) : l = m := by
  apply List.ext_getElem hl
  intro j h1 h2
  have := h j h1
  rwa [List.getD_eq_getElem?_getD, List.getD_eq_getElem?_getD, List.getElem?_eq_getElem h1, List.getElem?_eq_getElem h2] at this
end

theorem mg (l : List Int) (x i j : Int) (h0 : 0 ≤ i) (h : i < (l.length : Int)) (hj : 0 ≤ j) : rd (l.set i.toNat x) j = if j = i then x else rd l j := by
  unfold rd
  rw [zN l 0 x i.toNat j.toNat (by omega)]
  by_cases e : j = i
  · rw [if_pos e, if_pos (by rw [e])]
  · rw [if_neg e, if_neg (by omega)]
theorem yF {α : Type} (d : α) (l : List α) (x : α) (i j : Int) (h0 : 0 ≤ i) (h : i < (l.length : Int)) (hj : 0 ≤ j) : fF d (l.set i.toNat x) j = if j = i then x else fF d l j := by
  unfold fF
  rw [zN l d x i.toNat j.toNat (by omega)]
  by_cases e : j = i
  · rw [if_pos e, if_pos (by rw [e])]
  · rw [if_neg e, if_neg (by omega)]
theorem Q3 (l : List Int) (j : Int) (h0 : 0 ≤ j) (h : j < (l.length : Int)) : rd l j ∈ l := TI l 0 j.toNat (by omega)
theorem gT (n : Nat) (x j : Int) (h0 : 0 ≤ j) (h : j < (n : Int)) : rd (List.replicate n x) j = x := wR n x 0 j.toNat (by omega)
theorem DW {α : Type} (n : Nat) (x d : α) (j : Int) (h0 : 0 ≤ j) (h : j < (n : Int)) : fF d (List.replicate n x) j = x := wR n x d j.toNat (by omega)
theorem wD (l m : List Int) (j : Int) (h0 : 0 ≤ j) : rd (l ++ m) j = if j < (l.length : Int) then rd l j else rd m (j - l.length) := by
  unfold rd
  rw [xH]
  by_cases e : j < (l.length : Int)
  · rw [if_pos e, if_pos (by omega)]
  · rw [if_neg e, if_neg (by omega)]; congr 1; omega
theorem U4 (l m : List Int) (hl : l.length = m.length) (h : ∀ j : Int, 0 ≤ j → j < (l.length : Int) → rd l j = rd m j) : l = m := by
  refine TJ l m 0 hl fun j hj => ?_
  have := h (j : Int) (by omega) (by omega)
  unfold rd at this
  simpa using this
theorem aep {l : List Int} {x : Int} (h : x ∈ l) : ∃ j : Int, 0 ≤ j ∧ j < (l.length : Int) ∧ rd l j = x := by
  obtain ⟨j, hj, e⟩ := List.mem_iff_getElem.mp h
  refine ⟨(j : Int), by omega, by omega, ?_⟩
  unfold rd
  rw [List.getD_eq_getElem?_getD, show ((j : Int).toNat) = j by omega, List.getElem?_eq_getElem hj]
  exact e

theorem w1 {i : Int} (h0 : -1000000000000000 ≤ i) (h : i ≤ 1000000000000000) : wrap64 (i + 1) = i + 1 := by
  unfold wrap64; omega
theorem wm {i : Int} (h0 : -1000000000000000 ≤ i) (h : i ≤ 1000000000000000) : wrap64 (i - 1) = i - 1 := by
  unfold wrap64; omega

/-- A right edge between n nodes. -/
structure zw (n : Int) (e : S98) : Prop where
  a0 : 0 ≤ e.f0
  a1 : e.f0 < n
  b0 : 0 ≤ e.f1
  b1 : e.f1 < n
  c0 : 0 ≤ e.f2
  c1 : e.f2 ≤ 1048576
  d0 : -1048576 ≤ e.f3
  d1 : e.f3 ≤ 1048576

/-- A right graph. -/
structure Right (n : Int) (E : List S98) : Prop where
  n0 : 0 ≤ n
  n1 : n ≤ 1024
  m1 : (E.length : Int) ≤ 4096
  e : ∀ i : Int, 0 ≤ i → i < (E.length : Int) → zw n (aa E i)

theorem Q4 (e : S98) : lM.f e.f0 e.f1 e.f2 e.f3 = some (decide (0 ≤ e.f2 ∧ e.f2 ≤ 1048576 ∧ -1048576 ≤ e.f3 ∧ e.f3 ≤ 1048576)) := by
  unfold lM.f
  by_cases h1 : e.f2 ≥ 0
  · rw [if_pos h1]
    by_cases h2 : e.f2 ≤ 1048576
    · rw [if_pos h2]
      by_cases h3 : e.f3 ≥ -1048576
      · rw [if_pos h3]; congr 1
        exact decide_eq_decide.mpr ⟨fun h => ⟨h1, h2, h3, h⟩, fun h => h.2.2.2⟩
      · rw [if_neg h3]; congr 1
        exact (decide_eq_false (by omega)).symm
    · rw [if_neg h2]; congr 1
      exact (decide_eq_false (by omega)).symm
  · rw [if_neg h1]; congr 1
    exact (decide_eq_false (by omega)).symm

/-- The number of what is wrong with an edge. -/
def DX (n : Int) (e : S98) : Int := if e.f0 < 0 ∨ e.f0 ≥ n ∨ e.f1 < 0 ∨ e.f1 ≥ n then 30 else if 0 ≤ e.f2 ∧ e.f2 ≤ 1048576 ∧ -1048576 ≤ e.f3 ∧ e.f3 ≤ 1048576 then 0 else 31

theorem Q5 {n : Int} {e : S98} (h : DX n e = 0) : zw n e := by
  unfold DX at h
  by_cases h1 : e.f0 < 0 ∨ e.f0 ≥ n ∨ e.f1 < 0 ∨ e.f1 ≥ n
  · rw [if_pos h1] at h; omega
  · rw [if_neg h1] at h
    by_cases h2 : 0 ≤ e.f2 ∧ e.f2 ≤ 1048576 ∧ -1048576 ≤ e.f3 ∧ e.f3 ≤ 1048576
    · constructor <;> omega
    · rw [if_neg h2] at h; omega
theorem ZL {n : Int} {e : S98} (h : zw n e) : DX n e = 0 := by
  obtain ⟨a0, a1, b0, b1, c0, c1, d0, d1⟩ := h
  unfold DX
  rw [if_neg (by omega), if_pos (by omega)]

theorem aeq (n : Int) (e : S98) : Evl (fun k => bW.f k n e.f0 e.f1 e.f2 e.f3) (DX n e) := by
  have tail : Evl (fun k => bW.j0 k false e.f0 e.f1 e.f2 e.f3) (if 0 ≤ e.f2 ∧ e.f2 ≤ 1048576 ∧ -1048576 ≤ e.f3 ∧ e.f3 ≤ 1048576 then 0 else 31) := by
    refine Evl.here fun k => ?_
    rw [bW.j0, if_neg (by simp)]
    by_cases h1 : e.f2 < 0
    · rw [if_pos h1, if_neg (by omega)]
    · rw [if_neg h1]
      by_cases h2 : e.f2 > 1048576
      · rw [if_pos h2, if_neg (by omega)]
      · rw [if_neg h2]
        by_cases h3 : e.f3 < -1048576
        · rw [if_pos h3, if_neg (by omega)]
        · rw [if_neg h3]
          by_cases h4 : e.f3 > 1048576
          · rw [if_pos h4, if_neg (by omega)]
          · rw [if_neg h4, if_pos (by omega)]
  have yes : Evl (fun k => bW.j0 k true e.f0 e.f1 e.f2 e.f3) 30 := Evl.here fun k => by rw [bW.j0, if_pos rfl]
  unfold DX
  by_cases h1 : e.f0 < 0
  · rw [if_pos (by omega)]; exact yes.congr fun k => by rw [bW.f, if_pos h1]
  · by_cases h2 : e.f1 < 0
    · rw [if_pos (by omega)]; exact yes.congr fun k => by rw [bW.f, if_neg h1, if_pos h2]
    · by_cases h3 : e.f0 ≥ n
      · rw [if_pos (by omega)]; exact yes.congr fun k => by rw [bW.f, if_neg h1, if_neg h2, if_pos h3]
      · by_cases h4 : e.f1 ≥ n
        · rw [if_pos (by omega)]; exact yes.congr fun k => by rw [bW.f, if_neg h1, if_neg h2, if_neg h3, decide_eq_true h4]
        · rw [if_neg (by omega)]; exact tail.congr fun k => by rw [bW.f, if_neg h1, if_neg h2, if_neg h3, decide_eq_false h4]

theorem Kh (n : Int) (E : List S98) (i : Int) (e : S98) (b : Bool) (r : Int × Int)
    (hb : b = decide (e.f0 < 0 ∨ e.f0 ≥ n ∨ e.f1 < 0 ∨ e.f1 ≥ n)) (h0 : DX n e = 0 → Evl (fun k => bE.l0 k E (E.length : Int) (wrap64 (i + 1)) n E) r) (h1 : DX n e ≠ 0 → r = (DX n e, i)) :
    Evl (fun k => bE.j2 k i E (E.length : Int) i b n E e.f0 e.f1 e.f2 e.f3) r := by
  unfold DX at h0 h1
  by_cases c : e.f0 < 0 ∨ e.f0 ≥ n ∨ e.f1 < 0 ∨ e.f1 ≥ n
  · rw [if_pos c] at h1
    rw [decide_eq_true c] at hb
    rw [h1 (by decide), hb]
    exact Evl.here fun k => by rw [bE.j2, if_pos rfl]
  · rw [if_neg c] at h0 h1
    rw [decide_eq_false c] at hb
    subst hb
    by_cases c2 : 0 ≤ e.f2 ∧ e.f2 ≤ 1048576 ∧ -1048576 ≤ e.f3 ∧ e.f3 ≤ 1048576
    · rw [if_pos c2] at h0
      refine (h0 rfl).step fun k => ?_
      rw [bE.j2, if_neg (by simp), Q4, Option.bind_some, if_pos (decide_eq_true c2)]
    · rw [if_neg c2] at h1
      rw [h1 (by decide)]
      refine Evl.here fun k => ?_
      rw [bE.j2, if_neg (by simp), Q4, Option.bind_some, decide_eq_false c2, if_neg (by simp)]

theorem aer (n : Int) (E : List S98) (hm : (E.length : Int) ≤ 4096) (d : Nat) : ∀ i : Int, 0 ≤ i → i + d = (E.length : Int) → ∃ r : Int × Int,
    Evl (fun k => bE.l0 k E (E.length : Int) i n E) r ∧ Evl (fun k => av.l0 k i n E) r ∧
    (r.1 = 0 → r.2 = 0 ∧ ∀ j : Int, i ≤ j → j < (E.length : Int) → zw n (aa E j)) ∧ (r.1 = 0 ∨ r.1 = 30 ∨ r.1 = 31) ∧ ((∀ j : Int, i ≤ j → j < (E.length : Int) → zw n (aa E j)) → r.1 = 0) := by
  induction d with
  | zero =>
    intro i h0 hi
    have g : ¬ i < (E.length : Int) := by omega
    refine ⟨(0, 0), Evl.here fun k => ?_, Evl.here fun k => ?_, fun _ => ⟨rfl, fun j h1 h2 => by omega⟩, Or.inl rfl, fun _ => rfl⟩
    · rw [bE.l0, if_neg g]
    · rw [av.l0, if_neg g]
  | succ d ih =>
    intro i h0 hi
    have g : i < (E.length : Int) := by omega
    have w : wrap64 (i + 1) = i + 1 := w1 (by omega) (by omega)
    have two : ∀ r : Int × Int, (DX n (aa E i) = 0 → Evl (fun k => bE.l0 k E (E.length : Int) (wrap64 (i + 1)) n E) r ∧ Evl (fun k => av.l0 k (wrap64 (i + 1)) n E) r) → (DX n (aa E i) ≠ 0 → r = (DX n (aa E i), i)) →
        Evl (fun k => bE.l0 k E (E.length : Int) i n E) r ∧ Evl (fun k => av.l0 k i n E) r := by
      intro r hz hn
      constructor
      · by_cases c1 : (aa E i).f0 < 0
        · refine (Kh n E i (aa E i) true r (decide_eq_true (by omega)).symm (fun h => (hz h).1) hn).step fun k => ?_
          rw [bE.l0, if_pos g, if_pos h0, if_pos g, if_pos c1]
        · by_cases c2 : (aa E i).f0 ≥ n
          · refine (Kh n E i (aa E i) true r (decide_eq_true (by omega)).symm (fun h => (hz h).1) hn).step fun k => ?_
            rw [bE.l0, if_pos g, if_pos h0, if_pos g, if_neg c1, if_pos c2]
          · by_cases c3 : (aa E i).f1 < 0
            · refine (Kh n E i (aa E i) true r (decide_eq_true (by omega)).symm (fun h => (hz h).1) hn).step fun k => ?_
              rw [bE.l0, if_pos g, if_pos h0, if_pos g, if_neg c1, if_neg c2, if_pos c3]
            · refine (Kh n E i (aa E i) (decide ((aa E i).f1 ≥ n)) r (decide_eq_decide.mpr (by omega)) (fun h => (hz h).1) hn).step fun k => ?_
              rw [bE.l0, if_pos g, if_pos h0, if_pos g, if_neg c1, if_neg c2, if_neg c3]
      · by_cases z : DX n (aa E i) = 0
        · have B := aeq n (aa E i)
          rw [z] at B
          refine (Evl.bind (h := fun k t => if t = 0 then av.l0 k (wrap64 (i + 1)) n E else some (t, i)) B (r := r) ?_).step fun k => ?_
          · exact (hz z).2.congr fun k => by rw [if_pos rfl]
          · rw [av.l0, if_pos g, if_pos h0]
        · have B := aeq n (aa E i)
          rw [hn z]
          refine (Evl.bind (h := fun k t => if t = 0 then av.l0 k (wrap64 (i + 1)) n E else some (t, i)) B (r := (DX n (aa E i), i)) ?_).step fun k => ?_
          · exact Evl.pure.congr fun k => by rw [if_neg z]
          · rw [av.l0, if_pos g, if_pos h0]
    by_cases z : DX n (aa E i) = 0
    · obtain ⟨r, e1, e2, hz, ho, hr⟩ := ih (i + 1) (by omega) (by omega)
      obtain ⟨a, b⟩ := two r (fun _ => by rw [w]; exact ⟨e1, e2⟩) (fun h => absurd z h)
      refine ⟨r, a, b, fun h => ⟨(hz h).1, fun j h1 h2 => ?_⟩, ho, fun h => hr fun j h1 h2 => h j (by omega) h2⟩
      by_cases q : j = i
      · rw [q]; exact Q5 z
      · exact (hz h).2 j (by omega) h2
    · obtain ⟨a, b⟩ := two (DX n (aa E i), i) (fun h => absurd h z) (fun _ => rfl)
      refine ⟨_, a, b, fun h => absurd h z, ?_, fun h => ZL (h i (Int.le_refl _) g)⟩
      show DX n (aa E i) = 0 ∨ DX n (aa E i) = 30 ∨ DX n (aa E i) = 31
      unfold DX
      split
      · exact Or.inr (Or.inl rfl)
      · split
        · exact Or.inl rfl
        · exact Or.inr (Or.inr rfl)

/-- Both looks at a graph tell the same fault; none: the graph is right. -/
theorem xI (n : Int) (E : List S98) : ∃ c a : Int, Evl (fun k => bE.f k n E) (c, a) ∧ Evl (fun k => av.f k n E) (c, a) ∧ (c = 0 → a = 0 ∧ Right n E) ∧ (c = 0 ∨ c = 3 ∨ c = 30 ∨ c = 31) ∧ (Right n E → c = 0) := by
  have yes : Evl (fun k => bE.j0 k true n E) (3, 0) := Evl.here fun k => by rw [bE.j0, if_pos rfl]
  have yes' : Evl (fun k => av.j0 k true n E) (3, 0) := Evl.here fun k => by rw [av.j0, if_pos rfl]
  by_cases h1 : n < 0
  · exact ⟨3, 0, yes.congr fun k => by rw [bE.f, if_pos h1], yes'.congr fun k => by rw [av.f, if_pos h1], by omega, by omega, fun h => absurd h.n0 (by omega)⟩
  · by_cases h2 : n > 1024
    · exact ⟨3, 0, yes.congr fun k => by rw [bE.f, if_neg h1, if_pos h2], yes'.congr fun k => by rw [av.f, if_neg h1, if_pos h2], by omega, by omega, fun h => absurd h.n1 (by omega)⟩
    · by_cases h3 : (E.length : Int) > 4096
      · exact ⟨3, 0, yes.congr fun k => by rw [bE.f, if_neg h1, if_neg h2, decide_eq_true h3], yes'.congr fun k => by rw [av.f, if_neg h1, if_neg h2, decide_eq_true h3], by omega, by omega, fun h => absurd h.m1 (by omega)⟩
      · obtain ⟨⟨c, a⟩, e1, e2, hz, ho, hr⟩ := aer n E (by omega) E.length 0 (by omega) (by omega)
        refine ⟨c, a, ?_, ?_, fun h => ⟨(hz h).1, by omega, by omega, by omega, fun i a b => (hz h).2 i a b⟩, by simp only at ho; omega, fun h => hr fun j a b => h.e j a b⟩
        · refine (e1.step (g := fun k => bE.j0 k false n E) fun k => ?_).congr fun k => ?_
          · rw [bE.j0, if_neg (by simp)]
          · rw [bE.f, if_neg h1, if_neg h2, decide_eq_false h3]
        · refine (e2.step (g := fun k => av.j0 k false n E) fun k => ?_).congr fun k => ?_
          · rw [av.j0, if_neg (by simp)]
          · rw [av.f, if_neg h1, if_neg h2, decide_eq_false h3]

end Go.Proofs.Ytkdoihcjhccliaa.G
namespace Go.Proofs.Ytkdoihcjhccliaa.G
open Go.RowKit Go.Proofs.Ytkdoihcjhccliaa.Q Go.Proofs.YtkdoihcjhccliaaW.PrintWords Go.Proofs.YtkdoihcjhccliaaW.PrintLast
set_option linter.unusedVariables false

/-- What goes out of a node, less what comes in, on the first edges. -/
def net (E : List S98) (A : List Int) (v : Int) : Nat → Int
  | 0 => 0
  | i + 1 => net E A v i + (if (aa E i).f0 = v then rd A i else 0) - (if (aa E i).f1 = v then rd A i else 0)
/-- The capacity of the first edges that leave a side. -/
def cut (E : List S98) (B : List Bool) : Nat → Int
  | 0 => 0
  | i + 1 => cut E B i + (if fF false B (aa E i).f0 = true ∧ fF false B (aa E i).f1 = false then (aa E i).f2 else 0)
/-- Amounts that fit on the edges. -/
def Il (E : List S98) (A : List Int) : Prop := ∀ i : Int, 0 ≤ i → i < (E.length : Int) → 0 ≤ rd A i ∧ rd A i ≤ (aa E i).f2
/-- Amounts that are labels. -/
def Sn (m : Nat) (A : List Int) : Prop := ∀ i : Int, 0 ≤ i → i < (m : Int) → 0 ≤ rd A i ∧ rd A i ≤ 1048576

theorem Il.aao {n : Int} {E : List S98} {A : List Int} (R : Right n E) (h : Il E A) : Sn E.length A := fun i h0 h1 => ⟨(h i h0 h1).1, Int.le_trans (h i h0 h1).2 (R.e i h0 h1).c1⟩

theorem Dn {E : List S98} {A : List Int} {v : Int} {m : Nat} (h : Sn m A) : ∀ i : Nat, i ≤ m → -(i * 1048576 : Int) ≤ net E A v i ∧ net E A v i ≤ (i * 1048576 : Int) := by
  intro i
  induction i with
  | zero => intro _; simp [net]
  | succ i ih =>
    intro hi
    have a := ih (by omega)
    have b := h (i : Int) (by omega) (by omega)
    simp only [net]
    push_cast
    split <;> split <;> omega
theorem aes {n : Int} {E : List S98} (R : Right n E) (B : List Bool) : ∀ i : Nat, i ≤ E.length → 0 ≤ cut E B i ∧ cut E B i ≤ (i * 1048576 : Int) := by
  intro i
  induction i with
  | zero => intro _; simp [cut]
  | succ i ih =>
    intro hi
    have a := ih (by omega)
    have b := R.e (i : Int) (by omega) (by omega)
    have c0 := b.c0
    have c1 := b.c1
    simp only [cut]
    push_cast
    split <;> omega
theorem wr {x : Int} (h0 : -9000000000000000000 ≤ x) (h : x ≤ 9000000000000000000) : wrap64 x = x := by unfold wrap64; omega

/-- out, in the document: some number; for labels what goes out. -/
theorem aet (n : Int) (E : List S98) (A : List Int) (v : Int) (hm : (E.length : Int) ≤ 4096) (hA : A.length = E.length) (d : Nat) : ∀ (i : Nat) (x : Int), i + d = E.length →
    ∃ r : Int, Evl (fun k => bP.l0 k A v x i n E) r ∧ (Sn E.length A → x = net E A v i → r = net E A v E.length) := by
  induction d with
  | zero =>
    intro i x hi
    refine ⟨x, Evl.here fun k => by rw [bP.l0, if_neg (by omega)], fun _ h => by rw [h]; congr 1⟩
  | succ d ih =>
    intro i x hi
    have g : (i : Int) < (A.length : Int) := by omega
    have g2 : (i : Int) < (E.length : Int) := by omega
    have w : wrap64 ((i : Int) + 1) = ((i + 1 : Nat) : Int) := by rw [w1 (by omega) (by omega)]; rfl
    have key : ∀ y : Int, (Sn E.length A → x = net E A v i → y = net E A v (i + 1)) → (∀ k, bP.l0 (k + 1) A v x i n E = bP.l0 k A v y (wrap64 ((i : Int) + 1)) n E) →
        ∃ r : Int, Evl (fun k => bP.l0 k A v x i n E) r ∧ (Sn E.length A → x = net E A v i → r = net E A v E.length) := by
      intro y hy he
      obtain ⟨r, h1, h2⟩ := ih (i + 1) y (by omega)
      refine ⟨r, h1.step fun k => ?_, fun hl hx => h2 hl (hy hl hx)⟩
      rw [← w]; exact he k
    by_cases c0 : (aa E i).f0 = v
    · by_cases c1 : (aa E i).f1 = v
      · refine key (wrap64 (wrap64 (x + rd A i) - rd A i)) (fun hl hx => ?_) fun k => by rw [bP.l0, if_pos g, if_pos (by omega), if_pos g2, if_pos c0, if_pos c1]
        have a := Dn (E := E) (v := v) hl i (by omega)
        have b := hl i (by omega) g2
        rw [hx, wr (x := net E A v i + rd A i) (by omega) (by omega), wr (by omega) (by omega)]
        simp only [net]; rw [if_pos c0, if_pos c1]
      · refine key (wrap64 (x + rd A i)) (fun hl hx => ?_) fun k => by rw [bP.l0, if_pos g, if_pos (by omega), if_pos g2, if_pos c0, if_neg c1]
        have a := Dn (E := E) (v := v) hl i (by omega)
        have b := hl i (by omega) g2
        rw [hx, wr (by omega) (by omega)]
        simp only [net]; rw [if_pos c0, if_neg c1]; omega
    · by_cases c1 : (aa E i).f1 = v
      · refine key (wrap64 (x - rd A i)) (fun hl hx => ?_) fun k => by rw [bP.l0, if_pos g, if_pos (by omega), if_pos g2, if_neg c0, if_pos c1]
        have a := Dn (E := E) (v := v) hl i (by omega)
        have b := hl i (by omega) g2
        rw [hx, wr (by omega) (by omega)]
        simp only [net]; rw [if_neg c0, if_pos c1]; omega
      · refine key x (fun hl hx => ?_) fun k => by rw [bP.l0, if_pos g, if_pos (by omega), if_pos g2, if_neg c0, if_neg c1]
        rw [hx]; simp only [net]; rw [if_neg c0, if_neg c1]; omega
theorem aeu (n : Int) (E : List S98) (A : List Int) (v : Int) (hm : (E.length : Int) ≤ 4096) (hA : A.length = E.length) : ∃ r : Int, Evl (fun k => bP.f k n E A v) r ∧ (Sn E.length A → r = net E A v E.length) := by
  obtain ⟨r, h1, h2⟩ := aet n E A v hm hA E.length 0 0 (by omega)
  exact ⟨r, h1.congr fun k => rfl, fun hl => h2 hl rfl⟩

/-- Over all nodes what goes out comes in. -/
def tot (E : List S98) (A : List Int) (i : Nat) : Nat → Int
  | 0 => 0
  | v + 1 => tot E A i v + net E A v i
theorem TK (E : List S98) (A : List Int) (v : Nat) : tot E A 0 v = 0 := by
  induction v with
  | zero => rfl
  | succ v ih => simp only [tot, net, ih]; rfl
theorem TL (E : List S98) (A : List Int) (i : Nat) (f0 : 0 ≤ (aa E i).f0) (t0 : 0 ≤ (aa E i).f1) (v : Nat) : tot E A (i + 1) v = tot E A i v + (if (aa E i).f0 < v then rd A i else 0) - (if (aa E i).f1 < v then rd A i else 0) := by
  induction v with
  | zero => simp only [tot]; rw [if_neg (by omega), if_neg (by omega)]; omega
  | succ v ih =>
    simp only [tot, net, ih]
    push_cast
    generalize rd A i = x
    generalize (aa E i).f0 = p
    generalize (aa E i).f1 = q
    generalize net E A v i = z
    generalize tot E A i v = y
    (repeat' split) <;> omega
theorem Ki {n : Int} {E : List S98} (R : Right n E) (A : List Int) : ∀ i : Nat, i ≤ E.length → tot E A i n.toNat = 0 := by
  have n0 := R.n0
  intro i
  induction i with
  | zero => intro _; exact TK E A _
  | succ i ih =>
    intro hi
    have e := R.e i (by omega) (by omega)
    rw [TL E A i e.a0 e.b0, ih (by omega), if_pos (by have := e.a1; omega), if_pos (by have := e.b1; omega)]; omega
theorem ZM (E : List S98) (A : List Int) (i : Nat) (s t : Int) (hst : s ≠ t) (s0 : 0 ≤ s) (t0 : 0 ≤ t) (v : Nat) (hv : ∀ u : Int, 0 ≤ u → u < v → u ≠ s → u ≠ t → net E A u i = 0) : tot E A i v = (if s < v then net E A s i else 0) + (if t < v then net E A t i else 0) := by
  induction v with
  | zero => simp only [tot]; rw [if_neg (by omega), if_neg (by omega)]; rfl
  | succ v ih =>
    rw [tot, ih fun u a b => hv u a (by omega)]
    push_cast
    have hz : (v : Int) ≠ s → (v : Int) ≠ t → net E A v i = 0 := fun a b => hv v (by omega) (by omega) a b
    by_cases a : (v : Int) = s
    · subst a
      generalize net E A v i = z
      generalize net E A t i = y
      (repeat' split) <;> omega
    · by_cases b : (v : Int) = t
      · subst b
        generalize net E A v i = z
        generalize net E A s i = y
        (repeat' split) <;> omega
      · rw [hz a b]
        generalize net E A s i = y
        generalize net E A t i = z
        (repeat' split) <;> omega
end Go.Proofs.Ytkdoihcjhccliaa.G
namespace Go.Proofs.Ytkdoihcjhccliaa.G
open Go.RowKit Go.Proofs.Ytkdoihcjhccliaa.Q Go.Proofs.YtkdoihcjhccliaaW.PrintWords Go.Proofs.YtkdoihcjhccliaaW.PrintLast
set_option linter.unusedVariables false

theorem Q6 {n : Int} {E : List S98} {c a : Int} (h : Evl (fun k => bE.f k n E) (c, a)) : Evl (fun k => dM.f k n E) c := by
  by_cases hc : c = 0
  · subst hc
    exact (Evl.bind (h := fun k t => if t.1 = 0 then some 0 else some t.1) h (Evl.pure.congr fun k => by rw [if_pos rfl])).congr fun k => rfl
  · exact (Evl.bind (h := fun k t => if t.1 = 0 then some 0 else some t.1) h (Evl.pure.congr fun k => by rw [if_neg hc])).congr fun k => rfl
theorem ZN {n : Int} {E : List S98} {c a : Int} (h : Evl (fun k => av.f k n E) (c, a)) (v : Int) : Evl (fun k => gL.f k n E v) (if c = 0 then (if v < 0 ∨ v ≥ n then 30 else 0) else c) := by
  refine (Evl.bind (h := fun k t => if t.1 = 0 then (if v < 0 then some 30 else (if v ≥ n then some 30 else some t.1)) else some t.1) h ?_).congr fun k => rfl
  by_cases hc : c = 0
  · subst hc
    rw [if_pos rfl]
    by_cases h1 : v < 0
    · rw [if_pos (Or.inl h1)]; exact Evl.pure.congr fun k => by rw [if_pos rfl, if_pos h1]
    · by_cases h2 : v ≥ n
      · rw [if_pos (Or.inr h2)]; exact Evl.pure.congr fun k => by rw [if_pos rfl, if_neg h1, if_pos h2]
      · have z : (if v < 0 ∨ v ≥ n then (30 : Int) else 0) = 0 := if_neg (by omega)
        rw [z]; exact Evl.pure.congr fun k => by rw [if_pos rfl, if_neg h1, if_neg h2]
  · rw [if_neg hc]; exact Evl.pure.congr fun k => by rw [if_neg hc]
theorem ZO {n : Int} {E : List S98} (R : Right n E) {A : List Int} {s t : Int} (hst : s ≠ t) (s0 : 0 ≤ s) (s1 : s < n) (t0 : 0 ≤ t) (t1 : t < n) (h : ∀ v : Int, 0 ≤ v → v < n → v ≠ s → v ≠ t → net E A v E.length = 0) : net E A t E.length = -net E A s E.length := by
  have a := Ki R A E.length (Nat.le_refl _)
  have b := ZM E A E.length s t hst s0 t0 n.toNat (fun u u0 u1 a b => h u u0 (by omega) a b)
  rw [a, if_pos (by omega), if_pos (by omega)] at b
  omega

end Go.Proofs.Ytkdoihcjhccliaa.G
namespace Go.Proofs.Ytkdoihcjhccliaa.G
open Go.RowKit Go.Proofs.Ytkdoihcjhccliaa.Q Go.Proofs.YtkdoihcjhccliaaW.PrintWords Go.Proofs.YtkdoihcjhccliaaW.PrintLast
set_option linter.unusedVariables false
/-- A set of nodes that no edge leaves or enters. -/
def Closed (E : List S98) (X : Int → Prop) : Prop := ∀ i, 0 ≤ i → i < (E.length : Int) → (X (aa E i).f0 ↔ X (aa E i).f1)
def ui (E : List S98) (u v : Int) : Prop := ∀ X, Closed E X → (X u ↔ X v)
def rng (m : Nat) : List Int := (List.range m).map Int.ofNat
theorem tJ (m : Nat) (x : Int) : x ∈ rng m ↔ 0 ≤ x ∧ x < (m : Int) := by
  unfold rng
  rw [List.mem_map]
  constructor
  · rintro ⟨i, hi, rfl⟩
    rw [List.mem_range] at hi
    exact ⟨Int.natCast_nonneg i, Int.ofNat_lt.mpr hi⟩
  · rintro ⟨h0, h1⟩
    exact ⟨x.toNat, List.mem_range.mpr (by omega), by show ((x.toNat : Nat) : Int) = x; omega⟩
theorem JB (m : Nat) : (rng m).length = m := by unfold rng; rw [List.length_map, List.length_range]
end Go.Proofs.Ytkdoihcjhccliaa.G
namespace Go.Proofs.Ytkdoihcjhccliaa.G
open Go.RowKit Go.Proofs.Ytkdoihcjhccliaa.Q Go.Proofs.YtkdoihcjhccliaaW.PrintWords Go.Proofs.YtkdoihcjhccliaaW.PrintLast
set_option linter.unusedVariables false

/-- A graph of n nodes whose costs are at most C, either way. -/
structure Gr (n : Int) (E : List S98) (C : Int) : Prop where
  n0 : 0 ≤ n
  n1 : n ≤ 1100
  m1 : (E.length : Int) ≤ 10000
  c0 : 0 ≤ C
  c1 : C ≤ 134217728
  e : ∀ i : Int, 0 ≤ i → i < (E.length : Int) → (0 ≤ (aa E i).f0 ∧ (aa E i).f0 < n) ∧ (0 ≤ (aa E i).f1 ∧ (aa E i).f1 < n) ∧ -C ≤ (aa E i).f3 ∧ (aa E i).f3 ≤ C

/-- One edge, the first edges, rounds over all edges. -/
def rlx (E : List S98) (D : List Int) (j : Nat) : List Int := if rd D (aa E j).f0 + (aa E j).f3 < rd D (aa E j).f1 then D.set (aa E j).f1.toNat (rd D (aa E j).f0 + (aa E j).f3) else D
def pas (E : List S98) (D : List Int) : Nat → List Int
  | 0 => D
  | i + 1 => rlx E (pas E D i) i
def rnd (n : Int) (E : List S98) : Nat → List Int
  | 0 => List.replicate n.toNat 0
  | r + 1 => pas E (rnd n E r) E.length

theorem ZP (E : List S98) (D : List Int) (j : Nat) : (rlx E D j).length = D.length := by unfold rlx; split; rw [List.length_set]; rfl
theorem zb (E : List S98) (D : List Int) : ∀ i, (pas E D i).length = D.length
  | 0 => rfl
  | i + 1 => by rw [pas, ZP, zb E D i]
theorem wE (n : Int) (E : List S98) : ∀ r, (rnd n E r).length = n.toNat
  | 0 => List.length_replicate
  | r + 1 => by rw [rnd, zb, wE n E r]
theorem Kj {n : Int} {E : List S98} {C : Int} (g : Gr n E C) {D : List Int} (hD : (D.length : Int) = n) {j : Nat} (hj : j < E.length) (v : Int) (v0 : 0 ≤ v) :
    rd (rlx E D j) v = if rd D (aa E j).f0 + (aa E j).f3 < rd D (aa E j).f1 ∧ v = (aa E j).f1 then rd D (aa E j).f0 + (aa E j).f3 else rd D v := by
  obtain ⟨-, ⟨b0, b1⟩, -⟩ := g.e j (by omega) (by omega)
  unfold rlx
  by_cases q : rd D (aa E j).f0 + (aa E j).f3 < rd D (aa E j).f1
  · rw [if_pos q, mg _ _ _ _ b0 (by omega) v0]
    by_cases z : v = (aa E j).f1
    · rw [if_pos z, if_pos ⟨q, z⟩]
    · rw [if_neg z, if_neg fun h => z h.2]
  · rw [if_neg q, if_neg fun h => q h.1]
theorem U5 {n : Int} {E : List S98} {C : Int} (g : Gr n E C) {D : List Int} (hD : (D.length : Int) = n) {j : Nat} (hj : j < E.length) (v : Int) (v0 : 0 ≤ v) : rd (rlx E D j) v ≤ rd D v := by
  rw [Kj g hD hj v v0]
  split
  · rename_i h; rw [h.2]; omega
  · exact Int.le_refl _
theorem HY {n : Int} {E : List S98} {C : Int} (g : Gr n E C) {D : List Int} (hD : (D.length : Int) = n) (v : Int) (v0 : 0 ≤ v) : ∀ i, i ≤ E.length → rd (pas E D i) v ≤ rd D v
  | 0, _ => Int.le_refl _
  | i + 1, h => by
    have a := HY g hD v v0 i (by omega)
    have b := U5 g (D := pas E D i) (by rw [zb]; exact hD) (j := i) (by omega) v v0
    rw [pas]; omega
theorem JC {n : Int} {E : List S98} {C : Int} (g : Gr n E C) {D : List Int} (hD : (D.length : Int) = n) : ∀ i, i ≤ E.length → ∀ j : Nat, j < i → rd (pas E D i) (aa E j).f1 ≤ rd D (aa E j).f0 + (aa E j).f3
  | 0, _, j, h => by omega
  | i + 1, hi, j, h => by
    obtain ⟨⟨a0, a1⟩, ⟨b0, b1⟩, -⟩ := g.e j (by omega) (by omega)
    have hl : ((pas E D i).length : Int) = n := by rw [zb]; exact hD
    by_cases q : j = i
    · subst q
      have a := HY g hD _ a0 j (by omega)
      rw [pas, Kj g hl (by omega) _ b0]
      by_cases z : rd (pas E D j) (aa E j).f0 + (aa E j).f3 < rd (pas E D j) (aa E j).f1
      · rw [if_pos ⟨z, rfl⟩]; omega
      · rw [if_neg fun h => z h.1]; omega
    · have a := JC g hD i (by omega) j (by omega)
      have b := U5 g hl (j := i) (by omega) _ b0
      rw [pas]; omega
theorem Q7 {n : Int} {E : List S98} {C : Int} (g : Gr n E C) (v : Int) (v0 : 0 ≤ v) (v1 : v < n) : ∀ r, rd (rnd n E r) v ≤ 0
  | 0 => by rw [rnd, gT _ _ _ v0 (by omega)]; exact Int.le_refl _
  | r + 1 => by
    have n0 := g.n0
    have a := HY g (D := rnd n E r) (by rw [wE]; omega) v v0 E.length (Nat.le_refl _)
    have := Q7 g v v0 v1 r
    rw [rnd]; omega
theorem Kk {n : Int} {E : List S98} {C : Int} (g : Gr n E C) {D : List Int} (hD : (D.length : Int) = n) {T : Nat} (h : ∀ v : Int, 0 ≤ v → v < n → -((T : Int) * C) ≤ rd D v) : ∀ i, i ≤ E.length → ∀ v : Int, 0 ≤ v → v < n → -(((T + i : Nat) : Int) * C) ≤ rd (pas E D i) v
  | 0, _, v, v0, v1 => h v v0 v1
  | i + 1, hi, v, v0, v1 => by
    obtain ⟨⟨a0, a1⟩, ⟨b0, b1⟩, d0, d1⟩ := g.e i (by omega) (by omega)
    have c0 := g.c0
    have hl : ((pas E D i).length : Int) = n := by rw [zb]; exact hD
    have a := Kk g hD h i (by omega) v v0 v1
    have b := Kk g hD h i (by omega) _ a0 a1
    have e : (((T + (i + 1) : Nat) : Int)) * C = ((T + i : Nat) : Int) * C + C := by rw [← Nat.add_assoc, Int.natCast_add, Int.add_mul]; simp
    rw [e, pas, Kj g hl (by omega) v v0]
    split <;> omega
theorem U6 {n : Int} {E : List S98} {C : Int} (g : Gr n E C) : ∀ (r : Nat) (v : Int), 0 ≤ v → v < n → -(((r * E.length : Nat) : Int) * C) ≤ rd (rnd n E r) v
  | 0, v, v0, v1 => by rw [rnd, gT _ _ _ v0 (by omega), Nat.zero_mul]; simp
  | r + 1, v, v0, v1 => by
    have n0 := g.n0
    have a := Kk g (D := rnd n E r) (by rw [wE]; omega) (T := r * E.length) (U6 g r) E.length (Nat.le_refl _) v v0 v1
    rw [rnd, Nat.succ_mul]; exact a
/-- No sum of a round leaves the machine's numbers. -/
theorem TM {n : Int} {E : List S98} {C : Int} (g : Gr n E C) {r i : Nat} (hr : (r : Int) ≤ n) (hi : i ≤ E.length) : ((r * E.length + i : Nat) : Int) * C ≤ 1500000000000000 := by
  have n1 := g.n1
  have m1 := g.m1
  have c0 := g.c0
  have c1 := g.c1
  have a : r * E.length ≤ 1100 * 10000 := Nat.mul_le_mul (by omega) (by omega)
  have b : ((r * E.length + i : Nat) : Int) * C ≤ (11010000 : Int) * 134217728 := Int.mul_le_mul (by omega) c1 c0 (by decide)
  omega

/-- A walk of k edges from u to v, and what it costs. -/
inductive Walk (E : List S98) (u : Int) : Int → Nat → Int → Prop
  | nil : Walk E u u 0 0
  | cons {k : Nat} {c i : Int} : 0 ≤ i → i < (E.length : Int) → Walk E u (aa E i).f0 k c → Walk E u (aa E i).f1 (k + 1) (c + (aa E i).f3)
theorem Walk.front {E : List S98} {u v : Int} {k : Nat} {c i : Int} (w : Walk E u v k c) (i0 : 0 ≤ i) (i1 : i < (E.length : Int)) (hu : u = (aa E i).f1) : Walk E (aa E i).f0 v (k + 1) (c + (aa E i).f3) := by
  induction w with
  | nil => rw [hu, Int.zero_add]; have := Walk.cons (u := (aa E i).f0) i0 i1 Walk.nil; rw [Int.zero_add] at this; exact this
  | @cons k c j j0 j1 w ih =>
    have := Walk.cons j0 j1 ih
    rw [show c + (aa E j).f3 + (aa E i).f3 = c + (aa E i).f3 + (aa E j).f3 by omega]
    exact this
theorem TN {n : Int} {E : List S98} {C : Int} (g : Gr n E C) {u : Int} (u0 : 0 ≤ u) (u1 : u < n) {v : Int} {k : Nat} {c : Int} (w : Walk E u v k c) : ∀ r : Nat, k ≤ r → rd (rnd n E r) v ≤ c := by
  induction w with
  | nil => intro r _; exact Q7 g u u0 u1 r
  | @cons k c j j0 j1 w ih =>
    intro r hr
    obtain ⟨r, rfl⟩ : ∃ q, r = q + 1 := ⟨r - 1, by omega⟩
    have n0 := g.n0
    have a := ih r (by omega)
    have b := JC g (D := rnd n E r) (by rw [wE]; omega) E.length (Nat.le_refl _) j.toNat (by omega)
    rw [show ((j.toNat : Nat) : Int) = j by omega] at b
    rw [rnd]; omega

/-- Whence each node got what it has: by an edge from one that had it before (tau: when). -/
def Via (n : Int) (E : List S98) (D P : List Int) (tau : Int → Nat) (T : Nat) : Prop := ∀ v : Int, 0 ≤ v → v < n → (tau v = 0 ∧ rd D v = 0) ∨
  (0 < tau v ∧ tau v ≤ T ∧ 0 ≤ rd P v ∧ rd P v < (E.length : Int) ∧ (aa E (rd P v)).f1 = v ∧ rd D (aa E (rd P v)).f0 + (aa E (rd P v)).f3 ≤ rd D v ∧ (rd D (aa E (rd P v)).f0 + (aa E (rd P v)).f3 = rd D v → tau (aa E (rd P v)).f0 < tau v))
theorem Via.stay {n : Int} {E : List S98} {D P : List Int} {tau : Int → Nat} {T : Nat} (h : Via n E D P tau T) : Via n E D P tau (T + 1) := fun v v0 v1 => by
  rcases h v v0 v1 with a | ⟨a1, a2, a3⟩
  · exact Or.inl a
  · exact Or.inr ⟨a1, by omega, a3⟩
theorem Via.move {n : Int} {E : List S98} {C : Int} (g : Gr n E C) {D P : List Int} {tau : Int → Nat} {T : Nat} (h : Via n E D P tau T) (hD : (D.length : Int) = n) (hP : (P.length : Int) = n) {j : Nat} (hj : j < E.length)
    (q : rd D (aa E j).f0 + (aa E j).f3 < rd D (aa E j).f1) : Via n E (rlx E D j) (P.set (aa E j).f1.toNat j) (fun v => if v = (aa E j).f1 then T + 1 else tau v) (T + 1) := by
  obtain ⟨⟨a0, a1⟩, ⟨b0, b1⟩, -⟩ := g.e j (by omega) (by omega)
  intro v v0 v1
  have rp : rd (P.set (aa E j).f1.toNat (j : Int)) v = if v = (aa E j).f1 then (j : Int) else rd P v := mg _ _ _ _ b0 (by omega) v0
  have rd1 : ∀ u : Int, 0 ≤ u → rd (rlx E D j) u = if u = (aa E j).f1 then rd D (aa E j).f0 + (aa E j).f3 else rd D u := fun u u0 => by
    rw [Kj g hD hj u u0]
    by_cases z : u = (aa E j).f1
    · rw [if_pos ⟨q, z⟩, if_pos z]
    · rw [if_neg fun h => z h.2, if_neg z]
  by_cases z : v = (aa E j).f1
  · have rz : rd (P.set (aa E j).f1.toNat (j : Int)) v = j := by rw [rp, if_pos z]
    rw [rz]
    right
    refine ⟨?_, ?_, by omega, by omega, z.symm, ?_, ?_⟩
    · show 0 < (if v = _ then _ else _); rw [if_pos z]; omega
    · show (if v = _ then _ else _) ≤ _; rw [if_pos z]; omega
    · rw [rd1 _ a0, rd1 v v0, if_pos z]
      by_cases y : (aa E j).f0 = (aa E j).f1
      · rw [if_pos y]; rw [y] at q ⊢; omega
      · rw [if_neg y]; exact Int.le_refl _
    · rw [rd1 _ a0, rd1 v v0, if_pos z]
      intro e
      show (if (aa E j).f0 = _ then _ else _) < (if v = _ then _ else _)
      rw [if_pos z]
      by_cases y : (aa E j).f0 = (aa E j).f1
      · rw [if_pos y, y] at e; rw [y] at q; omega
      · rw [if_neg y]
        rcases h _ a0 a1 with t | t
        · omega
        · omega
  · have rz : rd (P.set (aa E j).f1.toNat (j : Int)) v = rd P v := by rw [rp, if_neg z]
    rw [rz]
    show ((if v = _ then _ else _) = 0 ∧ _) ∨ (0 < (if v = _ then _ else _) ∧ (if v = _ then _ else _) ≤ _ ∧ _)
    rw [if_neg z, rd1 v v0, if_neg z]
    rcases h v v0 v1 with a | ⟨c1, c2, c3, c4, c5, c6, c7⟩
    · exact Or.inl a
    · obtain ⟨⟨f0, f1⟩, -, -⟩ := g.e _ c3 c4
      refine Or.inr ⟨c1, by omega, c3, c4, c5, ?_, ?_⟩
      · rw [rd1 _ f0]; split
        · rename_i y; rw [y] at c6; omega
        · exact c6
      · rw [rd1 _ f0]
        show _ → (if _ = _ then _ else _) < (if v = _ then _ else _)
        rw [if_neg z]
        by_cases y : (aa E (rd P v)).f0 = (aa E j).f1
        · rw [if_pos y]; rw [y] at c6; intro e; omega
        · rw [if_neg y, if_neg y]; exact c7

/-- What the last round left: nothing was changed, or some node came down. -/
def Last (n : Int) (D0 D : List Int) (tau : Int → Nat) (l : Int) : Prop := (l = -1 ∧ D = D0) ∨ (0 ≤ l ∧ l < n ∧ rd D l < rd D0 l ∧ 0 < tau l)

theorem aev {n : Int} {E : List S98} {C : Int} (g : Gr n E C) {r i : Nat} (hr : (r : Int) ≤ n) (hi : i < E.length) : wrap64 (rd (pas E (rnd n E r) i) (aa E i).f0 + (aa E i).f3) = rd (pas E (rnd n E r) i) (aa E i).f0 + (aa E i).f3 := by
  have n0 := g.n0
  have c1 := g.c1
  have hD0 : ((rnd n E r).length : Int) = n := by rw [wE]; omega
  obtain ⟨⟨a0, a1⟩, -, d0, d1⟩ := g.e i (by omega) (by omega)
  have lo := Kk g hD0 (U6 g r) i (Nat.le_of_lt hi) _ a0 a1
  have sb := TM g hr (i := i) (Nat.le_of_lt hi)
  have hi0 := HY g hD0 _ a0 i (Nat.le_of_lt hi)
  have hi1 := Q7 g _ a0 a1 r
  generalize ((r * E.length + i : Nat) : Int) * C = z at lo sb
  exact wr (by omega) (by omega)

theorem Kl {n : Int} {E : List S98} {C : Int} (g : Gr n E C) {r : Nat} (hr : (r : Int) ≤ n) (d : Nat) : ∀ (i : Nat) (P : List Int) (tau : Int → Nat) (l : Int), i + d = E.length → (P.length : Int) = n → Via n E (pas E (rnd n E r) i) P tau (r * E.length + i) → Last n (rnd n E r) (pas E (rnd n E r) i) tau l →
    ∃ (P' : List Int) (tau' : Int → Nat) (l' : Int), (P'.length : Int) = n ∧ Via n E (rnd n E (r + 1)) P' tau' ((r + 1) * E.length) ∧ Last n (rnd n E r) (rnd n E (r + 1)) tau' l' ∧
      ∀ z, Evl (fun k => ah.l0 k (rnd n E (r + 1)) P' l' ((r : Int) + 1) n E) z → Evl (fun k => ah.l1 k (pas E (rnd n E r) i) P l r i n E) z := by
  have n0 := g.n0
  have n1 := g.n1
  have m1 := g.m1
  have c1 := g.c1
  induction d with
  | zero =>
    intro i P tau l hi hP V hl
    have e : i = E.length := by omega
    subst e
    refine ⟨P, tau, l, hP, by rw [Nat.succ_mul]; exact V, hl, fun z hz => hz.step fun k => ?_⟩
    rw [ah.l1, if_neg (by omega), w1 (by omega) (by omega)]; rfl
  | succ d ih =>
    intro i P tau l hi hP V hl
    have hD : ((pas E (rnd n E r) i).length : Int) = n := by rw [zb, wE]; omega
    have hD0 : ((rnd n E r).length : Int) = n := by rw [wE]; omega
    have gi : (i : Int) < (E.length : Int) := by omega
    have g0 : (0 : Int) ≤ i := by omega
    have id : i + 1 + d = E.length := by omega
    have il : i < E.length := by omega
    obtain ⟨⟨a0, a1⟩, ⟨b0, b1⟩, d0, d1⟩ := g.e i g0 gi
    have w : wrap64 ((i : Int) + 1) = ((i + 1 : Nat) : Int) := by rw [w1 (by omega) (by omega)]; rfl
    have ga : (aa E i).f0 < ((pas E (rnd n E r) i).length : Int) := by omega
    have gb : (aa E i).f1 < ((pas E (rnd n E r) i).length : Int) := by omega
    have gp : (aa E i).f1 < (P.length : Int) := by omega
    have ws := aev g hr il
    by_cases q : rd (pas E (rnd n E r) i) (aa E i).f0 + (aa E i).f3 < rd (pas E (rnd n E r) i) (aa E i).f1
    · have ps : pas E (rnd n E r) (i + 1) = (pas E (rnd n E r) i).set (aa E i).f1.toNat (rd (pas E (rnd n E r) i) (aa E i).f0 + (aa E i).f3) := by rw [pas, rlx, if_pos q]
      have V' := V.move g hD hP il q
      have hd := HY g hD0 _ b0 i (Nat.le_of_lt il)
      obtain ⟨P', tau', l', x1, x2, x3, x4⟩ := ih (i + 1) (P.set (aa E i).f1.toNat i) _ (aa E i).f1 id (by rw [List.length_set]; exact hP) V' (Or.inr ⟨b0, b1, by
        rw [ps, mg _ _ _ _ b0 gb b0, if_pos rfl]; exact Int.lt_of_lt_of_le q hd, by show 0 < (if _ = _ then _ else _); rw [if_pos rfl]; exact Nat.succ_pos _⟩)
      refine ⟨P', tau', l', x1, x2, x3, fun z hz => (x4 z hz).step fun k => ?_⟩
      rw [ah.l1, if_pos gi, if_pos g0, if_pos a0, if_pos ga, if_pos b0, if_pos gb, ws, if_pos q, if_pos gp, w, ps]
    · have ps : pas E (rnd n E r) (i + 1) = pas E (rnd n E r) i := by rw [pas, rlx, if_neg q]
      obtain ⟨P', tau', l', x1, x2, x3, x4⟩ := ih (i + 1) P tau l id hP (by rw [ps]; exact V.stay) (by rw [ps]; exact hl)
      rw [ps] at x4
      refine ⟨P', tau', l', x1, x2, x3, fun z hz => (x4 z hz).step fun k => ?_⟩
      rw [ah.l1, if_pos gi, if_pos g0, if_pos a0, if_pos ga, if_pos b0, if_pos gb, ws, if_neg q, w]

theorem TP {n : Int} {E : List S98} {C : Int} (g : Gr n E C) (d : Nat) : ∀ (r : Nat) (P : List Int) (tau : Int → Nat) (l : Int), ((r + d : Nat) : Int) = n → (P.length : Int) = n → Via n E (rnd n E r) P tau (r * E.length) →
    ∃ (P' : List Int) (tau' : Int → Nat) (l' : Int), (P'.length : Int) = n ∧ Via n E (rnd n E (n.toNat + 1)) P' tau' ((n.toNat + 1) * E.length) ∧ Last n (rnd n E n.toNat) (rnd n E (n.toNat + 1)) tau' l' ∧
      ∀ z, Evl (fun k => if l' < 0 then (some ([] : List Int)) else (ah.l2 k P' l' 0 n E)) z → Evl (fun k => ah.l0 k (rnd n E r) P l r n E) z := by
  have n0 := g.n0
  induction d with
  | zero =>
    intro r P tau l hr hP V
    obtain ⟨P', tau', l', x1, x2, x3, x4⟩ := Kl g (r := r) (by omega) E.length 0 P tau (-1) (by omega) hP V (Or.inl ⟨rfl, rfl⟩)
    have e : r = n.toNat := by omega
    subst e
    refine ⟨P', tau', l', x1, x2, x3, fun z hz => Evl.step (x4 z (hz.step fun k => ?_)) fun k => ?_⟩
    · rw [ah.l0, if_neg (by omega)]
    · rw [ah.l0, if_pos (by omega)]; rfl
  | succ d ih =>
    intro r P tau l hr hP V
    obtain ⟨P1, tau1, l1, x1, x2, x3, x4⟩ := Kl g (r := r) (by omega) E.length 0 P tau (-1) (by omega) hP V (Or.inl ⟨rfl, rfl⟩)
    obtain ⟨P', tau', l', y1, y2, y3, y4⟩ := ih (r + 1) P1 tau1 l1 (by omega) x1 x2
    refine ⟨P', tau', l', y1, y2, y3, fun z hz => Evl.step (x4 z (y4 z hz)) fun k => ?_⟩
    rw [ah.l0, if_pos (by omega)]; rfl

/-- Where a node had it from, again and again. -/
def itr (E : List S98) (P : List Int) (v : Int) : Nat → Int
  | 0 => v
  | k + 1 => (aa E (rd P (itr E P v k))).f0
theorem xJ (E : List S98) (P : List Int) (v : Int) (a : Nat) : ∀ b, itr E P v (a + b) = itr E P (itr E P v a) b
  | 0 => rfl
  | b + 1 => by show (aa E (rd P (itr E P v (a + b)))).f0 = _; rw [xJ E P v a b]; rfl
theorem TQ : ∀ (l m : List Int), l.Nodup → (∀ x ∈ l, x ∈ m) → l.length ≤ m.length := by
  intro l
  induction l with
  | nil => intro m _ _; exact Nat.zero_le _
  | cons a t ih =>
    intro m h hs
    obtain ⟨ha, ht⟩ := List.nodup_cons.mp h
    have hm : a ∈ m := hs a (by simp)
    have := ih (m.erase a) ht (fun x hx => (List.mem_erase_of_ne (fun e => ha (by rw [← e]; exact hx))).mpr (hs x (by simp [hx])))
    rw [List.length_erase_of_mem hm] at this
    have := List.length_pos_of_mem hm
    rw [List.length_cons]; omega
theorem Q8 {m : Nat} (f : Nat → Int) (h : ∀ i, i ≤ m → 0 ≤ f i ∧ f i < (m : Int)) : ∃ a b, a < b ∧ b ≤ m ∧ f a = f b := by
  by_cases q : ∃ a b, a < b ∧ b ≤ m ∧ f a = f b
  · exact q
  · exfalso
    have nd : ((List.range (m + 1)).map f).Nodup := by
      rw [List.Nodup, List.pairwise_map]
      refine List.Pairwise.imp_of_mem (fun {a b} ha hb hab => ?_) (List.pairwise_lt_range (n := m + 1))
      intro e
      rw [List.mem_range] at hb
      exact q ⟨a, b, hab, by omega, e⟩
    have := TQ ((List.range (m + 1)).map f) (rng m) nd (fun x hx => by
      obtain ⟨i, hi, rfl⟩ := List.mem_map.mp hx
      rw [List.mem_range] at hi
      obtain ⟨a, b⟩ := h i (by omega)
      exact (tJ m _).mpr ⟨a, b⟩)
    rw [List.length_map, List.length_range, JB] at this
    omega

/-- The edges of a circle, the last one first gathered. -/
def gat (E : List S98) (P : List Int) (w : Int) : Nat → List Int
  | 0 => []
  | k + 1 => rd P (itr E P w k) :: gat E P w k
theorem wF (E : List S98) (P : List Int) (w : Int) : ∀ k, (gat E P w k).length = k
  | 0 => rfl
  | k + 1 => by rw [gat, List.length_cons, wF E P w k]
theorem TR (x : Int) (l : List Int) : rd (x :: l) 0 = x := rfl
theorem Km (x : Int) (l : List Int) (j : Int) (h : 0 < j) : rd (x :: l) j = rd l (j - 1) := by
  unfold rd; rw [show j.toNat = (j - 1).toNat + 1 by omega]; rfl
theorem zx (E : List S98) (P : List Int) (w : Int) : ∀ (k : Nat) (j : Nat), j < k → rd (gat E P w k) j = rd P (itr E P w (k - 1 - j))
  | 0, j, h => by omega
  | k + 1, 0, _ => by rw [gat]; show rd (_ :: _) 0 = _; rw [TR]; rfl
  | k + 1, j + 1, h => by
    rw [gat, Km _ _ _ (by omega), show ((j + 1 : Nat) : Int) - 1 = (j : Int) by omega, zx E P w k j (by omega), show k + 1 - 1 - (j + 1) = k - 1 - j by omega]
/-- What a list of edges costs. -/
def cst (E : List S98) : List Int → Int
  | [] => 0
  | i :: L => (aa E i).f3 + cst E L
/-- These edges make a circle, no node twice. -/
structure Q9 (E : List S98) (L : List Int) : Prop where
  pos : 0 < L.length
  el : ∀ j : Nat, j < L.length → 0 ≤ rd L j ∧ rd L j < (E.length : Int)
  on : ∀ j : Nat, j + 1 < L.length → (aa E (rd L j)).f1 = (aa E (rd L ((j + 1 : Nat) : Int))).f0
  cl : (aa E (rd L ((L.length - 1 : Nat) : Int))).f1 = (aa E (rd L 0)).f0
  once : ∀ i j : Nat, i < j → j < L.length → (aa E (rd L i)).f1 ≠ (aa E (rd L j)).f1

/-- A node that got something, and all whence it came. -/
structure Hot (n : Int) (E : List S98) (D P : List Int) (tau : Int → Nat) (v : Int) : Prop where
  v0 : 0 ≤ v
  v1 : v < n
  p0 : 0 ≤ rd P v
  p1 : rd P v < (E.length : Int)
  t : (aa E (rd P v)).f1 = v
  le : rd D (aa E (rd P v)).f0 + (aa E (rd P v)).f3 ≤ rd D v
  eq : rd D (aa E (rd P v)).f0 + (aa E (rd P v)).f3 = rd D v → tau (aa E (rd P v)).f0 < tau v
theorem Via.hot {n : Int} {E : List S98} {D P : List Int} {tau : Int → Nat} {T : Nat} (V : Via n E D P tau T) {v : Int} (v0 : 0 ≤ v) (v1 : v < n) (h : 0 < tau v) : Hot n E D P tau v := by
  rcases V v v0 v1 with a | ⟨a1, a2, a3, a4, a5, a6, a7⟩
  · omega
  · exact ⟨v0, v1, a3, a4, a5, a6, a7⟩

theorem Ra {n : Int} {E : List S98} {C : Int} (g : Gr n E C) {P : List Int} {tau : Int → Nat} {T : Nat} {l : Int} (V : Via n E (rnd n E (n.toNat + 1)) P tau T) (l0 : 0 ≤ l) (l1 : l < n) (lt : rd (rnd n E (n.toNat + 1)) l < rd (rnd n E n.toNat) l) (lh : 0 < tau l) :
    ∀ k : Nat, (k : Int) ≤ n → 0 < tau (itr E P l k) ∧ 0 ≤ itr E P l k ∧ itr E P l k < n ∧ ∃ c : Int, Walk E (itr E P l k) l k c ∧ c ≤ rd (rnd n E (n.toNat + 1)) l - rd (rnd n E (n.toNat + 1)) (itr E P l k) := by
  intro k
  induction k with
  | zero => intro _; exact ⟨lh, l0, l1, 0, Walk.nil, by show (0 : Int) ≤ _ - rd _ l; omega⟩
  | succ k ih =>
    intro hk
    obtain ⟨h1, h2, h3, c, h4, h5⟩ := ih (by omega)
    have H := V.hot h2 h3 h1
    obtain ⟨⟨f0, f1⟩, -, -⟩ := g.e _ H.p0 H.p1
    have W : Walk E (itr E P l (k + 1)) l (k + 1) (c + (aa E (rd P (itr E P l k))).f3) := h4.front H.p0 H.p1 H.t.symm
    have le := H.le
    have e : itr E P l (k + 1) = (aa E (rd P (itr E P l k))).f0 := rfl
    have h6 : c + (aa E (rd P (itr E P l k))).f3 ≤ rd (rnd n E (n.toNat + 1)) l - rd (rnd n E (n.toNat + 1)) (itr E P l (k + 1)) := by rw [e]; omega
    refine ⟨?_, f0, f1, _, W, h6⟩
    rcases V _ f0 f1 with a | a
    · have b := TN g f0 f1 W n.toNat (by omega)
      rw [e, a.2] at h6
      omega
    · exact a.1

/-- Down a chain costs fall, by no less than what the edges cost. -/
theorem Kn {n : Int} {E : List S98} {D P : List Int} {tau : Int → Nat} {w : Int} (H : ∀ k, Hot n E D P tau (itr E P w k)) : ∀ k, cst E (gat E P w k) ≤ rd D w - rd D (itr E P w k) ∧ (0 < k → cst E (gat E P w k) = rd D w - rd D (itr E P w k) → tau (itr E P w k) < tau w)
  | 0 => ⟨by show (0 : Int) ≤ _ - rd D w; omega, fun h => by omega⟩
  | k + 1 => by
    obtain ⟨a, b⟩ := Kn H k
    have h := H k
    have le := h.le
    have e : itr E P w (k + 1) = (aa E (rd P (itr E P w k))).f0 := rfl
    rw [gat, cst, e]
    refine ⟨by omega, fun _ q => ?_⟩
    have t := h.eq (by omega)
    by_cases z : k = 0
    · subst z; exact t
    · have := b (by omega) (by omega); omega

theorem Rb {n : Int} {E : List S98} {D P : List Int} {tau : Int → Nat} {w : Int} (H : ∀ k, Hot n E D P tau (itr E P w k)) {p : Nat} (p0 : 0 < p) (hp : itr E P w p = w) (least : ∀ q, 0 < q → q < p → itr E P w q ≠ w) : Q9 E (gat E P w p) ∧ cst E (gat E P w p) < 0 := by
  refine ⟨⟨by rw [wF]; exact p0, fun j hj => ?_, fun j hj => ?_, ?_, fun i j hij hj => ?_⟩, ?_⟩
  · rw [wF] at hj
    rw [zx _ _ _ _ _ hj]; exact ⟨(H _).p0, (H _).p1⟩
  · rw [wF] at hj
    rw [zx _ _ _ _ _ (by omega), zx _ _ _ _ _ hj, (H _).t]
    rw [show p - 1 - j = (p - 1 - (j + 1)) + 1 by omega]; rfl
  · rw [wF, zx _ _ _ _ _ (by omega), (H _).t]
    have := zx E P w p 0 p0
    rw [show ((0 : Nat) : Int) = 0 from rfl] at this
    rw [this, show p - 1 - (p - 1) = 0 by omega]
    show w = itr E P w (p - 1 - 0 + 1)
    rw [show p - 1 - 0 + 1 = p by omega, hp]
  · rw [wF] at hj
    rw [zx _ _ _ _ _ (by omega), zx _ _ _ _ _ hj, (H _).t, (H _).t]
    intro e
    refine least (p - 1 - j + (p - (p - 1 - i))) (by omega) (by omega) ?_
    rw [xJ, ← e, ← xJ, show p - 1 - i + (p - (p - 1 - i)) = p by omega, hp]
  · obtain ⟨a, b⟩ := Kn H p
    rw [hp] at a b
    by_cases z : cst E (gat E P w p) = 0
    · have := b p0 (by omega); omega
    · omega

theorem Rc (Q : Nat → Prop) : ∀ m, Q m → ∃ p, p ≤ m ∧ Q p ∧ ∀ q, q < p → ¬ Q q := by
  intro m
  induction m using Nat.strongRecOn with
  | _ m ih =>
    intro h
    by_cases z : ∃ q, q < m ∧ Q q
    · obtain ⟨q, q1, q2⟩ := z
      obtain ⟨p, p1, p2, p3⟩ := ih q q1 q2
      exact ⟨p, by omega, p2, p3⟩
    · exact ⟨m, Nat.le_refl _, h, fun q hq hQ => z ⟨q, hq, hQ⟩⟩

theorem TS {n : Int} {E : List S98} {D P : List Int} {tau : Int → Nat} {l : Int} (n1 : n ≤ 1100) (hP : (P.length : Int) = n) (H : ∀ k, Hot n E D P tau (itr E P l k)) (d : Nat) : ∀ i : Nat, ((i + d : Nat) : Int) = n →
    ∀ z, Evl (fun k => ah.l3 k P (itr E P l n.toNat) ([rd P (itr E P l n.toNat)]) n E) z → Evl (fun k => ah.l2 k P (itr E P l i) i n E) z := by
  induction d with
  | zero =>
    intro i hi z hz
    have e : i = n.toNat := by omega
    subst e
    have h := H n.toNat
    have v0 := h.v0
    have v1 := h.v1
    refine hz.step fun k => ?_
    rw [ah.l2, if_neg (by omega), if_pos v0, if_pos (by omega)]
  | succ d ih =>
    intro i hi z hz
    have h := H i
    have v0 := h.v0
    have v1 := h.v1
    have p0 := h.p0
    have p1 := h.p1
    have w : wrap64 ((i : Int) + 1) = ((i + 1 : Nat) : Int) := by rw [w1 (by omega) (by omega)]; rfl
    refine (ih (i + 1) (by omega) z hz).step fun k => ?_
    rw [ah.l2, if_pos (by omega), if_pos v0, if_pos (by omega), if_pos p0, if_pos p1, w]; rfl
theorem TT {n : Int} {E : List S98} {D P : List Int} {tau : Int → Nat} {w : Int} (n1 : n ≤ 1100) (hP : (P.length : Int) = n) (H : ∀ k, Hot n E D P tau (itr E P w k)) {p : Nat} (p0 : 0 < p) (pn : p ≤ 1100) (hp : itr E P w p = w) (least : ∀ q, 0 < q → q < p → itr E P w q ≠ w) (d : Nat) : ∀ i : Nat, i + 1 + d = p →
    Evl (fun k => ah.l3 k P w (gat E P w (i + 1)) n E) (gat E P w p) := by
  induction d with
  | zero =>
    intro i hi
    have e : p = i + 1 := by omega
    subst e
    have h := H i
    have hl := wF E P w (i + 1)
    refine Evl.here fun k => ?_
    have r0 : rd (gat E P w (i + 1)) 0 = rd P (itr E P w i) := rfl
    have hp' : (aa E (rd P (itr E P w i))).f0 = w := hp
    rw [ah.l3, if_pos (by omega), r0, if_pos h.p0, if_pos h.p1, if_pos hp']
  | succ d ih =>
    intro i hi
    have h := H i
    have h' := H (i + 1)
    have v0 := h'.v0
    have v1 := h'.v1
    have hl := wF E P w (i + 1)
    have r0 : rd (gat E P w (i + 1)) 0 = rd P (itr E P w i) := rfl
    have ne : ¬ (aa E (rd P (itr E P w i))).f0 = w := least (i + 1) (by omega) (by omega)
    have q0 : 0 ≤ (aa E (rd P (itr E P w i))).f0 := v0
    have q1 : (aa E (rd P (itr E P w i))).f0 < (P.length : Int) := by rw [hP]; exact v1
    refine (ih (i + 1) (by omega)).step fun k => ?_
    rw [ah.l3, if_pos (by omega), r0, if_pos h.p0, if_pos h.p1, if_neg ne, if_pos q0, if_pos q1, Option.bind_some, if_pos (by rw [hl]; simp; omega)]; rfl

/-- A circle that costs less than nothing; or potentials that no edge goes below. -/
theorem ZQ {n : Int} {E : List S98} {C : Int} (g : Gr n E C) : ∃ L, Evl (fun k => ah.f k n E) L ∧
    ((L = [] ∧ ∀ j : Nat, j < E.length → rd (rnd n E n.toNat) (aa E j).f1 ≤ rd (rnd n E n.toNat) (aa E j).f0 + (aa E j).f3) ∨ (Q9 E L ∧ cst E L < 0)) := by
  have n0 := g.n0
  have n1 := g.n1
  have V0 : Via n E (rnd n E 0) (List.replicate n.toNat 0) (fun _ => 0) (0 * E.length) := fun v v0 v1 => Or.inl ⟨rfl, by rw [rnd, gT _ _ _ v0 (by omega)]⟩
  obtain ⟨P, tau, l, hP, V, hl, cont⟩ := TP g n.toNat 0 (List.replicate n.toNat 0) (fun _ => 0) (-1) (by omega) (by rw [List.length_replicate]; omega) V0
  have go : ∀ {L}, Evl (fun k => if l < 0 then (some ([] : List Int)) else (ah.l2 k P l 0 n E)) L → Evl (fun k => ah.f k n E) L := fun hL => (cont _ hL).congr fun k => by
    rw [ah.f, if_pos n0, if_pos (by omega)]; rfl
  rcases hl with ⟨rfl, e⟩ | ⟨l0, l1, lt, lh⟩
  · refine ⟨[], go (Evl.pure.congr fun k => by rw [if_pos (by decide)]), Or.inl ⟨rfl, fun j hj => ?_⟩⟩
    have a := JC g (D := rnd n E n.toNat) (by rw [wE]; omega) E.length (Nat.le_refl _) j hj
    have e' : pas E (rnd n E n.toNat) E.length = rnd n E n.toNat := e
    rw [e'] at a; exact a
  · have ch := Ra g V l0 l1 lt lh
    obtain ⟨a, b, ab, bn, eab⟩ := Q8 (m := n.toNat) (itr E P l) (fun i hi => by
      obtain ⟨-, x, y, -⟩ := ch i (by omega)
      exact ⟨x, by omega⟩)
    have per : ∀ k, itr E P l (a + (b - a) + k) = itr E P l (a + k) := fun k => by
      rw [show a + (b - a) = b by omega, xJ, xJ, ← eab]
    have back : ∀ j : Nat, ∃ i, i ≤ n.toNat ∧ itr E P l j = itr E P l i := by
      intro j
      induction j using Nat.strongRecOn with
      | _ j ih =>
        by_cases q : j ≤ n.toNat
        · exact ⟨j, q, rfl⟩
        · obtain ⟨i, i1, i2⟩ := ih (j - (b - a)) (by omega)
          refine ⟨i, i1, ?_⟩
          rw [← i2]
          have := per (j - b)
          rw [show a + (b - a) + (j - b) = j by omega, show a + (j - b) = j - (b - a) by omega] at this
          exact this
    have H : ∀ k, Hot n E (rnd n E (n.toNat + 1)) P tau (itr E P l k) := fun k => by
      obtain ⟨i, i1, i2⟩ := back k
      obtain ⟨x, y, z, -⟩ := ch i (by omega)
      rw [i2]; exact V.hot y z x
    have Hw : ∀ k, Hot n E (rnd n E (n.toNat + 1)) P tau (itr E P (itr E P l n.toNat) k) := fun k => by rw [← xJ]; exact H _
    have cyc : 0 < b - a ∧ itr E P (itr E P l n.toNat) (b - a) = itr E P l n.toNat := ⟨by omega, by
      rw [← xJ]
      have := per (n.toNat - a)
      rw [show a + (b - a) + (n.toNat - a) = n.toNat + (b - a) by omega, show a + (n.toNat - a) = n.toNat by omega] at this
      exact this⟩
    obtain ⟨p, p1, ⟨p2, p3⟩, p4⟩ := Rc (fun q => 0 < q ∧ itr E P (itr E P l n.toNat) q = itr E P l n.toNat) (b - a) cyc
    have least : ∀ q, 0 < q → q < p → itr E P (itr E P l n.toNat) q ≠ itr E P l n.toNat := fun q q0 q1 e => p4 q q1 ⟨q0, e⟩
    have fin := TT n1 hP Hw p2 (by omega) p3 least (p - 1) 0 (by omega)
    refine ⟨_, go ((TS n1 hP H n.toNat 0 (by omega) _ fin).congr fun k => by rw [if_neg (by omega)]; rfl), Or.inr (Rb Hw p2 p3 least)⟩
end Go.Proofs.Ytkdoihcjhccliaa.G
namespace Go.Proofs.Ytkdoihcjhccliaa.G
open Go.RowKit Go.Proofs.Ytkdoihcjhccliaa.Q Go.Proofs.YtkdoihcjhccliaaW.PrintWords Go.Proofs.YtkdoihcjhccliaaW.PrintLast
set_option linter.unusedVariables false

/-- A node that can be come to along the edges. -/
inductive Rch (E : List S98) (s : Int) : Int → Prop
  | refl : Rch E s s
  | step {i : Int} : 0 ≤ i → i < (E.length : Int) → Rch E s (aa E i).f0 → Rch E s (aa E i).f1
theorem Rch.trans {E : List S98} {s t v : Int} (a : Rch E s t) (b : Rch E t v) : Rch E s v := by
  induction b with
  | refl => exact a
  | step i0 i1 _ ih => exact Rch.step i0 i1 ih
theorem Rch.inn {n : Int} {E : List S98} (R : Right n E) {s v : Int} (h : Rch E s v) (s0 : 0 ≤ s) (s1 : s < n) : 0 ≤ v ∧ v < n := by
  cases h with
  | refl => exact ⟨s0, s1⟩
  | step i0 i1 _ => have e := R.e _ i0 i1; exact ⟨e.b0, e.b1⟩

/-- Levels below d are done: what goes out of them was come to. -/
structure Lev (n : Int) (E : List S98) (s : Int) (V : List Int) (d : Int) : Prop where
  len : (V.length : Int) = n
  src : rd V s = 0
  top : ∀ v : Int, 0 ≤ v → v < n → rd V v ≤ d
  snd : ∀ v : Int, 0 ≤ v → v < n → 0 ≤ rd V v → Rch E s v
  low : ∀ v : Int, 0 ≤ v → v < n → 0 < rd V v → ∃ u : Int, 0 ≤ u ∧ u < n ∧ rd V u = rd V v - 1
  out : ∀ i : Int, 0 ≤ i → i < (E.length : Int) → 0 ≤ rd V (aa E i).f0 → rd V (aa E i).f0 < d → 0 ≤ rd V (aa E i).f1

/-- One round over the edges, at distance d: i edges are looked at. -/
structure Lv2 (n : Int) (E : List S98) (s : Int) (V : List Int) (d : Int) (i : Int) : Prop where
  len : (V.length : Int) = n
  src : rd V s = 0
  top : ∀ v : Int, 0 ≤ v → v < n → rd V v ≤ d + 1
  snd : ∀ v : Int, 0 ≤ v → v < n → 0 ≤ rd V v → Rch E s v
  low : ∀ v : Int, 0 ≤ v → v < n → 0 < rd V v → ∃ u : Int, 0 ≤ u ∧ u < n ∧ rd V u = rd V v - 1
  out : ∀ j : Int, 0 ≤ j → j < (E.length : Int) → 0 ≤ rd V (aa E j).f0 → rd V (aa E j).f0 < d → 0 ≤ rd V (aa E j).f1
  now : ∀ j : Int, 0 ≤ j → j < i → rd V (aa E j).f0 = d → 0 ≤ rd V (aa E j).f1

theorem Re {n : Int} {E : List S98} (R : Right n E) {s d : Int} (s0 : 0 ≤ s) (s1 : s < n) (d0 : 0 ≤ d) (d1 : d ≤ 5000) (m : Nat) : ∀ (i : Nat) (V : List Int), i + m = E.length → Lv2 n E s V d i →
    ∃ V', Lev n E s V' (d + 1) ∧ ∀ z, Evl (fun k => aN.l1 k V' (d + 1) n E) z → Evl (fun k => aN.l2 k V d i n E) z := by
  have m1 := R.m1
  induction m with
  | zero =>
    intro i V hi h
    refine ⟨V, ⟨h.len, h.src, h.top, h.snd, h.low, fun j j0 j1 a b => ?_⟩, fun z hz => hz.step fun k => by rw [aN.l2, if_neg (by omega), w1 (by omega) (by omega)]⟩
    by_cases q : rd V (aa E j).f0 = d
    · exact h.now j j0 (by omega) q
    · exact h.out j j0 j1 a (by omega)
  | succ m ih =>
    intro i V hi h
    have gi : (i : Int) < (E.length : Int) := by omega
    have g0 : (0 : Int) ≤ i := by omega
    have im : i + 1 + m = E.length := by omega
    have hl := h.len
    have w : wrap64 ((i : Int) + 1) = ((i + 1 : Nat) : Int) := by rw [w1 (by omega) (by omega)]; rfl
    have e := R.e i g0 gi
    have a0 := e.a0
    have b0 := e.b0
    have a1 : (aa E i).f0 < (V.length : Int) := by have := e.a1; omega
    have b1 : (aa E i).f1 < (V.length : Int) := by have := e.b1; omega
    by_cases q : rd V (aa E i).f0 = d
    · by_cases t : rd V (aa E i).f1 < 0
      · have rv : ∀ v : Int, 0 ≤ v → rd (V.set (aa E i).f1.toNat (d + 1)) v = if v = (aa E i).f1 then d + 1 else rd V v := fun v v0 => mg _ _ _ _ b0 b1 v0
        have keep : ∀ v : Int, 0 ≤ v → 0 ≤ rd V v → rd (V.set (aa E i).f1.toNat (d + 1)) v = rd V v := fun v v0 hv => by
          rw [rv v v0, if_neg (fun z => by rw [z] at hv; omega)]
        have reach : Rch E s (aa E i).f1 := Rch.step g0 gi (h.snd _ a0 e.a1 (by omega))
        have L2 : Lv2 n E s (V.set (aa E i).f1.toNat (d + 1)) d ((i + 1 : Nat) : Int) := by
          refine ⟨by rw [List.length_set]; exact hl, by rw [keep s s0 (by rw [h.src]; exact Int.le_refl _)]; exact h.src, fun v v0 v1 => ?_, fun v v0 v1 hv => ?_, fun v v0 v1 hv => ?_, fun j j0 j1 x y => ?_, fun j j0 j1 x => ?_⟩
          · rw [rv v v0]; have := h.top v v0 v1; split <;> omega
          · rw [rv v v0] at hv
            by_cases z : v = (aa E i).f1
            · rw [z]; exact reach
            · rw [if_neg z] at hv; exact h.snd v v0 v1 hv
          · rw [rv v v0] at hv ⊢
            by_cases z : v = (aa E i).f1
            · rw [if_pos z]; exact ⟨(aa E i).f0, a0, e.a1, by rw [keep _ a0 (by omega), q]; omega⟩
            · rw [if_neg z] at hv ⊢
              obtain ⟨u, u0, u1, eu⟩ := h.low v v0 v1 hv
              exact ⟨u, u0, u1, by rw [keep u u0 (by omega)]; exact eu⟩
          · have ej := R.e j j0 j1
            rw [rv _ ej.a0] at x y
            rw [rv _ ej.b0]
            by_cases z : (aa E j).f0 = (aa E i).f1
            · rw [if_pos z] at y; omega
            · rw [if_neg z] at x y
              have := h.out j j0 j1 x y
              split
              · omega
              · exact this
          · have ej := R.e j j0 (by omega)
            rw [rv _ ej.a0] at x
            rw [rv _ ej.b0]
            by_cases y : (aa E j).f1 = (aa E i).f1
            · rw [if_pos y]; omega
            · rw [if_neg y]
              by_cases z : (aa E j).f0 = (aa E i).f1
              · rw [if_pos z] at x; omega
              · rw [if_neg z] at x
                by_cases c : j = i
                · rw [c] at y; exact absurd rfl y
                · exact h.now j j0 (by omega) x
        obtain ⟨V', x1, x2⟩ := ih (i + 1) _ im L2
        exact ⟨V', x1, fun z hz => (x2 z hz).step fun k => by rw [aN.l2, if_pos gi, if_pos g0, if_pos a0, if_pos a1, if_pos q, if_pos b0, if_pos b1, if_pos t, w, w1 (by omega) (by omega)]⟩
      · obtain ⟨V', x1, x2⟩ := ih (i + 1) V im ⟨hl, h.src, h.top, h.snd, h.low, h.out, fun j j0 j1 x => by
          by_cases c : j = i
          · rw [c]; omega
          · exact h.now j j0 (by omega) x⟩
        exact ⟨V', x1, fun z hz => (x2 z hz).step fun k => by rw [aN.l2, if_pos gi, if_pos g0, if_pos a0, if_pos a1, if_pos q, if_pos b0, if_pos b1, if_neg t, w]⟩
    · obtain ⟨V', x1, x2⟩ := ih (i + 1) V im ⟨hl, h.src, h.top, h.snd, h.low, h.out, fun j j0 j1 x => by
        by_cases c : j = i
        · rw [c] at x; exact absurd x q
        · exact h.now j j0 (by omega) x⟩
      exact ⟨V', x1, fun z hz => (x2 z hz).step fun k => by rw [aN.l2, if_pos gi, if_pos g0, if_pos a0, if_pos a1, if_neg q, w]⟩

/-- No level is as great as the number of nodes. -/
theorem Lev.less {n : Int} {E : List S98} {s : Int} {V : List Int} (h : Lev n E s V n) (n0 : 0 ≤ n) (v : Int) (v0 : 0 ≤ v) (v1 : v < n) : rd V v < n := by
  refine Classical.byContradiction fun no => ?_
  have down : ∀ k : Nat, (k : Int) ≤ n → ∃ u : Int, 0 ≤ u ∧ u < n ∧ rd V u = n - k := by
    intro k
    induction k with
    | zero => intro _; have := h.top v v0 v1; exact ⟨v, v0, v1, by omega⟩
    | succ k ih =>
      intro hk
      obtain ⟨u, u0, u1, e⟩ := ih (by omega)
      obtain ⟨x, x0, x1, ex⟩ := h.low u u0 u1 (by omega)
      exact ⟨x, x0, x1, by omega⟩
  have f : ∀ k : Nat, ∃ u : Int, (k : Int) ≤ n → 0 ≤ u ∧ u < n ∧ rd V u = n - k := fun k => by
    by_cases q : (k : Int) ≤ n
    · obtain ⟨u, a⟩ := down k q; exact ⟨u, fun _ => a⟩
    · exact ⟨0, fun z => absurd z q⟩
  obtain ⟨a, b, ab, bn, e⟩ := Q8 (m := n.toNat) (fun k => Classical.choose (f k)) (fun k hk => by
    have := Classical.choose_spec (f k) (by omega)
    omega)
  have xa := (Classical.choose_spec (f a) (by omega)).2.2
  have xb := (Classical.choose_spec (f b) (by omega)).2.2
  have e' : Classical.choose (f a) = Classical.choose (f b) := e
  rw [e'] at xa
  omega

theorem Rf {n : Int} {E : List S98} (R : Right n E) {s : Int} (s0 : 0 ≤ s) (s1 : s < n) (m : Nat) : ∀ (d : Nat) (V : List Int), ((d + m : Nat) : Int) = n → Lev n E s V d → ∃ V', Evl (fun k => aN.l1 k V d n E) (V', 0) ∧ Lev n E s V' n := by
  have n1 := R.n1
  induction m with
  | zero =>
    intro d V hd h
    have e : (d : Int) = n := by omega
    rw [e] at h
    exact ⟨V, Evl.here fun k => by rw [aN.l1, if_neg (by omega)], h⟩
  | succ m ih =>
    intro d V hd h
    obtain ⟨V1, a, b⟩ := Re R (d := (d : Int)) s0 s1 (by omega) (by omega) E.length 0 V (by omega) ⟨h.len, h.src, fun v v0 v1 => by have := h.top v v0 v1; omega, h.snd, h.low, h.out, fun j j0 j1 => by omega⟩
    obtain ⟨V', x1, x2⟩ := ih (d + 1) V1 (by omega) a
    exact ⟨V', (b _ x1).step fun k => by rw [aN.l1, if_pos (by omega)]; rfl, x2⟩
theorem Ko {n : Int} {E : List S98} (R : Right n E) {s : Int} (s0 : 0 ≤ s) (s1 : s < n) : ∃ V, Evl (fun k => aN.f k n E s) (V, 0) ∧ (V.length : Int) = n ∧ ∀ v : Int, 0 ≤ v → v < n → (0 ≤ rd V v ↔ Rch E s v) := by
  obtain ⟨c, a, -, g2, -, -, g5⟩ := xI n E
  have hc := g5 R
  subst hc
  have n0 := R.n0
  have n1 := R.n1
  have hw := ZN g2 s
  rw [if_pos rfl, if_neg (by omega)] at hw
  have hl : ((List.replicate n.toNat (-1 : Int)).length : Int) = n := by rw [List.length_replicate]; omega
  have rv : ∀ v : Int, 0 ≤ v → v < n → rd ((List.replicate n.toNat (-1 : Int)).set s.toNat 0) v = if v = s then 0 else -1 := fun v v0 v1 => by
    rw [mg _ _ _ _ s0 (by omega) v0, gT _ _ _ v0 (by omega)]
  have L : Lev n E s ((List.replicate n.toNat (-1 : Int)).set s.toNat 0) ((0 : Nat) : Int) := by
    refine ⟨by rw [List.length_set]; exact hl, by rw [rv s s0 s1, if_pos rfl], fun v v0 v1 => ?_, fun v v0 v1 hv => ?_, fun v v0 v1 hv => ?_, fun i i0 i1 x y => by omega⟩
    · rw [rv v v0 v1]; split <;> omega
    · rw [rv v v0 v1] at hv
      by_cases z : v = s
      · rw [z]; exact Rch.refl
      · rw [if_neg z] at hv; omega
    · rw [rv v v0 v1] at hv; split at hv <;> omega
  obtain ⟨V, x1, x2⟩ := Rf R s0 s1 n.toNat 0 _ (by omega) L
  have loop : ∀ (d i : Nat) (W : List Int), ((i + d : Nat) : Int) = n → (W.length : Int) = n → (∀ j : Int, 0 ≤ j → j < (i : Int) → rd W j = -1) → Evl (fun k => aN.l0 k s W i n E) (V, 0) := by
    intro d
    induction d with
    | zero =>
      intro i W hi hW h
      have e : W = List.replicate n.toNat (-1) := U4 _ _ (by rw [List.length_replicate]; omega) fun j j0 j1 => by rw [h j j0 (by omega), gT _ _ _ j0 (by omega)]
      refine x1.step fun k => ?_
      rw [aN.l0, if_neg (by omega), if_pos s0, if_pos (by omega), e]; rfl
    | succ d ih =>
      intro i W hi hW h
      have w : wrap64 ((i : Int) + 1) = ((i + 1 : Nat) : Int) := by rw [w1 (by omega) (by omega)]; rfl
      refine (ih (i + 1) (W.set (i : Int).toNat (-1)) (by omega) (by rw [List.length_set]; exact hW) (fun j j0 j1 => ?_)).step fun k => ?_
      · rw [mg _ _ _ _ (by omega) (by omega) j0]
        by_cases q : j = i
        · rw [if_pos q]
        · rw [if_neg q]; exact h j j0 (by omega)
      · rw [aN.l0, if_pos (by omega), if_pos (by omega), if_pos (by omega), w]
  refine ⟨V, ?_, x2.len, fun v v0 v1 => ⟨x2.snd v v0 v1, fun h => ?_⟩⟩
  · refine (Evl.bind (h := fun k Lu => if Lu = 0 then (if 0 ≤ n then (if (n : Int).toNat ≤ 35184372088832 then (aN.l0 k s (List.replicate (n : Int).toNat 0) 0 n E) else (none)) else (none)) else (some (([] : List Int), Lu))) hw ?_).congr fun k => rfl
    exact (loop n.toNat 0 (List.replicate n.toNat 0) (by omega) (by rw [List.length_replicate]; omega) (fun j j0 j1 => by omega)).congr fun k => by rw [if_pos rfl, if_pos n0, if_pos (by omega)]; rfl
  · induction h with
    | refl => rw [x2.src]; exact Int.le_refl _
    | @step i i0 i1 hr ih =>
      have e := R.e i i0 i1
      have a := ih e.a0 e.a1
      exact x2.out i i0 i1 a (x2.less n0 _ e.a0 e.a1)
end Go.Proofs.Ytkdoihcjhccliaa.G
namespace Go.Proofs.Ytkdoihcjhccliaa.G
open Go.RowKit Go.Proofs.Ytkdoihcjhccliaa.Q Go.Proofs.YtkdoihcjhccliaaW.PrintWords Go.Proofs.YtkdoihcjhccliaaW.PrintLast
set_option linter.unusedVariables false

theorem ui.refl (E : List S98) (u : Int) : ui E u u := fun X _ => Iff.rfl
theorem ui.symm {E : List S98} {u v : Int} (h : ui E u v) : ui E v u := fun X hX => (h X hX).symm
theorem ui.trans {E : List S98} {u v w : Int} (h : ui E u v) (g : ui E v w) : ui E u w := fun X hX => (h X hX).trans (g X hX)
theorem ui.edge (E : List S98) (i : Int) (i0 : 0 ≤ i) (i1 : i < (E.length : Int)) : ui E (aa E i).f0 (aa E i).f1 := fun X hX => hX i i0 i1

/-- Each node's label: a node of its part, no later than it. -/
structure Lab (n : Int) (E : List S98) (L : List Int) : Prop where
  len : (L.length : Int) = n
  lo : ∀ v, 0 ≤ v → v < n → 0 ≤ rd L v ∧ rd L v ≤ v
  cn : ∀ v, 0 ≤ v → v < n → ui E (rd L v) v

theorem Rh {n : Int} {E : List S98} {L : List Int} (h : Lab n E L) {a b : Int} (a0 : 0 ≤ a) (a1 : a < n) (b0 : 0 ≤ b) (b1 : b < n) (le : rd L a ≤ rd L b) (c : ui E a b) :
    Lab n E (L.set b.toNat (rd L a)) ∧ (∀ v, 0 ≤ v → rd (L.set b.toNat (rd L a)) v = if v = b then rd L a else rd L v) := by
  have hl := h.len
  have rs : ∀ v, 0 ≤ v → rd (L.set b.toNat (rd L a)) v = if v = b then rd L a else rd L v := fun v v0 => mg _ _ _ _ b0 (by omega) v0
  refine ⟨⟨by rw [List.length_set]; exact hl, fun v v0 v1 => ?_, fun v v0 v1 => ?_⟩, rs⟩
  · rw [rs v v0]
    have hv := h.lo v v0 v1
    have ha := h.lo a a0 a1
    split
    · rename_i e; rw [e] at hv ⊢; omega
    · exact hv
  · rw [rs v v0]
    split
    · rename_i e; rw [e]; exact (h.cn a a0 a1).trans c
    · exact h.cn v v0 v1

theorem TU (n : Int) (E : List S98) (hR : Right n E) (x : Int) (q : Nat) : ∀ (i : Int) (L : List Int), 0 ≤ i → i + q = (E.length : Int) → Lab n E L →
    ∃ L', Lab n E L' ∧ (∀ v, 0 ≤ v → v < n → rd L' v ≤ rd L v) ∧ (∀ j, i ≤ j → j < (E.length : Int) → rd L' (aa E j).f0 ≤ rd L (aa E j).f1 ∧ rd L' (aa E j).f1 ≤ rd L (aa E j).f0) ∧
      ∀ r, Evl (fun k => bM.l1 k L' (wrap64 (x + 1)) n E) r → Evl (fun k => bM.l2 k L x i n E) r := by
  have m1 := hR.m1
  induction q with
  | zero =>
    intro i L i0 hi h
    exact ⟨L, h, fun v _ _ => Int.le_refl _, fun j a b => by omega, fun r H => H.step fun k => by rw [bM.l2, if_neg (by omega)]⟩
  | succ q ih =>
    intro i L i0 hi h
    have i1 : i < (E.length : Int) := by omega
    have w := w1 (i := i) (by omega) (by omega)
    have hl := h.len
    have re := hR.e i i0 i1
    have ce := ui.edge E i i0 i1
    obtain ⟨a0, a1, b0, b1, -, -, -, -⟩ := re
    have key : ∃ L1, Lab n E L1 ∧ (∀ v, 0 ≤ v → v < n → rd L1 v ≤ rd L v) ∧ rd L1 (aa E i).f0 ≤ rd L (aa E i).f1 ∧ rd L1 (aa E i).f1 ≤ rd L (aa E i).f0 ∧
        ∀ r, Evl (fun k => bM.l2 k L1 x (i + 1) n E) r → Evl (fun k => bM.l2 k L x i n E) r := by
      by_cases lt : rd L (aa E i).f0 < rd L (aa E i).f1
      · obtain ⟨h1, rs⟩ := Rh h a0 a1 b0 b1 (by omega) ce
        refine ⟨_, h1, fun v v0 v1 => ?_, ?_, ?_, fun r H => H.step fun k => ?_⟩
        · rw [rs v v0]; split
          · rename_i e; rw [e]; omega
          · exact Int.le_refl _
        · rw [rs _ a0]; split <;> omega
        · rw [rs _ b0, if_pos rfl]; exact Int.le_refl _
        · rw [bM.l2, if_pos i1, if_pos i0, if_pos a0, if_pos (by omega), if_pos b0, if_pos (by omega), if_pos lt, w]
      · obtain ⟨h1, rs⟩ := Rh h b0 b1 a0 a1 (by omega) ce.symm
        refine ⟨_, h1, fun v v0 v1 => ?_, ?_, ?_, fun r H => H.step fun k => ?_⟩
        · rw [rs v v0]; split
          · rename_i e; rw [e]; omega
          · exact Int.le_refl _
        · rw [rs _ a0, if_pos rfl]; exact Int.le_refl _
        · rw [rs _ b0]; split <;> omega
        · rw [bM.l2, if_pos i1, if_pos i0, if_pos a0, if_pos (by omega), if_pos b0, if_pos (by omega), if_neg lt, w]
    obtain ⟨L1, h1, le1, ea, eb, R1⟩ := key
    obtain ⟨L', h', le', ed, R⟩ := ih (i + 1) L1 (by omega) (by omega) h1
    refine ⟨L', h', fun v a b => Int.le_trans (le' v a b) (le1 v a b), fun j ja jb => ?_, fun r H => R1 r (R r H)⟩
    by_cases e : j = i
    · subst e
      exact ⟨Int.le_trans (le' _ a0 a1) ea, Int.le_trans (le' _ b0 b1) eb⟩
    · have rj := hR.e j (by omega) jb
      obtain ⟨p, s⟩ := ed j (by omega) jb
      exact ⟨Int.le_trans p (le1 _ rj.b0 rj.b1), Int.le_trans s (le1 _ rj.a0 rj.a1)⟩

theorem xK {α : Type} (l : List α) (p q : α → Bool) (h : ∀ x ∈ l, p x = true → q x = true) : l.countP p ≤ l.countP q := List.countP_mono_left h
theorem Eg {α : Type} (l : List α) (p q : α → Bool) (h : ∀ x ∈ l, p x = true → q x = true) (y : α) (hy : y ∈ l) (hq : q y = true) (hp : p y = false) : l.countP p + 1 ≤ l.countP q := by
  induction l with
  | nil => simp at hy
  | cons a t ih =>
    have ht : ∀ x ∈ t, p x = true → q x = true := fun x hx => h x (List.mem_cons_of_mem _ hx)
    rcases List.mem_cons.mp hy with e | e
    · subst e
      have := xK t p q ht
      rw [List.countP_cons_of_neg (by rw [hp]; simp), List.countP_cons_of_pos hq]; omega
    · have i1 := ih ht e
      by_cases pa : p a = true
      · rw [List.countP_cons_of_pos pa, List.countP_cons_of_pos (h a (List.mem_cons_self ..) pa)]; omega
      · rw [List.countP_cons_of_neg pa]
        have : t.countP q ≤ (a :: t).countP q := by rw [List.countP_cons]; omega
        omega

/-- The least node of a part. -/
structure Dp (n : Int) (E : List S98) (v m : Int) : Prop where
  m0 : 0 ≤ m
  m1 : m < n
  c : ui E m v
  le : ∀ u, 0 ≤ u → u < n → ui E u v → m ≤ u
def ZR (n : Int) (E : List S98) (v m : Int) (L : List Int) : Prop := ∀ u, 0 ≤ u → u < n → ui E u v → rd L u = m
def U7 (n m : Int) (L : List Int) : Nat := (rng n.toNat).countP fun v => decide (rd L v = m)

theorem TV (n : Int) (E : List S98) (v : Int) (v0 : 0 ≤ v) (v1 : v < n) : ∃ m, Dp n E v m := by
  have : ∀ (q : Nat) (u : Int), 0 ≤ u → u ≤ q → u < n → ui E u v → ∃ m, Dp n E v m := by
    intro q
    induction q with
    | zero => intro u u0 uq u1 c; exact ⟨u, u0, u1, c, fun x x0 _ _ => by omega⟩
    | succ q ih =>
      intro u u0 uq u1 c
      by_cases h : ∃ x, 0 ≤ x ∧ x < u ∧ ui E x v
      · obtain ⟨x, x0, x1, cx⟩ := h
        exact ih x x0 (by omega) (by omega) cx
      · exact ⟨u, u0, u1, c, fun x x0 x1 cx => by
          by_cases e : x < u
          · exact absurd ⟨x, x0, e, cx⟩ h
          · omega⟩
  exact this v.toNat v v0 (by omega) v1 (ui.refl E v)

/-- A round settles another node, or all of the part are settled. -/
theorem Ri {n : Int} {E : List S98} (hR : Right n E) {L L' : List Int} (h : Lab n E L) (h' : Lab n E L') (le : ∀ v, 0 ≤ v → v < n → rd L' v ≤ rd L v)
    (ed : ∀ j, 0 ≤ j → j < (E.length : Int) → rd L' (aa E j).f0 ≤ rd L (aa E j).f1 ∧ rd L' (aa E j).f1 ≤ rd L (aa E j).f0) {v m : Int} (H : Dp n E v m) :
    (ZR n E v m L → ZR n E v m L') ∧ (ZR n E v m L ∨ U7 n m L + 1 ≤ U7 n m L') := by
  have lo : ∀ {K : List Int}, Lab n E K → ∀ u, 0 ≤ u → u < n → ui E u v → m ≤ rd K u := fun hK u u0 u1 c => by
    have := hK.lo u u0 u1
    exact H.le _ this.1 (by omega) ((hK.cn u u0 u1).trans c)
  refine ⟨fun A u u0 u1 c => ?_, ?_⟩
  · have a := A u u0 u1 c
    have b := le u u0 u1
    have d := lo h' u u0 u1 c
    omega
  · by_cases cl : Closed E (fun u => rd L u = m)
    · refine Or.inl fun u u0 u1 c => ?_
      have mm : rd L m = m := by
        have a := h.lo m H.m0 H.m1
        have b := lo h m H.m0 H.m1 H.c
        omega
      exact ((c.trans H.c.symm) _ cl).mpr mm
    · refine Or.inr ?_
      have ex : ∃ i, 0 ≤ i ∧ i < (E.length : Int) ∧ ¬ (rd L (aa E i).f0 = m ↔ rd L (aa E i).f1 = m) := Classical.byContradiction fun hn => cl fun i i0 i1 => Classical.byContradiction fun hh => hn ⟨i, i0, i1, hh⟩
      obtain ⟨i, i0, i1, hi⟩ := ex
      have re := hR.e i i0 i1
      have ce := ui.edge E i i0 i1
      have keep : ∀ x ∈ rng n.toNat, decide (rd L x = m) = true → decide (rd L' x = m) = true := fun x hx hp => by
        obtain ⟨x0, x1⟩ := (tJ _ _).mp hx
        have e := of_decide_eq_true hp
        have c : ui E x v := by
          have := h.cn x x0 (by omega)
          rw [e] at this
          exact this.symm.trans H.c
        have a := le x x0 (by omega)
        have b := lo h' x x0 (by omega) c
        exact decide_eq_true (by omega)
      have new : ∀ a b, 0 ≤ b → b < n → 0 ≤ a → a < n → ui E b a → rd L a = m → ¬ rd L b = m → rd L' b ≤ rd L a → U7 n m L + 1 ≤ U7 n m L' := fun a b b0 b1 a0 a1 c ea eb hle => by
        have ca : ui E a v := by
          have := h.cn a a0 a1
          rw [ea] at this
          exact this.symm.trans H.c
        have := lo h' b b0 b1 (c.trans ca)
        exact Eg _ _ _ keep b ((tJ _ _).mpr ⟨b0, by omega⟩) (decide_eq_true (by omega)) (decide_eq_false eb)
      obtain ⟨p, s⟩ := ed i i0 i1
      by_cases ea : rd L (aa E i).f0 = m
      · have eb : ¬ rd L (aa E i).f1 = m := fun eb => hi ⟨fun _ => eb, fun _ => ea⟩
        exact new _ _ re.b0 re.b1 re.a0 re.a1 ce.symm ea eb s
      · have eb : rd L (aa E i).f1 = m := Classical.byContradiction fun eb => hi ⟨fun h => absurd h ea, fun h => absurd h eb⟩
        exact new _ _ re.a0 re.a1 re.b0 re.b1 ce eb ea p

theorem Rj (n : Int) (E : List S98) (hR : Right n E) (q : Nat) : ∀ (x : Int) (L : List Int), 0 ≤ x → x + q = n → Lab n E L →
    ∃ L', Lab n E L' ∧ (∀ v m, Dp n E v m → (ZR n E v m L → ZR n E v m L') ∧ (ZR n E v m L' ∨ U7 n m L + q ≤ U7 n m L')) ∧
      ∀ r, Evl (fun k => (bD.f k L').bind fun t => some (t, (0 : Int))) r → Evl (fun k => bM.l1 k L x n E) r := by
  have n1 := hR.n1
  induction q with
  | zero =>
    intro x L x0 hx h
    exact ⟨L, h, fun v m H => ⟨id, Or.inr (by omega)⟩, fun r H => H.step fun k => by rw [bM.l1, if_neg (by omega)]⟩
  | succ q ih =>
    intro x L x0 hx h
    have w := w1 (i := x) (by omega) (by omega)
    obtain ⟨L1, h1, le, ed, R1⟩ := TU n E hR x E.length 0 L (Int.le_refl 0) (by omega) h
    obtain ⟨L', h', C, R⟩ := ih (x + 1) L1 (by omega) (by omega) h1
    rw [w] at R1
    refine ⟨L', h', fun v m H => ?_, fun r J => (R1 r (R r J)).step fun k => by rw [bM.l1, if_pos (by omega)]⟩
    obtain ⟨k1, k2⟩ := Ri hR h h1 le (fun j a b => ed j a b) H
    obtain ⟨c1, c2⟩ := C v m H
    refine ⟨fun A => c1 (k1 A), ?_⟩
    rcases k2 with B | B
    · exact Or.inl (c1 (k1 B))
    · rcases c2 with A | A
      · exact Or.inl A
      · exact Or.inr (by omega)

theorem ZT (n : Int) (E : List S98) (n0 : 0 ≤ n) (n1 : n ≤ 1000000) (q : Nat) : ∀ (v : Int) (L : List Int), 0 ≤ v → v + q = n → (L.length : Int) = n → (∀ u, 0 ≤ u → u < v → rd L u = u) →
    ∃ L', (L'.length : Int) = n ∧ (∀ u, 0 ≤ u → u < n → rd L' u = u) ∧ ∀ r, Evl (fun k => bM.l1 k L' 0 n E) r → Evl (fun k => bM.l0 k L v n E) r := by
  induction q with
  | zero =>
    intro v L v0 hv hl h
    exact ⟨L, hl, fun u a b => h u a (by omega), fun r H => H.step fun k => by rw [bM.l0, if_neg (by omega)]⟩
  | succ q ih =>
    intro v L v0 hv hl h
    have w := w1 (i := v) (by omega) (by omega)
    have rs : ∀ u, 0 ≤ u → rd (L.set v.toNat v) u = if u = v then v else rd L u := fun u u0 => mg _ _ _ _ v0 (by omega) u0
    obtain ⟨L', l', h', R⟩ := ih (v + 1) (L.set v.toNat v) (by omega) (by omega) (by rw [List.length_set]; exact hl) (fun u a b => by
      rw [rs u a]
      split
      · rename_i e; exact e.symm
      · exact h u a (by omega))
    exact ⟨L', l', h', fun r H => (R r H).step fun k => by rw [bM.l0, if_pos (by omega), if_pos v0, if_pos (by omega), w]⟩

/-- Numbered: by the order of the roots. -/
theorem Eh (n : Int) (T : List Int) (n0 : 0 ≤ n) (n1 : n ≤ 1000000) (hl : (T.length : Int) = n) (lo : ∀ v, 0 ≤ v → v < n → 0 ≤ rd T v ∧ rd T v ≤ v) (id2 : ∀ v, 0 ≤ v → v < n → rd T (rd T v) = rd T v) :
    ∃ P, Evl (fun k => bD.f k T) P ∧ (P.length : Int) = n ∧ ∀ u v, 0 ≤ u → u < n → 0 ≤ v → v < n → (rd P u = rd P v ↔ rd T u = rd T v) := by
  have loop : ∀ (q : Nat) (v c : Int) (O : List Int), 0 ≤ v → v + q = n → 0 ≤ c → c ≤ v → (O.length : Int) = n → (∀ u, 0 ≤ u → u < v → rd O u = rd O (rd T u)) → (∀ u, 0 ≤ u → u < v → rd T u = u → rd O u < c) → (∀ u u', 0 ≤ u → u < u' → u' < v → rd T u = u → rd T u' = u' → rd O u < rd O u') →
      ∃ P, Evl (fun k => bD.l0 k T O c v) P ∧ (P.length : Int) = n ∧ (∀ u, 0 ≤ u → u < n → rd P u = rd P (rd T u)) ∧ (∀ u u', 0 ≤ u → u < u' → u' < n → rd T u = u → rd T u' = u' → rd P u < rd P u') := by
    intro q
    induction q with
    | zero =>
      intro v c O v0 hv c0 cv hO h1 h2 h3
      obtain rfl : v = n := by omega
      exact ⟨O, Evl.here fun k => by rw [bD.l0, if_neg (by omega)], hO, h1, h3⟩
    | succ q ih =>
      intro v c O v0 hv c0 cv hO h1 h2 h3
      have wv := w1 (i := v) (by omega) (by omega)
      have wc := w1 (i := c) (by omega) (by omega)
      have lv := lo v v0 (by omega)
      have rs : ∀ y, ∀ u, 0 ≤ u → rd (O.set v.toNat y) u = if u = v then y else rd O u := fun y u u0 => mg _ _ _ _ v0 (by omega) u0
      by_cases e : rd T v = v
      · obtain ⟨P, H, r⟩ := ih (v + 1) (c + 1) (O.set v.toNat c) (by omega) (by omega) (by omega) (by omega) (by rw [List.length_set]; exact hO) (fun u a b => by
            have lu := lo u a (by omega)
            rw [rs c u a, rs c _ lu.1]
            by_cases q : u = v
            · rw [if_pos q, q, e, if_pos rfl]
            · rw [if_neg q, if_neg (by omega)]; exact h1 u a (by omega))
          (fun u a b g => by
            rw [rs c u a]
            split
            · omega
            · have := h2 u a (by omega) g; omega)
          (fun u u' a b d g g' => by
            rw [rs c u a, rs c u' (by omega)]
            by_cases q : u' = v
            · rw [if_pos q, if_neg (by omega)]; exact h2 u a (by omega) g
            · rw [if_neg q, if_neg (by omega)]; exact h3 u u' a b (by omega) g g')
        exact ⟨P, H.step fun k => by rw [bD.l0, if_pos (by omega), if_pos v0, if_pos e, if_pos (by omega), wv, wc], r⟩
      · obtain ⟨P, H, r⟩ := ih (v + 1) c (O.set v.toNat (rd O (rd T v))) (by omega) (by omega) c0 (by omega) (by rw [List.length_set]; exact hO) (fun u a b => by
            have lu := lo u a (by omega)
            rw [rs _ u a, rs _ _ lu.1]
            by_cases q : u = v
            · rw [if_pos q, q, if_neg (by omega)]
            · rw [if_neg q, if_neg (by omega)]; exact h1 u a (by omega))
          (fun u a b g => by
            have nv : u ≠ v := fun q => e (by rw [q] at g; exact g)
            rw [rs _ u a, if_neg nv]; exact h2 u a (by omega) g)
          (fun u u' a b d g g' => by
            have q : u' ≠ v := fun q => e (by rw [q] at g'; exact g')
            rw [rs _ u a, rs _ u' (by omega), if_neg q, if_neg (by omega)]; exact h3 u u' a b (by omega) g g')
        exact ⟨P, H.step fun k => by rw [bD.l0, if_pos (by omega), if_pos v0, if_neg e, if_pos lv.1, if_pos (by omega), if_pos (by omega), wv], r⟩
  obtain ⟨P, H, hP, h1, h3⟩ := loop n.toNat 0 0 (List.replicate n.toNat 0) (Int.le_refl 0) (by omega) (Int.le_refl 0) (Int.le_refl 0) (by rw [List.length_replicate]; omega) (fun u a b => by omega) (fun u a b => by omega) (fun u u' a b d => by omega)
  refine ⟨P, H.congr fun k => ?_, hP, fun u v u0 u1 v0 v1 => ⟨fun h => ?_, fun h => by rw [h1 u u0 u1, h1 v v0 v1, h]⟩⟩
  · have e : T.length = n.toNat := by omega
    show (if 0 ≤ (T.length : Int) then (if ((T.length : Int) : Int).toNat ≤ 35184372088832 then (bD.l0 k T (List.replicate ((T.length : Int) : Int).toNat 0) 0 0) else none) else none) = _
    rw [if_pos (by omega), if_pos (by omega), Int.toNat_natCast, e]
  · rw [h1 u u0 u1, h1 v v0 v1] at h
    have lu := lo u u0 u1
    have lv := lo v v0 v1
    by_cases a : rd T u < rd T v
    · have := h3 _ _ lu.1 a (by omega) (id2 u u0 u1) (id2 v v0 v1); omega
    · by_cases b : rd T v < rd T u
      · have := h3 _ _ lv.1 b (by omega) (id2 v v0 v1) (id2 u u0 u1); omega
      · omega

/-- The document's Parts of a right graph. -/
theorem Rk (n : Int) (E : List S98) (hR : Right n E) : ∃ P, Evl (fun k => bM.f k n E) (P, 0) ∧ (P.length : Int) = n ∧ ∀ u v, 0 ≤ u → u < n → 0 ≤ v → v < n → (rd P u = rd P v ↔ ui E u v) := by
  have n0 := hR.n0
  have n1 := hR.n1
  obtain ⟨c, a, -, C2, -, -, hz⟩ := xI n E
  obtain rfl := hz hR
  obtain ⟨L0, l0, i0, R0⟩ := ZT n E n0 (by omega) n.toNat 0 (List.replicate n.toNat 0) (Int.le_refl 0) (by omega) (by rw [List.length_replicate]; omega) (fun u a b => by omega)
  have h0 : Lab n E L0 := ⟨l0, fun v a b => by rw [i0 v a b]; omega, fun v a b => by rw [i0 v a b]; exact ui.refl E v⟩
  obtain ⟨T, hT, C, R⟩ := Rj n E hR n.toNat 0 L0 (Int.le_refl 0) (by omega) h0
  have all : ∀ v m, Dp n E v m → ZR n E v m T := fun v m H => by
    rcases (C v m H).2 with A | A
    · exact A
    · have a1 : U7 n m T ≤ n.toNat := by
        have := List.countP_le_length (p := fun v => decide (rd T v = m)) (l := rng n.toNat)
        rw [JB] at this
        exact this
      have a2 : 0 < U7 n m L0 := List.countP_pos_iff.mpr ⟨m, (tJ _ _).mpr ⟨H.m0, by have := H.m1; omega⟩, decide_eq_true (i0 m H.m0 H.m1)⟩
      omega
  have same : ∀ u v, 0 ≤ u → u < n → 0 ≤ v → v < n → (rd T u = rd T v ↔ ui E u v) := fun u v u0 u1 v0 v1 => by
    constructor
    · intro e
      have a := hT.cn u u0 u1
      have b := hT.cn v v0 v1
      rw [e] at a
      exact a.symm.trans b
    · intro c
      obtain ⟨m, H⟩ := TV n E v v0 v1
      rw [all v m H u u0 u1 c, all v m H v v0 v1 (ui.refl E v)]
  obtain ⟨P, HP, hP, hs⟩ := Eh n T n0 (by omega) hT.len hT.lo (fun v v0 v1 => by
    have lv := hT.lo v v0 v1
    exact (same _ v lv.1 (by omega) v0 v1).mpr (hT.cn v v0 v1))
  refine ⟨P, ?_, hP, fun u v u0 u1 v0 v1 => (hs u v u0 u1 v0 v1).trans (same u v u0 u1 v0 v1)⟩
  have J := R0 _ (R _ (Evl.bind HP (h := fun k t => some (t, (0 : Int))) Evl.pure))
  refine (Evl.bind C2 (h := fun k aew => (if aew.1 = 0 then (if 0 ≤ n then (if (n : Int).toNat ≤ 35184372088832 then (bM.l0 k (List.replicate (n : Int).toNat 0) 0 n E) else (none)) else (none)) else (some (([] : List Int), aew.1)))) ?_).congr fun k => rfl
  exact J.congr fun k => by rw [if_pos rfl, if_pos n0, if_pos (by omega)]
end Go.Proofs.Ytkdoihcjhccliaa.G
namespace Go.Proofs.Ytkdoihcjhccliaa.G
open Go.RowKit Go.Proofs.Ytkdoihcjhccliaa.Q Go.Proofs.YtkdoihcjhccliaaW.PrintWords Go.Proofs.YtkdoihcjhccliaaW.PrintLast
set_option linter.unusedVariables false

/-- Each can be come to from the other. -/
def Mut (E : List S98) (u v : Int) : Prop := Rch E u v ∧ Rch E v u
theorem Mut.symm {E : List S98} {u v : Int} (h : Mut E u v) : Mut E v u := ⟨h.2, h.1⟩
theorem Mut.trans {E : List S98} {u v w : Int} (a : Mut E u v) (b : Mut E v w) : Mut E u w := ⟨a.1.trans b.1, b.2.trans a.2⟩
theorem Mut.refl (E : List S98) (v : Int) : Mut E v v := ⟨Rch.refl, Rch.refl⟩
/-- The row of a node's levels. -/
def Row (n : Int) (E : List S98) (v : Int) (V : List Int) : Prop := (V.length : Int) = n ∧ ∀ u : Int, 0 ≤ u → u < n → (0 ≤ rd V u ↔ Rch E v u)
theorem TW (W : List (List Int)) (V : List Int) (i j : Int) (h0 : 0 ≤ i) (h : i < (W.length : Int)) (hj : 0 ≤ j) : ow (W.set i.toNat V) j = if j = i then V else ow W j := by
  unfold ow; rw [zN _ _ _ _ _ (by omega)]
  by_cases q : j = i
  · rw [if_pos q, if_pos (by omega)]
  · rw [if_neg q, if_neg (by omega)]

theorem Rl {n : Int} {E : List S98} (n1 : n ≤ 1024) {W : List (List Int)} (hW : (W.length : Int) = n) (rows : ∀ v : Int, 0 ≤ v → v < n → Row n E v (ow W v)) {v : Int} (v0 : 0 ≤ v) (v1 : v < n) (d : Nat) : ∀ (j : Int) (T : List Int), j + 1 = d → j < n → (T.length : Int) = n →
    (0 ≤ rd T v ∧ rd T v ≤ v ∧ Mut E (rd T v) v ∧ ∀ u : Int, j < u → u < rd T v → ¬ Mut E u v) →
    ∃ T', (T'.length : Int) = n ∧ (∀ u : Int, 0 ≤ u → u ≠ v → rd T' u = rd T u) ∧ (0 ≤ rd T' v ∧ rd T' v ≤ v ∧ Mut E (rd T' v) v ∧ ∀ u : Int, 0 ≤ u → u < rd T' v → ¬ Mut E u v) ∧
      ∀ z, Evl (fun k => aG.l1 k W T' (v + 1) n E) z → Evl (fun k => aG.l2 k W T v j n E) z := by
  induction d with
  | zero =>
    intro j T hj jn hT h
    exact ⟨T, hT, fun _ _ _ => rfl, ⟨h.1, h.2.1, h.2.2.1, fun u u0 u1 => h.2.2.2 u (by omega) u1⟩, fun z hz => hz.step fun k => by rw [aG.l2, if_neg (by omega), w1 (by omega) (by omega)]⟩
  | succ d ih =>
    intro j T hj jn hT h
    have j0 : 0 ≤ j := by omega
    have rj := rows j j0 jn
    have rv := rows v v0 v1
    have w := wm (i := j) (by omega) (by omega)
    have g1 : j < (W.length : Int) := by omega
    have g2 : v < ((ow W j).length : Int) := by rw [rj.1]; exact v1
    have g3 : v < (W.length : Int) := by omega
    have g4 : j < ((ow W v).length : Int) := by rw [rv.1]; exact jn
    have g5 : v < (T.length : Int) := by omega
    have stay : (∀ u : Int, j = u → u < rd T v → ¬ Mut E u v) → (∀ k, aG.l2 (k + 1) W T v j n E = aG.l2 k W T v (j - 1) n E) →
        ∃ T', (T'.length : Int) = n ∧ (∀ u : Int, 0 ≤ u → u ≠ v → rd T' u = rd T u) ∧ (0 ≤ rd T' v ∧ rd T' v ≤ v ∧ Mut E (rd T' v) v ∧ ∀ u : Int, 0 ≤ u → u < rd T' v → ¬ Mut E u v) ∧
          ∀ z, Evl (fun k => aG.l1 k W T' (v + 1) n E) z → Evl (fun k => aG.l2 k W T v j n E) z := fun no st => by
      obtain ⟨T', a, b, c, e⟩ := ih (j - 1) T (by omega) (by omega) hT ⟨h.1, h.2.1, h.2.2.1, fun u u0 u1 => by
        by_cases q : j = u
        · exact no u q u1
        · exact h.2.2.2 u (by omega) u1⟩
      exact ⟨T', a, b, c, fun z hz => (e z hz).step st⟩
    by_cases c1 : rd (ow W j) v ≥ 0
    · have r1 := (rj.2 v v0 v1).mp c1
      by_cases c2 : rd (ow W v) j ≥ 0
      · have r2 := (rv.2 j j0 jn).mp c2
        by_cases c3 : j < rd T v
        · have rt : ∀ u : Int, 0 ≤ u → rd (T.set v.toNat j) u = if u = v then j else rd T u := fun u u0 => mg _ _ _ _ v0 g5 u0
          have tv : rd (T.set v.toNat j) v = j := by rw [rt v v0, if_pos rfl]
          obtain ⟨T', a, b, c, e⟩ := ih (j - 1) (T.set v.toNat j) (by omega) (by omega) (by rw [List.length_set]; exact hT) ⟨by rw [tv]; exact j0, by rw [tv]; have := h.2.1; omega, by rw [tv]; exact ⟨r1, r2⟩, fun u u0 u1 => by rw [tv] at u1; omega⟩
          refine ⟨T', a, fun u u0 ne => by rw [b u u0 ne, rt u u0, if_neg ne], c, fun z hz => (e z hz).step fun k => ?_⟩
          rw [aG.l2, if_pos (show j ≥ 0 from j0), if_pos j0, if_pos g1, if_pos v0, if_pos g2, if_pos c1, if_pos g3, if_pos g4, if_pos c2, if_pos g5, if_pos c3, w]
        · exact stay (fun u e u1 => by omega) fun k => by rw [aG.l2, if_pos (show j ≥ 0 from j0), if_pos j0, if_pos g1, if_pos v0, if_pos g2, if_pos c1, if_pos g3, if_pos g4, if_pos c2, if_pos g5, if_neg c3, w]
      · exact stay (fun u e u1 m => by rw [← e] at m; exact c2 ((rv.2 j j0 jn).mpr m.2)) fun k => by rw [aG.l2, if_pos (show j ≥ 0 from j0), if_pos j0, if_pos g1, if_pos v0, if_pos g2, if_pos c1, if_pos g3, if_pos g4, if_neg c2, w]
    · exact stay (fun u e u1 m => by rw [← e] at m; exact c1 ((rj.2 v v0 v1).mpr m.1)) fun k => by rw [aG.l2, if_pos (show j ≥ 0 from j0), if_pos j0, if_pos g1, if_pos v0, if_pos g2, if_neg c1, w]

/-- The least node of each part. -/
def Lst (n : Int) (E : List S98) (T : List Int) (i : Int) : Prop := ∀ v : Int, 0 ≤ v → v < i → 0 ≤ rd T v ∧ rd T v ≤ v ∧ Mut E (rd T v) v ∧ ∀ u : Int, 0 ≤ u → u < rd T v → ¬ Mut E u v
theorem Rm {n : Int} {E : List S98} (n0 : 0 ≤ n) (n1 : n ≤ 1024) {W : List (List Int)} (hW : (W.length : Int) = n) (rows : ∀ v : Int, 0 ≤ v → v < n → Row n E v (ow W v)) (d : Nat) : ∀ (i : Nat) (T : List Int), ((i + d : Nat) : Int) = n → (T.length : Int) = n → Lst n E T i →
    ∃ T', (T'.length : Int) = n ∧ Lst n E T' n ∧ ∀ z, Evl (fun k => (bD.f k T').bind fun Zh => some (Zh, (0 : Int))) z → Evl (fun k => aG.l1 k W T i n E) z := by
  induction d with
  | zero =>
    intro i T hi hT h
    have e : (i : Int) = n := by omega
    rw [e] at h
    exact ⟨T, hT, h, fun z hz => hz.step fun k => by rw [aG.l1, if_neg (by omega)]⟩
  | succ d ih =>
    intro i T hi hT h
    have wn := wm (i := n) (by omega) (by omega)
    have rt : ∀ u : Int, 0 ≤ u → rd (T.set (i : Int).toNat i) u = if u = i then (i : Int) else rd T u := fun u u0 => mg _ _ _ _ (by omega) (by omega) u0
    have ti : rd (T.set (i : Int).toNat i) i = i := by rw [rt i (by omega), if_pos rfl]
    obtain ⟨T1, a, b, c, e⟩ := Rl n1 hW rows (v := (i : Int)) (by omega) (by omega) n.toNat (n - 1) (T.set (i : Int).toNat i) (by omega) (by omega) (by rw [List.length_set]; exact hT) ⟨by rw [ti]; omega, by rw [ti]; exact Int.le_refl _, by rw [ti]; exact Mut.refl E i, fun u u0 u1 => by rw [ti] at u1; omega⟩
    obtain ⟨T', x, y, z⟩ := ih (i + 1) T1 (by omega) a (fun v v0 v1 => by
      by_cases q : v = i
      · rw [q]; exact c
      · rw [b v v0 q, rt v v0, if_neg q]; exact h v v0 (by omega))
    exact ⟨T', x, y, fun r hr => (e r ((z r hr).congr fun k => rfl)).step fun k => by rw [aG.l1, if_pos (by omega), if_pos (by omega), if_pos (by omega), wn]⟩

theorem TY {n : Int} {E : List S98} (R : Right n E) : ∃ P, Evl (fun k => aG.f k n E) (P, 0) ∧ (P.length : Int) = n ∧ ∀ u v : Int, 0 ≤ u → u < n → 0 ≤ v → v < n → (rd P u = rd P v ↔ Mut E u v) := by
  obtain ⟨c, a, -, g2, -, -, g5⟩ := xI n E
  have hc := g5 R
  subst hc
  have n0 := R.n0
  have n1 := R.n1
  -- the rows
  have loop : ∀ (d i : Nat) (W : List (List Int)), ((i + d : Nat) : Int) = n → (W.length : Int) = n → (∀ v : Int, 0 ≤ v → v < (i : Int) → Row n E v (ow W v)) →
      ∃ W', (W'.length : Int) = n ∧ (∀ v : Int, 0 ≤ v → v < n → Row n E v (ow W' v)) ∧ ∀ z, Evl (fun k => aG.l1 k W' (List.replicate n.toNat 0) 0 n E) z → Evl (fun k => aG.l0 k W i n E) z := by
    intro d
    induction d with
    | zero =>
      intro i W hi hW h
      exact ⟨W, hW, fun v v0 v1 => h v v0 (by omega), fun z hz => hz.step fun k => by rw [aG.l0, if_neg (by omega), if_pos n0, if_pos (by omega)]⟩
    | succ d ih =>
      intro i W hi hW h
      have w : wrap64 ((i : Int) + 1) = ((i + 1 : Nat) : Int) := by rw [w1 (by omega) (by omega)]; rfl
      obtain ⟨V, f1, f2, f3⟩ := Ko R (s := (i : Int)) (by omega) (by omega)
      obtain ⟨W', x, y, z⟩ := ih (i + 1) (W.set (i : Int).toNat V) (by omega) (by rw [List.length_set]; exact hW) (fun v v0 v1 => by
        rw [TW W V i v (by omega) (by omega) v0]
        by_cases q : v = i
        · rw [if_pos q, q]; exact ⟨f2, f3⟩
        · rw [if_neg q]; exact h v v0 (by omega))
      refine ⟨W', x, y, fun r hr => ?_⟩
      refine (Evl.bind (h := fun k Zg => if 0 ≤ (i : Int) then (if (i : Int) < (W.length : Int) then (aG.l0 k (W.set (i : Int).toNat Zg.1) (wrap64 ((i : Int) + 1)) n E) else (none)) else (none)) f1 ((z r hr).congr fun k => by rw [if_pos (by omega), if_pos (by omega), w])).step fun k => by rw [aG.l0, if_pos (by omega)]
  obtain ⟨W, hW, rows, s1⟩ := loop n.toNat 0 (List.replicate n.toNat []) (by omega) (by rw [List.length_replicate]; omega) (fun v v0 v1 => by omega)
  obtain ⟨T, hT, lst, s2⟩ := Rm n0 n1 hW rows n.toNat 0 (List.replicate n.toNat 0) (by omega) (by rw [List.length_replicate]; omega) (fun v v0 v1 => by omega)
  have same : ∀ u v : Int, 0 ≤ u → u < n → 0 ≤ v → v < n → Mut E u v → rd T u = rd T v := fun u v u0 u1 v0 v1 m => by
    obtain ⟨a0, a1, a2, a3⟩ := lst u u0 u1
    obtain ⟨b0, b1, b2, b3⟩ := lst v v0 v1
    rcases Int.lt_trichotomy (rd T u) (rd T v) with z | z | z
    · exact absurd (a2.trans m) (b3 _ a0 z)
    · exact z
    · exact absurd (b2.trans m.symm) (a3 _ b0 z)
  obtain ⟨P, p1, p2, p3⟩ := Eh n T n0 (by omega) hT (fun v v0 v1 => ⟨(lst v v0 v1).1, (lst v v0 v1).2.1⟩) (fun v v0 v1 => by
    obtain ⟨a0, a1, a2, -⟩ := lst v v0 v1
    exact same _ v a0 (by omega) v0 v1 a2)
  refine ⟨P, ?_, p2, fun u v u0 u1 v0 v1 => (p3 u v u0 u1 v0 v1).trans ⟨fun h => ?_, same u v u0 u1 v0 v1⟩⟩
  · refine (Evl.bind (h := fun k Ht => if Ht.1 = 0 then (if 0 ≤ n then (if (n : Int).toNat ≤ 11728124029610 then (aG.l0 k (List.replicate (n : Int).toNat []) 0 n E) else (none)) else (none)) else (some (([] : List Int), Ht.1))) g2 ?_).congr fun k => rfl
    exact (s1 _ (s2 _ (Evl.bind (h := fun k Zh => some (Zh, (0 : Int))) p1 Evl.pure))).congr fun k => by rw [if_pos rfl, if_pos n0, if_pos (by omega)]; rfl
  · have a := (lst u u0 u1).2.2.1
    have b := (lst v v0 v1).2.2.1
    rw [← h] at b
    exact a.symm.trans b
end Go.Proofs.Ytkdoihcjhccliaa.G
namespace Go.Proofs.Ytkdoihcjhccliaa.G
open Go.RowKit Go.Proofs.Ytkdoihcjhccliaa.Q Go.Proofs.YtkdoihcjhccliaaW.PrintWords Go.Proofs.YtkdoihcjhccliaaW.PrintLast
set_option linter.unusedVariables false

/-- Over the first nodes what goes out, weighted. -/
def Im (p : Int → Int) (E : List S98) (A : List Int) (i : Nat) : Nat → Int
  | 0 => 0
  | v + 1 => Im p E A i v + p v * net E A v i
/-- Over the first edges what lies on them, weighted by both ends. -/
def HZ (p : Int → Int) (E : List S98) (A : List Int) : Nat → Int
  | 0 => 0
  | i + 1 => HZ p E A i + (p (aa E i).f0 * rd A i - p (aa E i).f1 * rd A i)

theorem Rn (p : Int → Int) (E : List S98) (A : List Int) (v : Nat) : Im p E A 0 v = 0 := by
  induction v with
  | zero => rfl
  | succ v ih => simp only [Im, net, ih, Int.mul_zero]; rfl
theorem Ro (p : Int → Int) (E : List S98) (A : List Int) (i : Nat) (f0 : 0 ≤ (aa E i).f0) (t0 : 0 ≤ (aa E i).f1) (v : Nat) : Im p E A (i + 1) v = Im p E A i v + (if (aa E i).f0 < v then p (aa E i).f0 * rd A i else 0) - (if (aa E i).f1 < v then p (aa E i).f1 * rd A i else 0) := by
  induction v with
  | zero => simp only [Im]; rw [if_neg (by omega), if_neg (by omega)]; omega
  | succ v ih =>
    simp only [Im, net, ih, Int.mul_sub, Int.mul_add]
    push_cast
    have a : p v * (if (aa E i).f0 = v then rd A i else 0) = if (aa E i).f0 = v then p (aa E i).f0 * rd A i else 0 := by
      split
      · rename_i h; rw [h]
      · exact Int.mul_zero _
    have b : p v * (if (aa E i).f1 = v then rd A i else 0) = if (aa E i).f1 = v then p (aa E i).f1 * rd A i else 0 := by
      split
      · rename_i h; rw [h]
      · exact Int.mul_zero _
    rw [a, b]
    generalize p (aa E i).f0 * rd A i = x
    generalize p (aa E i).f1 * rd A i = y
    generalize (aa E i).f0 = c at *
    generalize (aa E i).f1 = d at *
    generalize p v * net E A v i = z
    generalize Im p E A i v = u
    clear a b ih
    (repeat' split) <;> omega
theorem yG {n : Int} {E : List S98} (R : Right n E) (p : Int → Int) (A : List Int) : ∀ i : Nat, i ≤ E.length → Im p E A i n.toNat = HZ p E A i := by
  have n0 := R.n0
  intro i
  induction i with
  | zero => intro _; exact Rn p E A _
  | succ i ih =>
    intro hi
    have e := R.e i (by omega) (by omega)
    have a1 := e.a1
    have b1 := e.b1
    rw [Ro p E A i e.a0 e.b0, ih (by omega), if_pos (by omega), if_pos (by omega), HZ]; omega

/-- The side's weights. -/
def ind (B : List Bool) (v : Int) : Int := if fF false B v = true then 1 else 0
theorem Rp {E : List S98} {B : List Bool} {A : List Int} {i : Nat} {s t : Int} (hs : fF false B s = true) (ht : fF false B t = false) (s0 : 0 ≤ s) (v : Nat) (h : ∀ u : Int, 0 ≤ u → u < v → u ≠ s → u ≠ t → net E A u i = 0) : Im (ind B) E A i v = if s < v then net E A s i else 0 := by
  induction v with
  | zero => rw [if_neg (by omega)]; rfl
  | succ v ih =>
    rw [Im, ih fun u a b => h u a (by omega)]
    push_cast
    by_cases a : (v : Int) = s
    · rw [if_neg (by omega), if_pos (by omega), a, ind, if_pos hs]; omega
    · have z : ind B v * net E A v i = 0 := by
        by_cases b : (v : Int) = t
        · rw [b, ind, ht, if_neg (by simp), Int.zero_mul]
        · rw [h v (by omega) (by omega) a b, Int.mul_zero]
      rw [z]
      by_cases c : s < (v : Int)
      · rw [if_pos c, if_pos (by omega)]; omega
      · rw [if_neg c, if_neg (by omega)]; omega
end Go.Proofs.Ytkdoihcjhccliaa.G
namespace Go.Proofs.Ytkdoihcjhccliaa.G
open Go.RowKit Go.Proofs.Ytkdoihcjhccliaa.Q Go.Proofs.YtkdoihcjhccliaaW.PrintWords Go.Proofs.YtkdoihcjhccliaaW.PrintLast
set_option linter.unusedVariables false

def U8 (S : List Int) : Nat → Int
  | 0 => 0
  | i + 1 => U8 S i + rd S i
/-- Right supplies. -/
structure Sup (n : Int) (S : List Int) : Prop where
  len : (S.length : Int) = n
  lab : ∀ v : Int, 0 ≤ v → v < n → -1048576 ≤ rd S v ∧ rd S v ≤ 1048576
  all : U8 S n.toNat = 0
/-- Potentials. -/
def yH (n : Int) (P : List Int) : Prop := (P.length : Int) = n ∧ ∀ v : Int, 0 ≤ v → v < n → -4398046511104 ≤ rd P v ∧ rd P v ≤ 4398046511104
theorem aex {n : Int} (E : List S98) (n0 : 0 ≤ n) (n1 : n ≤ 1024) (P : List Int) : ∃ b : Bool, Evl (fun k => dL.f k n E P) b ∧ (b = true ↔ yH n P) := by
  by_cases h : (P.length : Int) = n
  · have loop : ∀ (d i : Nat), ((i + d : Nat) : Int) = n → (∀ v : Int, 0 ≤ v → v < (i : Int) → -4398046511104 ≤ rd P v ∧ rd P v ≤ 4398046511104) → ∃ b : Bool, Evl (fun k => dL.l0 k P i n E) b ∧ (b = true ↔ yH n P) := by
      intro d
      induction d with
      | zero =>
        intro i hi hP
        exact ⟨true, Evl.here fun k => by rw [dL.l0, if_neg (by omega)], fun _ => ⟨h, fun v a b => hP v a (by omega)⟩, fun _ => rfl⟩
      | succ d ih =>
        intro i hi hP
        have w : wrap64 ((i : Int) + 1) = ((i + 1 : Nat) : Int) := by rw [w1 (by omega) (by omega)]; rfl
        by_cases c1 : rd P i < -4398046511104
        · exact ⟨false, Evl.here fun k => by rw [dL.l0, if_pos (by omega), if_pos (by omega), if_pos (by omega), if_pos c1], fun h => (by cases h), fun h => absurd (h.2 i (by omega) (by omega)).1 (by omega)⟩
        · by_cases c2 : rd P i > 4398046511104
          · exact ⟨false, Evl.here fun k => by rw [dL.l0, if_pos (by omega), if_pos (by omega), if_pos (by omega), if_neg c1, if_pos c2], fun h => (by cases h), fun h => absurd (h.2 i (by omega) (by omega)).2 (by omega)⟩
          · obtain ⟨b, e1, e2⟩ := ih (i + 1) (by omega) (fun v v0 v1 => by
              by_cases q : v = i
              · rw [q]; exact ⟨by omega, by omega⟩
              · exact hP v v0 (by omega))
            exact ⟨b, e1.step fun k => by rw [dL.l0, if_pos (by omega), if_pos (by omega), if_pos (by omega), if_neg c1, if_neg c2, w], e2⟩
    obtain ⟨b, e1, e2⟩ := loop n.toNat 0 (by omega) (fun v a b => by omega)
    exact ⟨b, e1.congr fun k => by rw [dL.f, if_pos h]; rfl, e2⟩
  · exact ⟨false, Evl.pure.congr fun k => by rw [dL.f, if_neg h], fun h => (by cases h), fun q => absurd q.1 h⟩

/-- An edge's cost, some times, by potentials. -/
def red (P : List Int) (q : Int) (e : S98) : Int := q * e.f3 + rd P e.f0 - rd P e.f1
theorem red_f {n : Int} {e : S98} {P : List Int} (h : yH n P) (r : zw n e) : mG.f e.f0 e.f1 e.f2 e.f3 P = some (red P 1 e) := by
  obtain ⟨hl, hp⟩ := h
  obtain ⟨a0, a1, b0, b1, c0, c1, d0, d1⟩ := r
  have p0 := hp e.f0 a0 a1
  have p1 := hp e.f1 b0 b1
  unfold mG.f red
  rw [if_pos a0, if_pos (by omega), if_pos b0, if_pos (by omega), wr (x := e.f3 + rd P e.f0) (by omega) (by omega), wr (by omega) (by omega), Int.one_mul]
theorem K6 {n : Int} {E : List S98} (R : Right n E) {P : List Int} (h : yH n P) {q : Int} (q0 : 0 ≤ q) (q1 : q ≤ 1024) (d : Nat) : ∀ (i : Nat) (O : List Int), i + d = E.length → O.length = i →
    (∀ j : Int, 0 ≤ j → j < (i : Int) → rd O j = red P q (aa E j)) →
    ∃ O' : List Int, Evl (fun k => bv.l1 k P q O E E.length i) (0, O') ∧ O'.length = E.length ∧ ∀ j : Int, 0 ≤ j → j < (E.length : Int) → rd O' j = red P q (aa E j) := by
  have hm := R.m1
  induction d with
  | zero =>
    intro i O hi hO hP
    exact ⟨O, Evl.here fun k => by rw [bv.l1, if_neg (by omega)], by omega, fun j a b => hP j a (by omega)⟩
  | succ d ih =>
    intro i O hi hO hP
    have g2 : (i : Int) < (E.length : Int) := by omega
    have w : wrap64 ((i : Int) + 1) = ((i + 1 : Nat) : Int) := by rw [w1 (by omega) (by omega)]; rfl
    obtain ⟨hl, hp⟩ := h
    obtain ⟨a0, a1, b0, b1, c0, c1, d0, d1⟩ := R.e i (by omega) g2
    have p0 := hp _ a0 a1
    have p1 := hp _ b0 b1
    have m0 : -1073741824 ≤ q * (aa E i).f3 := by
      have a := Int.mul_le_mul_of_nonneg_left d0 q0
      omega
    have m1 : q * (aa E i).f3 ≤ 1073741824 := by
      have a := Int.mul_le_mul_of_nonneg_left d1 q0
      omega
    have z : wrap64 ((wrap64 ((wrap64 (q * ((aa E i).f3))) + (rd P ((aa E i).f0)))) - (rd P ((aa E i).f1))) = red P q (aa E i) := by
      rw [wr (x := q * (aa E i).f3) (by omega) (by omega), wr (x := q * (aa E i).f3 + rd P (aa E i).f0) (by omega) (by omega), wr (by omega) (by omega)]; rfl
    obtain ⟨O', e1, e2, e3⟩ := ih (i + 1) (O ++ [red P q (aa E i)]) (by omega) (by simp [hO]) (fun j j0 j1 => by
      rw [wD _ _ _ j0]
      by_cases c : j < (O.length : Int)
      · rw [if_pos c]; exact hP j j0 (by omega)
      · rw [if_neg c, show j - (O.length : Int) = 0 by omega, show j = (i : Int) by omega]; rfl)
    refine ⟨O', e1.step fun k => ?_, e2, e3⟩
    rw [bv.l1, if_pos g2, if_pos (by omega), if_pos g2, if_pos a0, if_pos (by omega), if_pos b0, if_pos (by omega), if_pos (by omega), z, w]
theorem Rq {n : Int} {E : List S98} (R : Right n E) (P : List Int) {q : Int} (q0 : 0 ≤ q) (q1 : q ≤ 1024) : ∃ r : Int × List Int, Evl (fun k => bv.f k n E P q) r ∧
    (yH n P → r.1 = 0 ∧ r.2.length = E.length ∧ ∀ j : Int, 0 ≤ j → j < (E.length : Int) → rd r.2 j = red P q (aa E j)) ∧ (¬ yH n P → r = (221, [])) := by
  have n0 := R.n0
  have n1 := R.n1
  have m1 := R.m1
  by_cases h : (P.length : Int) = n
  · have loop : ∀ (d i : Nat), ((i + d : Nat) : Int) = n → (∀ v : Int, 0 ≤ v → v < (i : Int) → -4398046511104 ≤ rd P v ∧ rd P v ≤ 4398046511104) → ∃ r : Int × List Int, Evl (fun k => bv.l0 k P q P P.length i n E) r ∧
        (yH n P → r.1 = 0 ∧ r.2.length = E.length ∧ ∀ j : Int, 0 ≤ j → j < (E.length : Int) → rd r.2 j = red P q (aa E j)) ∧ (¬ yH n P → r = (221, [])) := by
      intro d
      induction d with
      | zero =>
        intro i hi hP
        have hh : yH n P := ⟨h, fun v a b => hP v a (by omega)⟩
        obtain ⟨O', e1, e2, e3⟩ := K6 R hh q0 q1 E.length 0 [] (by omega) rfl (fun j a b => by omega)
        exact ⟨(0, O'), e1.step fun k => by rw [bv.l0, if_neg (by omega), if_pos (by omega), if_pos (by omega)]; rfl, fun _ => ⟨rfl, e2, e3⟩, fun c => absurd hh c⟩
      | succ d ih =>
        intro i hi hP
        have w : wrap64 ((i : Int) + 1) = ((i + 1 : Nat) : Int) := by rw [w1 (by omega) (by omega)]; rfl
        by_cases c1 : rd P i ≥ -4398046511104
        · by_cases c2 : rd P i ≤ 4398046511104
          · obtain ⟨r, e1, e2⟩ := ih (i + 1) (by omega) (fun v v0 v1 => by
              by_cases q : v = i
              · rw [q]; exact ⟨by omega, by omega⟩
              · exact hP v v0 (by omega))
            exact ⟨r, e1.step fun k => by rw [bv.l0, if_pos (by omega), if_pos (by omega), if_pos (by omega), if_pos c1, if_pos c2, w], e2⟩
          · exact ⟨(221, []), Evl.here fun k => by rw [bv.l0, if_pos (by omega), if_pos (by omega), if_pos (by omega), if_pos c1, if_neg c2], fun h => absurd (h.2 i (by omega) (by omega)).2 c2, fun _ => rfl⟩
        · exact ⟨(221, []), Evl.here fun k => by rw [bv.l0, if_pos (by omega), if_pos (by omega), if_pos (by omega), if_neg c1], fun h => absurd (h.2 i (by omega) (by omega)).1 c1, fun _ => rfl⟩
    obtain ⟨r, e1, e2⟩ := loop n.toNat 0 (by omega) (fun v a b => by omega)
    exact ⟨r, e1.congr fun k => by rw [bv.f, if_pos h]; rfl, e2⟩
  · exact ⟨(221, []), Evl.pure.congr fun k => by rw [bv.f, if_neg h], fun q => absurd q.1 h, fun _ => rfl⟩

/-- What amounts on the first edges cost, as the program adds. -/
def JD (E : List S98) (A : List Int) : Nat → Int
  | 0 => 0
  | i + 1 => wrap64 (JD E A i + wrap64 ((aa E i).f3 * rd A i))
/-- What they cost. -/
def cost (E : List S98) (A : List Int) : Nat → Int
  | 0 => 0
  | i + 1 => cost E A i + (aa E i).f3 * rd A i
theorem Kq {n : Int} {e : S98} (r : zw n e) {a : Int} (a0 : 0 ≤ a) (a1 : a ≤ 1048576) : -1099511627776 ≤ e.f3 * a ∧ e.f3 * a ≤ 1099511627776 := by
  have x := Int.mul_le_mul_of_nonneg_right r.d0 a0
  have y := Int.mul_le_mul_of_nonneg_right r.d1 a0
  omega
theorem H5 {n : Int} {E : List S98} (R : Right n E) {A : List Int} (h : Sn E.length A) : ∀ i : Nat, i ≤ E.length → JD E A i = cost E A i ∧ -(i * 1099511627776 : Int) ≤ cost E A i ∧ cost E A i ≤ (i * 1099511627776 : Int) := by
  have m1 := R.m1
  intro i
  induction i with
  | zero => intro _; simp [JD, cost]
  | succ i ih =>
    intro hi
    obtain ⟨a, b, c⟩ := ih (by omega)
    have l := h i (by omega) (by omega)
    have m := Kq (R.e i (by omega) (by omega)) l.1 l.2
    simp only [JD, cost]
    rw [a, wr (x := (aa E i).f3 * rd A i) (by omega) (by omega), wr (by omega) (by omega)]
    push_cast
    exact ⟨rfl, by omega, by omega⟩
theorem Rs {n : Int} {E : List S98} (hm : (E.length : Int) ≤ 4096) {A : List Int} (hA : A.length = E.length) : Evl (fun k => cK.f k n E A) (JD E A E.length) := by
  have loop : ∀ (d i : Nat), i + d = E.length → Evl (fun k => cK.l0 k A (JD E A i) i n E) (JD E A E.length) := by
    intro d
    induction d with
    | zero => intro i hi; exact Evl.here fun k => by rw [cK.l0, if_neg (by omega), show i = E.length by omega]
    | succ d ih =>
      intro i hi
      have w : wrap64 ((i : Int) + 1) = ((i + 1 : Nat) : Int) := by rw [w1 (by omega) (by omega)]; rfl
      exact (ih (i + 1) (by omega)).step fun k => by rw [cK.l0, if_pos (by omega), if_pos (by omega), if_pos (by omega), w]; rfl
  exact (loop E.length 0 (by omega)).congr fun k => rfl

end Go.Proofs.Ytkdoihcjhccliaa.G
namespace Go.Proofs.Ytkdoihcjhccliaa.G
open Go.RowKit Go.Proofs.Ytkdoihcjhccliaa.Q Go.Proofs.YtkdoihcjhccliaaW.PrintWords Go.Proofs.YtkdoihcjhccliaaW.PrintLast
set_option linter.unusedVariables false

theorem Walk.app {E : List S98} {u w v : Int} {k1 k2 : Nat} {c1 c2 : Int} (a : Walk E u w k1 c1) (b : Walk E w v k2 c2) : Walk E u v (k1 + k2) (c1 + c2) := by
  induction b with
  | nil => rw [Int.add_zero]; exact a
  | @cons k c i i0 i1 b ih => rw [← Int.add_assoc]; exact Walk.cons i0 i1 ih
theorem Walk.phi {E : List S98} {F : Int → Int} (hF : ∀ i : Int, 0 ≤ i → i < (E.length : Int) → F (aa E i).f1 ≤ F (aa E i).f0 + (aa E i).f3) {u v : Int} {k : Nat} {c : Int} (w : Walk E u v k c) : F v ≤ F u + c := by
  induction w with
  | nil => omega
  | @cons k c i i0 i1 w ih => have := hF i i0 i1; omega
/-- A walk, node by node. -/
theorem Walk.fn {E : List S98} {u v : Int} {k : Nat} {c : Int} (w : Walk E u v k c) : ∃ (f s : Nat → Int), f 0 = u ∧ f k = v ∧ s 0 = 0 ∧ s k = c ∧ ∀ i, i < k → ∃ j : Int, 0 ≤ j ∧ j < (E.length : Int) ∧ (aa E j).f0 = f i ∧ (aa E j).f1 = f (i + 1) ∧ s (i + 1) = s i + (aa E j).f3 := by
  induction w with
  | nil => exact ⟨fun _ => u, fun _ => 0, rfl, rfl, rfl, rfl, fun i h => by omega⟩
  | @cons k c j j0 j1 w ih =>
    obtain ⟨f, s, a1, a2, a3, a4, a5⟩ := ih
    have lt : ∀ i, i ≤ k → (if i ≤ k then f i else (aa E j).f1) = f i ∧ (if i ≤ k then s i else c + (aa E j).f3) = s i := fun i h => ⟨if_pos h, if_pos h⟩
    refine ⟨fun i => if i ≤ k then f i else (aa E j).f1, fun i => if i ≤ k then s i else c + (aa E j).f3, ?_, ?_, ?_, ?_, fun i hi => ?_⟩
    · show (if 0 ≤ k then _ else _) = _; rw [if_pos (by omega)]; exact a1
    · show (if k + 1 ≤ k then _ else _) = _; rw [if_neg (by omega)]
    · show (if 0 ≤ k then _ else _) = _; rw [if_pos (by omega)]; exact a3
    · show (if k + 1 ≤ k then _ else _) = _; rw [if_neg (by omega)]
    · show ∃ j', _ ∧ _ ∧ _ = (if i ≤ k then _ else _) ∧ _ = (if i + 1 ≤ k then _ else _) ∧ (if i + 1 ≤ k then _ else _) = (if i ≤ k then _ else _) + _
      rw [if_pos (show i ≤ k by omega), if_pos (show i ≤ k by omega)]
      by_cases q : i + 1 ≤ k
      · rw [if_pos q, if_pos q]; exact a5 i (by omega)
      · have e : i = k := by omega
        subst e
        rw [if_neg q, if_neg q]
        exact ⟨j, j0, j1, a2.symm, rfl, by rw [a4]⟩
theorem F8 {E : List S98} {f s : Nat → Int} {k : Nat} (h : ∀ i, i < k → ∃ j : Int, 0 ≤ j ∧ j < (E.length : Int) ∧ (aa E j).f0 = f i ∧ (aa E j).f1 = f (i + 1) ∧ s (i + 1) = s i + (aa E j).f3) (a : Nat) : ∀ d : Nat, a + d ≤ k → Walk E (f a) (f (a + d)) d (s (a + d) - s a)
  | 0, _ => by rw [Nat.add_zero, Int.sub_self]; exact Walk.nil
  | d + 1, hd => by
    obtain ⟨j, j0, j1, e0, e1, e2⟩ := h (a + d) (by omega)
    have w := F8 h a d (by omega)
    rw [← e0] at w
    have := Walk.cons j0 j1 w
    rw [e1, show s (a + d) - s a + (aa E j).f3 = s (a + (d + 1)) - s a by rw [← Nat.add_assoc, e2]; omega] at this
    exact this
/-- Where no circle costs less than nothing, a long walk can be cut. -/
theorem Walk.cut {n : Int} {E : List S98} {C : Int} (g : Gr n E C) {F : Int → Int} (hF : ∀ i : Int, 0 ≤ i → i < (E.length : Int) → F (aa E i).f1 ≤ F (aa E i).f0 + (aa E i).f3) {u v : Int} (u0 : 0 ≤ u) (u1 : u < n) (k : Nat) : ∀ c : Int, Walk E u v k c → ∃ (k' : Nat) (c' : Int), (k' : Int) ≤ n ∧ c' ≤ c ∧ Walk E u v k' c' := by
  induction k using Nat.strongRecOn with
  | _ k ih =>
    intro c w
    by_cases q : (k : Int) ≤ n
    · exact ⟨k, c, q, Int.le_refl _, w⟩
    · obtain ⟨f, s, a1, a2, a3, a4, a5⟩ := w.fn
      have n0 := g.n0
      have inn : ∀ i, i ≤ k → 0 ≤ f i ∧ f i < n := by
        intro i hi
        cases i with
        | zero => rw [a1]; exact ⟨u0, u1⟩
        | succ i =>
          obtain ⟨j, j0, j1, e0, e1, e2⟩ := a5 i (by omega)
          obtain ⟨-, b, -⟩ := g.e j j0 j1
          rw [e1] at b; exact b
      obtain ⟨a, b, ab, bn, eab⟩ := Q8 (m := n.toNat) f (fun i hi => by have := inn i (by omega); omega)
      have W1 := F8 a5 0 a (by omega)
      have W2 := F8 a5 a (b - a) (by omega)
      have W3 := F8 a5 b (k - b) (by omega)
      rw [show 0 + a = a by omega, a1, a3, Int.sub_zero] at W1
      rw [show a + (b - a) = b by omega] at W2
      rw [show b + (k - b) = k by omega, a2, a4, ← eab] at W3
      have p := W2.phi hF
      rw [eab] at p
      obtain ⟨k', c', x1, x2, x3⟩ := ih (a + (k - b)) (by omega) _ (W1.app W3)
      exact ⟨k', c', x1, by omega, x3⟩

/-- One edge, the first edges, rounds: each round reads the row of the last one. -/
def jst (E : List S98) (D X : List Int) (j : Nat) : List Int := if rd D (aa E j).f0 + (aa E j).f3 < rd X (aa E j).f1 then X.set (aa E j).f1.toNat (rd D (aa E j).f0 + (aa E j).f3) else X
def jpa (E : List S98) (D : List Int) : Nat → List Int
  | 0 => D
  | i + 1 => jst E D (jpa E D i) i
def jac (n : Int) (E : List S98) : Nat → List Int
  | 0 => List.replicate n.toNat 0
  | r + 1 => jpa E (jac n E r) E.length
theorem ZU (E : List S98) (D X : List Int) (j : Nat) : (jst E D X j).length = X.length := by unfold jst; split; rw [List.length_set]; rfl
theorem ze (E : List S98) (D : List Int) : ∀ i, (jpa E D i).length = D.length
  | 0 => rfl
  | i + 1 => by rw [jpa, ZU, ze E D i]
theorem tK (n : Int) (E : List S98) : ∀ r, (jac n E r).length = n.toNat
  | 0 => List.length_replicate
  | r + 1 => by rw [jac, ze, tK n E r]
theorem Rt {n : Int} {E : List S98} {C : Int} (g : Gr n E C) {D X : List Int} (hX : (X.length : Int) = n) {j : Nat} (hj : j < E.length) (v : Int) (v0 : 0 ≤ v) :
    rd (jst E D X j) v = if rd D (aa E j).f0 + (aa E j).f3 < rd X (aa E j).f1 ∧ v = (aa E j).f1 then rd D (aa E j).f0 + (aa E j).f3 else rd X v := by
  obtain ⟨-, ⟨b0, b1⟩, -⟩ := g.e j (by omega) (by omega)
  unfold jst
  by_cases q : rd D (aa E j).f0 + (aa E j).f3 < rd X (aa E j).f1
  · rw [if_pos q, mg _ _ _ _ b0 (by omega) v0]
    by_cases z : v = (aa E j).f1
    · rw [if_pos z, if_pos ⟨q, z⟩]
    · rw [if_neg z, if_neg fun h => z h.2]
  · rw [if_neg q, if_neg fun h => q h.1]
theorem U9 {n : Int} {E : List S98} {C : Int} (g : Gr n E C) {D X : List Int} (hX : (X.length : Int) = n) {j : Nat} (hj : j < E.length) (v : Int) (v0 : 0 ≤ v) : rd (jst E D X j) v ≤ rd X v := by
  rw [Rt g hX hj v v0]
  split
  · rename_i h; rw [h.2]; omega
  · exact Int.le_refl _
theorem Va {n : Int} {E : List S98} {C : Int} (g : Gr n E C) {D : List Int} (hD : (D.length : Int) = n) (v : Int) (v0 : 0 ≤ v) : ∀ i, i ≤ E.length → rd (jpa E D i) v ≤ rd D v
  | 0, _ => Int.le_refl _
  | i + 1, h => by
    have a := Va g hD v v0 i (by omega)
    have b := U9 g (D := D) (X := jpa E D i) (by rw [ze]; exact hD) (j := i) (by omega) v v0
    rw [jpa]; omega
theorem Ru {n : Int} {E : List S98} {C : Int} (g : Gr n E C) {D : List Int} (hD : (D.length : Int) = n) : ∀ i, i ≤ E.length → ∀ j : Nat, j < i → rd (jpa E D i) (aa E j).f1 ≤ rd D (aa E j).f0 + (aa E j).f3
  | 0, _, j, h => by omega
  | i + 1, hi, j, h => by
    obtain ⟨-, ⟨b0, b1⟩, -⟩ := g.e j (by omega) (by omega)
    have hl : ((jpa E D i).length : Int) = n := by rw [ze]; exact hD
    by_cases q : j = i
    · subst q
      rw [jpa, Rt g hl (by omega) _ b0]
      by_cases z : rd D (aa E j).f0 + (aa E j).f3 < rd (jpa E D j) (aa E j).f1
      · rw [if_pos ⟨z, rfl⟩]; omega
      · rw [if_neg fun h => z h.1]; omega
    · have a := Ru g hD i (by omega) j (by omega)
      have b := U9 g (D := D) hl (j := i) (by omega) _ b0
      rw [jpa]; omega
theorem JE {n : Int} {E : List S98} {C : Int} (g : Gr n E C) {D : List Int} (hD : (D.length : Int) = n) (v : Int) (v0 : 0 ≤ v) : ∀ i, i ≤ E.length → rd (jpa E D i) v = rd D v ∨ ∃ j : Nat, j < E.length ∧ v = (aa E j).f1 ∧ rd (jpa E D i) v = rd D (aa E j).f0 + (aa E j).f3
  | 0, _ => Or.inl rfl
  | i + 1, hi => by
    have hl : ((jpa E D i).length : Int) = n := by rw [ze]; exact hD
    rw [jpa, Rt g hl (by omega) v v0]
    by_cases z : rd D (aa E i).f0 + (aa E i).f3 < rd (jpa E D i) (aa E i).f1 ∧ v = (aa E i).f1
    · rw [if_pos z]; exact Or.inr ⟨i, by omega, z.2, rfl⟩
    · rw [if_neg z]; exact JE g hD v v0 i (by omega)
theorem Ei {n : Int} {E : List S98} {C : Int} (g : Gr n E C) (v : Int) (v0 : 0 ≤ v) (v1 : v < n) : ∀ r, rd (jac n E r) v ≤ 0
  | 0 => by rw [jac, gT _ _ _ v0 (by omega)]; exact Int.le_refl _
  | r + 1 => by
    have n0 := g.n0
    have a := Va g (D := jac n E r) (by rw [tK]; omega) v v0 E.length (Nat.le_refl _)
    have := Ei g v v0 v1 r
    rw [jac]; omega
theorem aey {n : Int} {E : List S98} {C : Int} (g : Gr n E C) {D : List Int} (hD : (D.length : Int) = n) {z : Int} (h : ∀ v : Int, 0 ≤ v → v < n → -z ≤ rd D v) (i : Nat) (hi : i ≤ E.length) (v : Int) (v0 : 0 ≤ v) (v1 : v < n) : -(z + C) ≤ rd (jpa E D i) v := by
  have c0 := g.c0
  rcases JE g hD v v0 i hi with e | ⟨j, j1, e1, e2⟩
  · rw [e]; have := h v v0 v1; omega
  · obtain ⟨⟨a0, a1⟩, -, d0, d1⟩ := g.e j (by omega) (by omega)
    have := h _ a0 a1
    rw [e2]; omega
theorem Rv {n : Int} {E : List S98} {C : Int} (g : Gr n E C) : ∀ (r : Nat) (v : Int), 0 ≤ v → v < n → -((r : Int) * C) ≤ rd (jac n E r) v
  | 0, v, v0, v1 => by rw [jac, gT _ _ _ v0 (by omega)]; simp
  | r + 1, v, v0, v1 => by
    have n0 := g.n0
    have := aey g (D := jac n E r) (by rw [tK]; omega) (Rv g r) E.length (Nat.le_refl _) v v0 v1
    rw [jac, Int.natCast_add, Int.add_mul]
    rw [show ((1 : Nat) : Int) * C = C by simp]; exact this
theorem TZ {n : Int} {E : List S98} {C : Int} (g : Gr n E C) {u : Int} (u0 : 0 ≤ u) (u1 : u < n) {v : Int} {k : Nat} {c : Int} (w : Walk E u v k c) : ∀ r : Nat, k ≤ r → rd (jac n E r) v ≤ c := by
  induction w with
  | nil => intro r _; exact Ei g u u0 u1 r
  | @cons k c j j0 j1 w ih =>
    intro r hr
    obtain ⟨r, rfl⟩ : ∃ q, r = q + 1 := ⟨r - 1, by omega⟩
    have n0 := g.n0
    have a := ih r (by omega)
    have b := Ru g (D := jac n E r) (by rw [tK]; omega) E.length (Nat.le_refl _) j.toNat (by omega)
    rw [show ((j.toNat : Nat) : Int) = j by omega] at b
    rw [jac]; omega
theorem JF {n : Int} {E : List S98} {C : Int} (g : Gr n E C) : ∀ (r : Nat) (v : Int), 0 ≤ v → v < n → ∃ (u : Int) (k : Nat), 0 ≤ u ∧ u < n ∧ k ≤ r ∧ Walk E u v k (rd (jac n E r) v)
  | 0, v, v0, v1 => ⟨v, 0, v0, v1, Nat.le_refl _, by rw [jac, gT _ _ _ v0 (by omega)]; exact Walk.nil⟩
  | r + 1, v, v0, v1 => by
    have n0 := g.n0
    have hD : ((jac n E r).length : Int) = n := by rw [tK]; omega
    rcases JE g hD v v0 E.length (Nat.le_refl _) with e | ⟨j, j1, e1, e2⟩
    · obtain ⟨u, k, a, b, c, d⟩ := JF g r v v0 v1
      exact ⟨u, k, a, b, by omega, by rw [jac, e]; exact d⟩
    · obtain ⟨⟨a0, a1⟩, -, -⟩ := g.e j (by omega) (by omega)
      obtain ⟨u, k, a, b, c, d⟩ := JF g r _ a0 a1
      refine ⟨u, k + 1, a, b, by omega, ?_⟩
      rw [jac, e2, e1]
      exact Walk.cons (by omega) (by omega) d
/-- The rounds settle. -/
theorem Ua {n : Int} {E : List S98} {C : Int} (g : Gr n E C) {F : Int → Int} (hF : ∀ i : Int, 0 ≤ i → i < (E.length : Int) → F (aa E i).f1 ≤ F (aa E i).f0 + (aa E i).f3) (i : Int) (i0 : 0 ≤ i) (i1 : i < (E.length : Int)) : rd (jac n E n.toNat) (aa E i).f1 ≤ rd (jac n E n.toNat) (aa E i).f0 + (aa E i).f3 := by
  have n0 := g.n0
  obtain ⟨⟨a0, a1⟩, -, -⟩ := g.e i i0 i1
  obtain ⟨u, k, u0, u1, hk, w⟩ := JF g n.toNat _ a0 a1
  obtain ⟨k', c', x1, x2, x3⟩ := Walk.cut g hF u0 u1 _ _ (Walk.cons i0 i1 w)
  have := TZ g u0 u1 x3 n.toNat (by omega)
  omega

theorem Vb {n : Int} {E : List S98} {C : Int} (g : Gr n E C) {r : Nat} (hr : (r : Int) ≤ n) {i : Nat} (hi : i < E.length) : wrap64 (rd (jac n E r) (aa E i).f0 + (aa E i).f3) = rd (jac n E r) (aa E i).f0 + (aa E i).f3 := by
  have n1 := g.n1
  have c0 := g.c0
  have c1 := g.c1
  obtain ⟨⟨a0, a1⟩, -, d0, d1⟩ := g.e i (by omega) (by omega)
  have lo := Rv g r _ a0 a1
  have hi := Ei g _ a0 a1 r
  have b : (r : Int) * C ≤ 1100 * 134217728 := Int.mul_le_mul (by omega) c1 c0 (by decide)
  generalize (r : Int) * C = z at lo b
  exact wr (by omega) (by omega)
theorem K7 {n : Int} {E : List S98} {C : Int} (g : Gr n E C) {r : Nat} (hr : (r : Int) ≤ n) (d : Nat) : ∀ i : Nat, i + d = E.length →
    ∀ z, Evl (fun k => az.l0 k (jac n E (r + 1)) n ((r : Int) + 1) n E) z → Evl (fun k => az.l1 k (jac n E r) n r (jpa E (jac n E r) i) i n E) z := by
  have n0 := g.n0
  have n1 := g.n1
  have m1 := g.m1
  induction d with
  | zero =>
    intro i hi z hz
    have e : i = E.length := by omega
    subst e
    exact hz.step fun k => by rw [az.l1, if_neg (by omega), w1 (by omega) (by omega)]; rfl
  | succ d ih =>
    intro i hi z hz
    have gi : (i : Int) < (E.length : Int) := by omega
    have g0 : (0 : Int) ≤ i := by omega
    have il : i < E.length := by omega
    have hD : ((jac n E r).length : Int) = n := by rw [tK]; omega
    have hX : ((jpa E (jac n E r) i).length : Int) = n := by rw [ze]; exact hD
    have w : wrap64 ((i : Int) + 1) = ((i + 1 : Nat) : Int) := by rw [w1 (by omega) (by omega)]; rfl
    obtain ⟨⟨a0, a1⟩, ⟨b0, b1⟩, -⟩ := g.e i g0 gi
    have ga : (aa E i).f0 < ((jac n E r).length : Int) := by omega
    have gb : (aa E i).f1 < ((jpa E (jac n E r) i).length : Int) := by omega
    have hi0 := Ei g _ a0 a1 r
    have big : rd (jac n E r) (aa E i).f0 < 4611686018427387904 := by omega
    have ws := Vb g hr il
    have nxt := ih (i + 1) (by omega) z hz
    by_cases q : rd (jac n E r) (aa E i).f0 + (aa E i).f3 < rd (jpa E (jac n E r) i) (aa E i).f1
    · have ps : jpa E (jac n E r) (i + 1) = (jpa E (jac n E r) i).set (aa E i).f1.toNat (rd (jac n E r) (aa E i).f0 + (aa E i).f3) := by rw [jpa, jst, if_pos q]
      refine nxt.step fun k => ?_
      rw [az.l1, if_pos gi, if_pos g0, if_pos a0, if_pos ga, if_pos big, if_pos b0, if_pos gb, ws, if_pos q, w, ps]
    · have ps : jpa E (jac n E r) (i + 1) = jpa E (jac n E r) i := by rw [jpa, jst, if_neg q]
      rw [ps] at nxt
      refine nxt.step fun k => ?_
      rw [az.l1, if_pos gi, if_pos g0, if_pos a0, if_pos ga, if_pos big, if_pos b0, if_pos gb, ws, if_neg q, w]
theorem K8 {n : Int} {E : List S98} {C : Int} (g : Gr n E C) (d : Nat) : ∀ r : Nat, ((r + d : Nat) : Int) = n → Evl (fun k => az.l0 k (jac n E r) n r n E) (jac n E n.toNat) := by
  have n0 := g.n0
  have n1 := g.n1
  induction d with
  | zero =>
    intro r hr
    have e : r = n.toNat := by omega
    subst e
    exact Evl.here fun k => by rw [az.l0, if_neg (by omega)]
  | succ d ih =>
    intro r hr
    have hl := tK n E r
    have a := K7 g (r := r) (by omega) E.length 0 (by omega) _ ((ih (r + 1) (by omega)).congr fun k => rfl)
    exact a.step fun k => by rw [az.l0, if_pos (by omega), Option.bind_some, if_pos (by rw [hl]; simp; omega), List.nil_append]; rfl
theorem Rw {n : Int} {E : List S98} {C : Int} (g : Gr n E C) (hf : ∀ i : Int, 0 ≤ i → i < (E.length : Int) → rd (jac n E n.toNat) (aa E i).f1 ≤ rd (jac n E n.toNat) (aa E i).f0 + (aa E i).f3) : Evl (fun k => bO.f k n E (jac n E n.toNat)) true := by
  have n0 := g.n0
  have m1 := g.m1
  have hD : ((jac n E n.toNat).length : Int) = n := by rw [tK]; omega
  have loop : ∀ (d i : Nat), i + d = E.length → Evl (fun k => bO.l0 k (jac n E n.toNat) i n E) true := by
    intro d
    induction d with
    | zero => intro i hi; exact Evl.here fun k => by rw [bO.l0, if_neg (by omega)]
    | succ d ih =>
      intro i hi
      have gi : (i : Int) < (E.length : Int) := by omega
      have g0 : (0 : Int) ≤ i := by omega
      have w : wrap64 ((i : Int) + 1) = ((i + 1 : Nat) : Int) := by rw [w1 (by omega) (by omega)]; rfl
      obtain ⟨⟨a0, a1⟩, ⟨b0, b1⟩, -⟩ := g.e i g0 gi
      have ga : (aa E i).f0 < ((jac n E n.toNat).length : Int) := by omega
      have gb : (aa E i).f1 < ((jac n E n.toNat).length : Int) := by omega
      have hi0 := Ei g _ a0 a1 n.toNat
      have big : rd (jac n E n.toNat) (aa E i).f0 < 4611686018427387904 := by omega
      have ws := Vb g (r := n.toNat) (by omega) (i := i) (by omega)
      have f := hf i g0 gi
      refine (ih (i + 1) (by omega)).step fun k => ?_
      rw [bO.l0, if_pos gi, if_pos g0, if_pos a0, if_pos ga, if_pos big, if_pos b0, if_pos gb, ws, if_neg (by omega), w]
  exact (loop E.length 0 (by omega)).congr fun k => rfl
/-- Potentials are found where there are any. -/
theorem H6 {n : Int} {E : List S98} (R : Right n E) {C : Int} (g : Gr n E C) (c2 : C ≤ 1048576) {F : Int → Int} (hF : ∀ i : Int, 0 ≤ i → i < (E.length : Int) → F (aa E i).f1 ≤ F (aa E i).f0 + (aa E i).f3) :
    ∃ P, Evl (fun k => bL.f k n E) (P, 0) ∧ yH n P ∧ ∀ i : Int, 0 ≤ i → i < (E.length : Int) → rd P (aa E i).f1 ≤ rd P (aa E i).f0 + (aa E i).f3 := by
  obtain ⟨c, a, -, g2, -, -, g5⟩ := xI n E
  have hc := g5 R
  subst hc
  have n0 := g.n0
  have n1 := g.n1
  have hf := fun i i0 i1 => Ua g hF i i0 i1
  refine ⟨jac n E n.toNat, ?_, ⟨by rw [tK]; omega, fun v v0 v1 => ?_⟩, hf⟩
  · refine (Evl.bind (h := fun k Hm => if Hm.1 = 0 then (if 0 ≤ n then (if (n : Int).toNat ≤ 35184372088832 then ((az.f k n E (List.replicate (n : Int).toNat 0) n).bind fun zL => ((bO.f k n E zL).bind fun Ju => (if Ju = true then (some (zL, (0 : Int))) else (some (([] : List Int), 80))))) else (none)) else (none)) else (some (([] : List Int), Hm.1))) g2 ?_).congr fun k => rfl
    refine Evl.congr (h := fun k => (az.f k n E (List.replicate (n : Int).toNat 0) n).bind fun zL => ((bO.f k n E zL).bind fun Ju => (if Ju = true then (some (zL, (0 : Int))) else (some (([] : List Int), 80))))) ?_ fun k => by rw [if_pos rfl, if_pos n0, if_pos (by omega)]
    refine Evl.bind (h := fun k zL => (bO.f k n E zL).bind fun Ju => (if Ju = true then (some (zL, (0 : Int))) else (some (([] : List Int), 80)))) ((K8 g n.toNat 0 (by omega)).congr fun k => rfl) ?_
    exact Evl.bind (h := fun k Ju => if Ju = true then (some (jac n E n.toNat, (0 : Int))) else (some (([] : List Int), 80))) (Rw g hf) (Evl.pure.congr fun k => by rw [if_pos rfl])
  · have hi := Ei g v v0 v1 n.toNat
    have lo := Rv g n.toNat v v0 v1
    have b : ((n.toNat : Nat) : Int) * C ≤ 1100 * 1048576 := Int.mul_le_mul (by omega) c2 g.c0 (by decide)
    generalize ((n.toNat : Nat) : Int) * C = z at lo b
    exact ⟨by omega, by omega⟩
end Go.Proofs.Ytkdoihcjhccliaa.G
namespace Go.Proofs.Ytkdoihcjhccliaa.G
open Go.RowKit Go.Proofs.Ytkdoihcjhccliaa.Q Go.Proofs.YtkdoihcjhccliaaW.PrintWords Go.Proofs.YtkdoihcjhccliaaW.PrintLast
set_option linter.unusedVariables false

/-- Where an edge of the residual begins, where it ends, how much may go over it, what it costs. -/
def rf (E : List S98) (i : Int) : Int := if i % 2 = 0 then (aa E (i / 2)).f0 else (aa E (i / 2)).f1
def rt (E : List S98) (i : Int) : Int := if i % 2 = 0 then (aa E (i / 2)).f1 else (aa E (i / 2)).f0
def rc (E : List S98) (A : List Int) (i : Int) : Int := if i % 2 = 0 then (aa E (i / 2)).f2 - rd A (i / 2) else rd A (i / 2)
def rk (E : List S98) (i : Int) : Int := if i % 2 = 0 then (aa E (i / 2)).f3 else -(aa E (i / 2)).f3
/-- X is the residual of these amounts. -/
structure zJ (E : List S98) (A : List Int) (X : List S98) : Prop where
  len : X.length = 2 * E.length
  el : ∀ i : Int, 0 ≤ i → i < 2 * (E.length : Int) → aa X i = ⟨rf E i, rt E i, rc E A i, rk E i⟩

theorem zf (X Y : List S98) (j : Int) (h0 : 0 ≤ j) (h : j < (X.length : Int)) : aa (X ++ Y) j = aa X j := by
  unfold aa; rw [xH, if_pos (by omega)]
theorem F9 (X : List S98) (e : S98) (j : Int) (h : j = (X.length : Int)) : aa (X ++ [e]) j = e := by
  subst h; unfold aa; rw [xH, if_neg (by omega)]; simp

theorem Ub {n : Int} {E : List S98} (R : Right n E) {A : List Int} (hA : A.length = E.length) (fit : Il E A) (d : Nat) : ∀ (i : Nat) (X : List S98), i + d = E.length → X.length = 2 * i →
    (∀ j : Int, 0 ≤ j → j < 2 * (i : Int) → aa X j = ⟨rf E j, rt E j, rc E A j, rk E j⟩) → ∃ Y, Evl (fun k => aJ.l0 k A i n E n X) (n, Y) ∧ zJ E A Y := by
  have m1 := R.m1
  induction d with
  | zero =>
    intro i X hi hX h
    refine ⟨X, Evl.here fun k => by rw [aJ.l0, if_neg (by omega)], ⟨by omega, fun j h0 h1 => h j h0 (by omega)⟩⟩
  | succ d ih =>
    intro i X hi hX h
    have e := R.e i (by omega) (by omega)
    have a := fit i (by omega) (by omega)
    have c1 := e.c1
    have d0 := e.d0
    have d1 := e.d1
    have ev : (2 * (i : Int)) % 2 = 0 := by omega
    have ed : (2 * (i : Int)) / 2 = i := by omega
    have ov : ¬ (2 * (i : Int) + 1) % 2 = 0 := by omega
    have od : (2 * (i : Int) + 1) / 2 = i := by omega
    have key : ∀ j : Int, 0 ≤ j → j < 2 * ((i + 1 : Nat) : Int) → aa (X ++ [(⟨(aa E i).f0, (aa E i).f1, wrap64 (((aa E i).f2) - (rd A i)), (aa E i).f3⟩ : S98)] ++ [(⟨(aa E i).f1, (aa E i).f0, rd A i, wrap64 (-((aa E i).f3))⟩ : S98)]) j = ⟨rf E j, rt E j, rc E A j, rk E j⟩ := by
      intro j h0 h1
      by_cases q : j < 2 * (i : Int)
      · rw [zf _ _ _ h0 (by simp; omega), zf _ _ _ h0 (by omega)]; exact h j h0 q
      · by_cases q1 : j = 2 * (i : Int)
        · rw [zf _ _ _ h0 (by simp; omega), F9 _ _ _ (by omega), q1]
          unfold rf rt rc rk
          rw [if_pos ev, if_pos ev, if_pos ev, if_pos ev, ed, wr (by omega) (by omega)]
        · have q2 : j = 2 * (i : Int) + 1 := by omega
          rw [F9 _ _ _ (by simp; omega), q2]
          unfold rf rt rc rk
          rw [if_neg ov, if_neg ov, if_neg ov, if_neg ov, od, wr (by omega) (by omega)]
    obtain ⟨Y, y1, y2⟩ := ih (i + 1) _ (by omega) (by simp; omega) key
    refine ⟨Y, y1.step fun k => ?_, y2⟩
    rw [aJ.l0, if_pos (by omega), if_pos (by omega), if_pos (by omega), if_pos (by omega), Option.bind_some, if_pos (by simp; omega), w1 (by omega) (by omega)]; rfl
theorem Rx {n : Int} {E : List S98} (R : Right n E) {A : List Int} (hA : A.length = E.length) (fit : Il E A) : ∃ X, Evl (fun k => aJ.f k n E A) (n, X) ∧ zJ E A X :=
  Ub R hA fit E.length 0 [] (by omega) rfl fun j h0 h1 => by omega

/-- Changes along edges of the residual, one behind the other. -/
def put (A : List Int) (i x : Int) : List Int := A.set (i / 2).toNat (if i % 2 = 0 then rd A (i / 2) + x else rd A (i / 2) - x)
def chg (x : Int) : List Int → List Int → List Int
  | A, [] => A
  | A, i :: L => chg x (put A i x) L
/-- The changes fit: each edge once, as far as there is room. -/
structure Fit (E : List S98) (A L : List Int) (x : Int) : Prop where
  x0 : 0 ≤ x
  el : ∀ i ∈ L, 0 ≤ i ∧ i < 2 * (E.length : Int) ∧ x ≤ rc E A i
  one : L.Pairwise fun a b => a / 2 ≠ b / 2

theorem Kr {E : List S98} {A : List Int} {i x : Int} (hA : A.length = E.length) (h0 : 0 ≤ i) (h1 : i < 2 * (E.length : Int)) (j : Int) (j0 : 0 ≤ j) : rd (put A i x) j = if j = i / 2 then (if i % 2 = 0 then rd A (i / 2) + x else rd A (i / 2) - x) else rd A j :=
  mg _ _ _ _ (by omega) (by omega) j0
theorem Dq (A : List Int) (i x : Int) : (put A i x).length = A.length := by unfold put; rw [List.length_set]
theorem aez {E : List S98} {A : List Int} {i x : Int} (hA : A.length = E.length) (h0 : 0 ≤ i) (h1 : i < 2 * (E.length : Int)) {j : Int} (j0 : 0 ≤ j) (hj : i / 2 ≠ j / 2) : rc E (put A i x) j = rc E A j := by
  have z : rd (put A i x) (j / 2) = rd A (j / 2) := by rw [Kr hA h0 h1 _ (by omega), if_neg (fun e => hj e.symm)]
  unfold rc; rw [z]
theorem Ry {E : List S98} {A : List Int} {i x : Int} (hA : A.length = E.length) (fit : Il E A) (h0 : 0 ≤ i) (h1 : i < 2 * (E.length : Int)) (x0 : 0 ≤ x) (hx : x ≤ rc E A i) : Il E (put A i x) := by
  intro j j0 j1
  have a := fit j j0 j1
  rw [Kr hA h0 h1 j j0]
  unfold rc at hx
  by_cases q : j = i / 2
  · rw [if_pos q]; rw [q] at a ⊢
    split at hx <;> rename_i z
    · rw [if_pos z]; omega
    · rw [if_neg z]; omega
  · rw [if_neg q]; exact a
theorem Fit.tail {E : List S98} {A L : List Int} {i x : Int} (hA : A.length = E.length) (h : Fit E A (i :: L) x) : Fit E (put A i x) L x := by
  obtain ⟨a0, a1, -⟩ := h.el i (List.mem_cons_self ..)
  have p := List.pairwise_cons.mp h.one
  refine ⟨h.x0, fun j hj => ?_, p.2⟩
  obtain ⟨b0, b1, b2⟩ := h.el j (List.mem_cons_of_mem _ hj)
  exact ⟨b0, b1, by rw [aez hA a0 a1 b0 (p.1 j hj)]; exact b2⟩
theorem JG (x : Int) : ∀ (L A : List Int), (chg x A L).length = A.length
  | [], A => rfl
  | i :: L, A => by rw [chg, JG x L, Dq]
theorem JH {E : List S98} {x : Int} : ∀ (L A : List Int), A.length = E.length → Il E A → Fit E A L x → Il E (chg x A L)
  | [], A, _, fit, _ => fit
  | i :: L, A, hA, fit, h => by
    obtain ⟨a0, a1, a2⟩ := h.el i (List.mem_cons_self ..)
    exact JH L _ (by rw [Dq]; exact hA) (Ry hA fit a0 a1 h.x0 a2) (h.tail hA)

theorem ZV {E : List S98} {A : List Int} {i x : Int} (hA : A.length = E.length) (h0 : 0 ≤ i) (h1 : i < 2 * (E.length : Int)) (v : Int) : ∀ m : Nat, m ≤ E.length →
    net E (put A i x) v m = net E A v m + (if i / 2 < (m : Int) then (if rf E i = v then x else 0) - (if rt E i = v then x else 0) else 0) := by
  intro m
  induction m with
  | zero => intro _; rw [if_neg (by omega)]; rfl
  | succ m ih =>
    intro hm
    simp only [net]
    rw [ih (by omega), Kr hA h0 h1 m (by omega)]
    by_cases q : (m : Int) = i / 2
    · rw [if_pos q, if_neg (show ¬ i / 2 < (m : Int) by omega), if_pos (show i / 2 < ((m + 1 : Nat) : Int) by omega), ← q]
      unfold rf rt
      rw [← q]
      by_cases e : i % 2 = 0
      · rw [if_pos e, if_pos e, if_pos e]
        by_cases u1 : (aa E m).f0 = v <;> by_cases u2 : (aa E m).f1 = v <;> simp only [u1, u2, eq_self, if_true, if_false] <;> omega
      · rw [if_neg e, if_neg e, if_neg e]
        by_cases u1 : (aa E m).f0 = v <;> by_cases u2 : (aa E m).f1 = v <;> simp only [u1, u2, eq_self, if_true, if_false] <;> omega
    · rw [if_neg q]
      by_cases q1 : i / 2 < (m : Int)
      · rw [if_pos q1, if_pos (show i / 2 < ((m + 1 : Nat) : Int) by omega)]; omega
      · rw [if_neg q1, if_neg (show ¬ i / 2 < ((m + 1 : Nat) : Int) by omega)]; omega
/-- How often edges leave a node, less how often they come to it. -/
def Sq (E : List S98) (v : Int) : List Int → Int
  | [] => 0
  | i :: L => Sq E v L + (if rf E i = v then 1 else 0) - (if rt E i = v then 1 else 0)
theorem JI {E : List S98} {x v : Int} : ∀ (L A : List Int), A.length = E.length → Fit E A L x → net E (chg x A L) v E.length = net E A v E.length + x * Sq E v L
  | [], A, _, _ => by rw [chg, Sq]; omega
  | i :: L, A, hA, h => by
    obtain ⟨a0, a1, a2⟩ := h.el i (List.mem_cons_self ..)
    rw [chg, JI L _ (by rw [Dq]; exact hA) (h.tail hA), ZV hA a0 a1 v _ (Nat.le_refl _), if_pos (by omega), Sq, Int.mul_sub, Int.mul_add]
    split <;> split <;> omega

theorem Rz {n : Int} {E : List S98} (R : Right n E) {L : List Int} {x : Int} (hL : (L.length : Int) ≤ 1000000) (d : Nat) : ∀ (i : Nat) (A : List Int), i + d = L.length → A.length = E.length → Il E A → Fit E A (L.drop i) x →
    Evl (fun k => bu.l0 k L x A i) (chg x A (L.drop i)) := by
  have m1 := R.m1
  induction d with
  | zero =>
    intro i A hi hA fit h
    rw [List.drop_eq_nil_of_le (by omega)]
    exact Evl.here fun k => by rw [bu.l0, if_neg (by omega)]; rfl
  | succ d ih =>
    intro i A hi hA fit h
    have e : L.drop i = rd L i :: L.drop (i + 1) := by
      rw [List.drop_eq_getElem_cons (by omega)]; unfold rd; rw [List.getD_eq_getElem?_getD, show ((i : Int).toNat) = i by omega, List.getElem?_eq_getElem (by omega)]; rfl
    rw [e] at h ⊢
    obtain ⟨a0, a1, a2⟩ := h.el (rd L i) (List.mem_cons_self ..)
    have t1 := ih (i + 1) (put A (rd L i) x) (by omega) (by rw [Dq]; exact hA) (Ry hA fit a0 a1 h.x0 a2) (h.tail hA)
    have ft := fit (rd L i / 2) (by omega) (by omega)
    have c1 := (R.e (rd L i / 2) (by omega) (by omega)).c1
    have x0 := h.x0
    refine t1.step fun k => ?_
    rw [bu.l0, if_pos (by omega), if_pos (by omega), Int.tmod_eq_emod_of_nonneg a0, Int.tdiv_eq_ediv_of_nonneg a0, wr (by omega) (by omega), w1 (by omega) (by omega)]
    unfold rc at a2
    by_cases q : rd L i % 2 = 0
    · rw [if_pos q] at a2
      rw [if_pos q, if_pos (by omega), if_pos (by omega), wr (by omega) (by omega), put, if_pos q]; rfl
    · rw [if_neg q] at a2
      rw [if_neg q, if_pos (by omega), if_pos (by omega), wr (by omega) (by omega), put, if_neg q]; rfl
theorem Kt {n : Int} {E : List S98} (R : Right n E) {L A : List Int} {x : Int} (hL : (L.length : Int) ≤ 1000000) (hA : A.length = E.length) (fit : Il E A) (h : Fit E A L x) : Evl (fun k => bu.f k A L x) (chg x A L) := by
  have m1 := R.m1
  exact (Rz R hL L.length 0 A (by omega) hA fit h).congr fun k => by rw [bu.f, Option.bind_some, if_pos (by simp; omega), List.nil_append]; rfl

theorem ZW {E : List S98} {A L : List Int} {X : List S98} (n : Int) (hX : zJ E A X) (hL : (L.length : Int) ≤ 1000000) (hel : ∀ i ∈ L, 0 ≤ i ∧ i < 2 * (E.length : Int)) (d : Nat) : ∀ (i : Nat) (x : Int), i + d = L.length →
    ∃ r, Evl (fun k => bS.l0 k L x i n X) r ∧ r ≤ x ∧ (∀ j ∈ L.drop i, r ≤ rc E A j) ∧ (r = x ∨ ∃ j ∈ L, r = rc E A j) := by
  induction d with
  | zero =>
    intro i x hi
    refine ⟨x, Evl.here fun k => by rw [bS.l0, if_neg (by omega)], Int.le_refl _, fun j hj => ?_, Or.inl rfl⟩
    rw [List.drop_eq_nil_of_le (by omega)] at hj; cases hj
  | succ d ih =>
    intro i x hi
    have e : L.drop i = rd L i :: L.drop (i + 1) := by
      rw [List.drop_eq_getElem_cons (by omega)]; unfold rd; rw [List.getD_eq_getElem?_getD, show ((i : Int).toNat) = i by omega, List.getElem?_eq_getElem (by omega)]; rfl
    have mem := Q3 L i (by omega) (by omega)
    obtain ⟨a0, a1⟩ := hel _ mem
    have xe : (aa X (rd L i)).f2 = rc E A (rd L i) := by rw [hX.el _ a0 a1]
    have hx := hX.len
    have st : ∀ y : Int, (if rc E A (rd L i) < x then rc E A (rd L i) else x) = y → ∀ r, Evl (fun k => bS.l0 k L y ((i + 1 : Nat) : Int) n X) r → Evl (fun k => bS.l0 k L x i n X) r := by
      intro y hy r hr
      refine hr.step fun k => ?_
      rw [bS.l0, if_pos (by omega), if_pos (by omega), if_pos a0, if_pos (by omega), xe, w1 (by omega) (by omega)]
      by_cases q : rc E A (rd L i) < x
      · rw [if_pos q] at hy ⊢; rw [hy]; rfl
      · rw [if_neg q] at hy ⊢; rw [hy]; rfl
    by_cases q : rc E A (rd L i) < x
    · obtain ⟨r, r1, r2, r3, r4⟩ := ih (i + 1) (rc E A (rd L i)) (by omega)
      refine ⟨r, st _ (if_pos q) r r1, by omega, fun j hj => ?_, Or.inr ?_⟩
      · rw [e] at hj
        rcases List.mem_cons.mp hj with rfl | hj
        · exact r2
        · exact r3 j hj
      · rcases r4 with rfl | h
        · exact ⟨_, mem, rfl⟩
        · exact h
    · obtain ⟨r, r1, r2, r3, r4⟩ := ih (i + 1) x (by omega)
      refine ⟨r, st _ (if_neg q) r r1, r2, fun j hj => ?_, r4⟩
      rw [e] at hj
      rcases List.mem_cons.mp hj with rfl | hj
      · omega
      · exact r3 j hj
theorem Vd {E : List S98} {A L : List Int} {X : List S98} (n : Int) (hX : zJ E A X) (hL : (L.length : Int) ≤ 1000000) (h0 : L ≠ []) (hel : ∀ i ∈ L, 0 ≤ i ∧ i < 2 * (E.length : Int)) :
    ∃ r, Evl (fun k => bS.f k n X L) r ∧ (∀ j ∈ L, r ≤ rc E A j) ∧ ∃ j ∈ L, r = rc E A j := by
  have l0 : 0 < L.length := List.length_pos_iff.mpr h0
  have mem := Q3 L 0 (by omega) (by omega)
  obtain ⟨a0, a1⟩ := hel _ mem
  have xe : (aa X (rd L 0)).f2 = rc E A (rd L 0) := by rw [hX.el _ a0 a1]
  have hx := hX.len
  obtain ⟨r, r1, r2, r3, r4⟩ := ZW n hX hL hel (L.length - 1) 1 (rc E A (rd L 0)) (by omega)
  refine ⟨r, r1.congr fun k => ?_, fun j hj => ?_, ?_⟩
  · rw [bS.f, if_pos (by omega), if_pos a0, if_pos (by omega), xe]; rfl
  · cases L with
    | nil => exact absurd rfl h0
    | cons a L =>
      rcases List.mem_cons.mp hj with rfl | hj
      · exact r2
      · exact r3 j hj
  · rcases r4 with rfl | h
    · exact ⟨_, mem, rfl⟩
    · exact h
end Go.Proofs.Ytkdoihcjhccliaa.G
namespace Go.Proofs.Ytkdoihcjhccliaa.G
open Go.RowKit Go.Proofs.Ytkdoihcjhccliaa.Q Go.Proofs.YtkdoihcjhccliaaW.PrintWords Go.Proofs.YtkdoihcjhccliaaW.PrintLast
set_option linter.unusedVariables false

theorem JJ {n : Int} {E : List S98} (R : Right n E) {i : Int} (h0 : 0 ≤ i) (h1 : i < 2 * (E.length : Int)) : 0 ≤ rf E i ∧ rf E i < n := by
  have e := R.e (i / 2) (by omega) (by omega)
  unfold rf; split
  · exact ⟨e.a0, e.a1⟩
  · exact ⟨e.b0, e.b1⟩
theorem Uc {n : Int} {E : List S98} (R : Right n E) {i : Int} (h0 : 0 ≤ i) (h1 : i < 2 * (E.length : Int)) : 0 ≤ rt E i ∧ rt E i < n := by
  have e := R.e (i / 2) (by omega) (by omega)
  unfold rt; split
  · exact ⟨e.b0, e.b1⟩
  · exact ⟨e.a0, e.a1⟩

/-- How many nodes are not come to. -/
def un : List Int → Nat
  | [] => 0
  | x :: V => un V + (if x = -2 then 1 else 0)
theorem RA : ∀ (V : List Int) (j : Nat) (x : Int), j < V.length → V.getD j 0 = -2 → x ≠ -2 → un (V.set j x) + 1 = un V
  | [], j, x, h, _, _ => by simp at h
  | y :: V, 0, x, _, h, hx => by
    have hy : y = -2 := h
    rw [List.set_cons_zero, un, un, if_neg hx, if_pos hy]
  | y :: V, j + 1, x, h, hj, hx => by
    have a := RA V j x (by simpa using h) hj hx
    rw [List.set_cons_succ, un, un]; omega
theorem RB : ∀ (V : List Int), un V = 0 → ∀ j : Nat, j < V.length → V.getD j 0 ≠ -2
  | [], _, j, h => by simp at h
  | y :: V, hu, 0, _ => by
    intro hy
    have hy' : y = -2 := hy
    rw [un, if_pos hy'] at hu; omega
  | y :: V, hu, j + 1, h => RB V (by rw [un] at hu; omega) j (by simpa using h)

/-- The nodes that were come to, each by an edge with room from one of a lesser height. -/
structure Tree (n : Int) (E : List S98) (A : List Int) (s : Int) (V : List Int) (h : Int → Nat) : Prop where
  len : (V.length : Int) = n
  src : rd V s = -1
  top : ∀ v, h v + un V ≤ n.toNat
  el : ∀ v : Int, 0 ≤ v → v < n → rd V v = -2 ∨ (v = s ∧ rd V v = -1) ∨ (v ≠ s ∧ 0 ≤ rd V v ∧ rd V v < 2 * (E.length : Int) ∧ rt E (rd V v) = v ∧ 0 < rc E A (rd V v) ∧ -1 ≤ rd V (rf E (rd V v)) ∧ h (rf E (rd V v)) < h v)
/-- No edge with room leads out of what was come to. -/
def Dr (E : List S98) (A V : List Int) : Prop := ∀ i : Int, 0 ≤ i → i < 2 * (E.length : Int) → 0 < rc E A i → -1 ≤ rd V (rf E i) → rd V (rt E i) ≠ -2

theorem Tree.grow {n : Int} {E : List S98} (R : Right n E) {A V : List Int} {s : Int} {h : Int → Nat} (T : Tree n E A s V h) {i : Int} (h0 : 0 ≤ i) (h1 : i < 2 * (E.length : Int)) (c : 0 < rc E A i) (f : -1 ≤ rd V (rf E i)) (t : rd V (rt E i) = -2) (s0 : 0 ≤ s) (s1 : s < n) :
    ∃ h' : Int → Nat, Tree n E A s (V.set (rt E i).toNat i) h' ∧ un (V.set (rt E i).toNat i) < un V := by
  obtain ⟨f0, f1⟩ := JJ R h0 h1
  obtain ⟨t0, t1⟩ := Uc R h0 h1
  have hl := T.len
  have u : un (V.set (rt E i).toNat i) + 1 = un V := RA V _ i (by omega) t (by omega)
  have ts : rt E i ≠ s := fun e => by rw [e, T.src] at t; omega
  have rv : ∀ v : Int, 0 ≤ v → rd (V.set (rt E i).toNat i) v = if v = rt E i then i else rd V v := fun v v0 => mg _ _ _ _ t0 (by omega) v0
  have ft : rf E i ≠ rt E i := fun e => by rw [e] at f; omega
  refine ⟨fun v => if v = rt E i then h (rf E i) + 1 else h v, ⟨by rw [List.length_set]; exact hl, ?_, fun v => ?_, fun v v0 v1 => ?_⟩, by omega⟩
  · rw [rv s s0, if_neg (fun e => ts e.symm)]; exact T.src
  · show (if v = rt E i then h (rf E i) + 1 else h v) + _ ≤ _
    have a := T.top v
    have b := T.top (rf E i)
    split <;> omega
  · rw [rv v v0]
    by_cases q : v = rt E i
    · rw [if_pos q]
      refine Or.inr (Or.inr ⟨fun e => ts (q.symm.trans e), h0, h1, q.symm, c, ?_, ?_⟩)
      · rw [rv _ f0, if_neg ft]; exact f
      · show (if rf E i = rt E i then h (rf E i) + 1 else h (rf E i)) < (if v = rt E i then h (rf E i) + 1 else h v)
        rw [if_pos q, if_neg ft]; omega
    · rw [if_neg q]
      rcases T.el v v0 v1 with a | a | ⟨a1, a2, a3, a4, a5, a6, a7⟩
      · exact Or.inl a
      · exact Or.inr (Or.inl a)
      · obtain ⟨g0, g1⟩ := JJ R a2 a3
        have gt : rf E (rd V v) ≠ rt E i := fun e => by rw [e] at a6; omega
        refine Or.inr (Or.inr ⟨a1, a2, a3, a4, a5, ?_, ?_⟩)
        · rw [rv _ g0, if_neg gt]; exact a6
        · show (if rf E (rd V v) = rt E i then h (rf E i) + 1 else h (rf E (rd V v))) < (if v = rt E i then h (rf E i) + 1 else h v)
          rw [if_neg gt, if_neg q]; exact a7

/-- One round over the edges. -/
theorem Ud {n : Int} {E : List S98} (R : Right n E) {A : List Int} {s : Int} {X : List S98} (hX : zJ E A X) (s0 : 0 ≤ s) (s1 : s < n) (x7 : Int) (d : Nat) : ∀ (i : Nat) (V : List Int) (h : Int → Nat), i + d = 2 * E.length → Tree n E A s V h →
    ∃ (V' : List Int) (h' : Int → Nat), Tree n E A s V' h' ∧ ((V' = V ∧ ∀ j : Int, (i : Int) ≤ j → j < 2 * (E.length : Int) → 0 < rc E A j → -1 ≤ rd V (rf E j) → rd V (rt E j) ≠ -2) ∨ (un V' < un V ∧ ¬ Dr E A V)) ∧
      ∀ r, Evl (fun k => aI.l1 k V' (wrap64 (x7 + 1)) n X) r → Evl (fun k => aI.l2 k V x7 i n X) r := by
  have m1 := R.m1
  have hx := hX.len
  induction d with
  | zero =>
    intro i V h hi T
    refine ⟨V, h, T, Or.inl ⟨rfl, fun j j0 j1 => by omega⟩, fun r hr => hr.step fun k => by rw [aI.l2, if_neg (by omega)]⟩
  | succ d ih =>
    intro i V h hi T
    have hl := T.len
    have i0 : (0 : Int) ≤ i := by omega
    have i1 : (i : Int) < 2 * (E.length : Int) := by omega
    have g : (i : Int) < (X.length : Int) := by omega
    have id : i + 1 + d = 2 * E.length := by omega
    have w : wrap64 ((i : Int) + 1) = ((i + 1 : Nat) : Int) := by rw [w1 (by omega) (by omega)]; rfl
    obtain ⟨f0, f1⟩ := JJ R i0 i1
    obtain ⟨t0, t1⟩ := Uc R i0 i1
    rw [← hl] at f1 t1
    have xe := hX.el i i0 i1
    have x0 : (aa X i).f0 = rf E i := by rw [xe]
    have x1 : (aa X i).f1 = rt E i := by rw [xe]
    have x2 : (aa X i).f2 = rc E A i := by rw [xe]
    have stay : (0 < rc E A i → -1 ≤ rd V (rf E i) → rd V (rt E i) ≠ -2) → (∀ r k, aI.l2 k V x7 ((i + 1 : Nat) : Int) n X = r → aI.l2 (k + 1) V x7 i n X = r) →
        ∃ (V' : List Int) (h' : Int → Nat), Tree n E A s V' h' ∧ ((V' = V ∧ ∀ j : Int, (i : Int) ≤ j → j < 2 * (E.length : Int) → 0 < rc E A j → -1 ≤ rd V (rf E j) → rd V (rt E j) ≠ -2) ∨ (un V' < un V ∧ ¬ Dr E A V)) ∧
          ∀ r, Evl (fun k => aI.l1 k V' (wrap64 (x7 + 1)) n X) r → Evl (fun k => aI.l2 k V x7 i n X) r := by
      intro no st
      obtain ⟨V', h', a1, a2, a3⟩ := ih (i + 1) V h id T
      refine ⟨V', h', a1, ?_, fun r hr => (a3 r hr).step fun k => st _ k rfl⟩
      rcases a2 with ⟨b1, b2⟩ | b
      · refine Or.inl ⟨b1, fun j j0 j1 => ?_⟩
        by_cases q : j = i
        · rw [q]; exact no
        · exact b2 j (by rw [Int.natCast_add]; exact Int.lt_iff_add_one_le.mp (Int.lt_iff_le_and_ne.mpr ⟨j0, fun z => q z.symm⟩)) j1
      · exact Or.inr b
    by_cases c : rc E A i > 0
    · by_cases f : rd V (rf E i) ≥ -1
      · by_cases t : rd V (rt E i) = -2
        · obtain ⟨h1, T1, u1⟩ := T.grow R i0 i1 c f t s0 s1
          obtain ⟨V', h', a1, a2, a3⟩ := ih (i + 1) _ h1 id T1
          refine ⟨V', h', a1, Or.inr ⟨?_, fun z => z i i0 i1 c f t⟩, fun r hr => (a3 r hr).step fun k => ?_⟩
          · rcases a2 with ⟨b1, b2⟩ | b
            · rw [b1]; exact u1
            · exact Nat.lt_trans b.1 u1
          · rw [aI.l2, if_pos g, if_pos i0, x2, x0, x1, if_pos c, if_pos f0, if_pos f1, if_pos f, if_pos t0, if_pos t1, if_pos t, w]
        · exact stay (fun _ _ => t) fun r k e => by rw [aI.l2, if_pos g, if_pos i0, x2, x0, x1, if_pos c, if_pos f0, if_pos f1, if_pos f, if_pos t0, if_pos t1, if_neg t, w]; exact e
      · exact stay (fun _ z => absurd z f) fun r k e => by rw [aI.l2, if_pos g, if_pos i0, x2, x0, x1, if_pos c, if_pos f0, if_pos f1, if_neg f, w]; exact e
    · exact stay (fun z => absurd z c) fun r k e => by rw [aI.l2, if_pos g, if_pos i0, x2, x0, x1, if_neg c, w]; exact e

theorem Ue {n : Int} {E : List S98} (R : Right n E) {A : List Int} {s : Int} {X : List S98} (hX : zJ E A X) (s0 : 0 ≤ s) (s1 : s < n) (d : Nat) : ∀ (i : Nat) (V : List Int) (h : Int → Nat), ((i + d : Nat) : Int) = n → Tree n E A s V h → (un V ≤ d ∨ Dr E A V) →
    ∃ (V' : List Int) (h' : Int → Nat), Evl (fun k => aI.l1 k V i n X) V' ∧ Tree n E A s V' h' ∧ Dr E A V' := by
  have n1 := R.n1
  induction d with
  | zero =>
    intro i V h hi T u
    refine ⟨V, h, Evl.here fun k => by rw [aI.l1, if_neg (by omega)], T, ?_⟩
    rcases u with u | u
    · intro i i0 i1 _ _
      obtain ⟨t0, t1⟩ := Uc R i0 i1
      have hl := T.len
      exact RB V (by omega) _ (by omega)
    · exact u
  | succ d ih =>
    intro i V h hi T u
    obtain ⟨V1, h1, T1, a2, a3⟩ := Ud R hX s0 s1 i (2 * E.length) 0 V h (by omega) T
    have w : wrap64 ((i : Int) + 1) = ((i + 1 : Nat) : Int) := by rw [w1 (by omega) (by omega)]; rfl
    rw [w] at a3
    obtain ⟨V', h', b1, b2, b3⟩ := ih (i + 1) V1 h1 (by omega) T1 (by
      rcases a2 with ⟨c1, c2⟩ | ⟨c1, c2⟩
      · right; rw [c1]; exact fun j j0 j1 => c2 j (by omega) j1
      · rcases u with u | u
        · left; omega
        · exact absurd u c2)
    exact ⟨V', h', (a3 V' b1).step fun k => by rw [aI.l1, if_pos (by omega)]; rfl, b2, b3⟩

theorem H7 (m : Nat) : un (List.replicate m (-2)) = m := by
  induction m with
  | zero => rfl
  | succ m ih => rw [List.replicate_succ, un, ih, if_pos rfl]
theorem Uf {n s : Int} {X : List S98} (n1 : n ≤ 1024) (s0 : 0 ≤ s) (s1 : s < n) (d : Nat) : ∀ (i : Nat) (V : List Int), ((i + d : Nat) : Int) = n → (V.length : Int) = n → (∀ j : Int, 0 ≤ j → j < (i : Int) → rd V j = -2) →
    ∀ r, Evl (fun k => aI.l1 k ((List.replicate n.toNat (-2)).set s.toNat (-1)) 0 n X) r → Evl (fun k => aI.l0 k s V i n X) r := by
  induction d with
  | zero =>
    intro i V hi hV h r hr
    have e : V = List.replicate n.toNat (-2) := U4 _ _ (by rw [List.length_replicate]; omega) fun j j0 j1 => by rw [h j j0 (by omega), gT _ _ _ j0 (by omega)]
    refine hr.step fun k => ?_
    rw [aI.l0, if_neg (by omega), if_pos s0, if_pos (by omega), e]
  | succ d ih =>
    intro i V hi hV h r hr
    have w : wrap64 ((i : Int) + 1) = ((i + 1 : Nat) : Int) := by rw [w1 (by omega) (by omega)]; rfl
    refine (ih (i + 1) (V.set (i : Int).toNat (-2)) (by omega) (by rw [List.length_set]; exact hV) (fun j j0 j1 => ?_) r hr).step fun k => ?_
    · rw [mg _ _ _ _ (by omega) (by omega) j0]
      by_cases q : j = i
      · rw [if_pos q]
      · rw [if_neg q]; exact h j j0 (by omega)
    · rw [aI.l0, if_pos (by omega), if_pos (by omega), if_pos (by omega), w]
theorem ZX {n : Int} {E : List S98} (R : Right n E) {A : List Int} {s : Int} {X : List S98} (hX : zJ E A X) (s0 : 0 ≤ s) (s1 : s < n) :
    ∃ (V : List Int) (h : Int → Nat), Evl (fun k => aI.f k n X s) V ∧ Tree n E A s V h ∧ Dr E A V := by
  have n0 := R.n0
  have n1 := R.n1
  have hl : ((List.replicate n.toNat (-2 : Int)).length : Int) = n := by rw [List.length_replicate]; omega
  have rv : ∀ v : Int, 0 ≤ v → v < n → rd ((List.replicate n.toNat (-2 : Int)).set s.toNat (-1)) v = if v = s then -1 else -2 := fun v v0 v1 => by
    rw [mg _ _ _ _ s0 (by omega) v0, gT _ _ _ v0 (by omega)]
  have u : un ((List.replicate n.toNat (-2 : Int)).set s.toNat (-1)) + 1 = n.toNat := by
    rw [RA _ _ _ (by omega) ((gT _ _ _ s0 (by omega) : rd (List.replicate n.toNat (-2 : Int)) s = -2)) (by decide), H7]
  have T : Tree n E A s ((List.replicate n.toNat (-2 : Int)).set s.toNat (-1)) (fun _ => 0) := by
    refine ⟨by rw [List.length_set]; exact hl, by rw [rv s s0 s1, if_pos rfl], fun v => by omega, fun v v0 v1 => ?_⟩
    rw [rv v v0 v1]
    by_cases q : v = s
    · exact Or.inr (Or.inl ⟨q, if_pos q⟩)
    · exact Or.inl (if_neg q)
  obtain ⟨V, h, a1, a2, a3⟩ := Ue R hX s0 s1 n.toNat 0 _ _ (by omega) T (Or.inl (by omega))
  refine ⟨V, h, (Uf n1 s0 s1 n.toNat 0 (List.replicate n.toNat 0) (by omega) (by rw [List.length_replicate]; omega) (fun j j0 j1 => by omega) V a1).congr fun k => ?_, a2, a3⟩
  rw [aI.f, if_pos n0, if_pos (by omega)]; rfl
end Go.Proofs.Ytkdoihcjhccliaa.G
