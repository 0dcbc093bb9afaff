/- Words for the chapter on walks: what rounds come to, reads behind a write, and right graphs. -/
import Derived.Test.YtpmclhkednehhaaQ0
import Derived.Test.YtpmclhkednehhaaQ10
import Derived.Test.YtpmclhkednehhaaQ11
import Derived.Test.YtpmclhkednehhaaQ2
import Derived.Test.YtpmclhkednehhaaQ3
namespace Go.Proofs.Ytpmclhkednehhaa.G
open Go.RowKit Go.Proofs.Ytpmclhkednehhaa.Q Go.Proofs.YtpmclhkednehhaaW.PrintWords Go.Proofs.YtpmclhkednehhaaW.PrintLast
set_option linter.unusedVariables false

/-- With enough rounds the answer is r. -/
def Evl {α : Type} (g : Nat → Option α) (r : α) : Prop := ∃ K, ∀ k, K ≤ k → g k = some r

section
variable {α β : Type}
theorem Evl.step {g h : Nat → Option α} {r : α} (H : Evl h r) (e : ∀ k, g (k + 1) = h k) : Evl g r := by
  obtain ⟨K, hK⟩ := H
  refine ⟨K + 1, fun k hk => ?_⟩
  obtain ⟨m, rfl⟩ : ∃ m, k = m + 1 := ⟨k - 1, by omega⟩
  rw [e]; exact hK m (by omega)
theorem Evl.here {g : Nat → Option α} {r : α} (e : ∀ k, g (k + 1) = some r) : Evl g r := by
  refine ⟨1, fun k hk => ?_⟩
  obtain ⟨m, rfl⟩ : ∃ m, k = m + 1 := ⟨k - 1, by omega⟩
  exact e m
theorem Evl.pure {r : α} : Evl (fun _ => some r) r := ⟨0, fun _ _ => rfl⟩
theorem Evl.congr {g h : Nat → Option α} {r : α} (H : Evl h r) (e : ∀ k, g k = h k) : Evl g r := by
  obtain ⟨K, hK⟩ := H
  exact ⟨K, fun k hk => by rw [e]; exact hK k hk⟩
theorem Evl.bind {g : Nat → Option α} {h : Nat → α → Option β} {a : α} {r : β} (G : Evl g a) (H : Evl (fun k => h k a) r) : Evl (fun k => (g k).bind (h k)) r := by
  obtain ⟨K, hK⟩ := G
  obtain ⟨L, hL⟩ := H
  exact ⟨max K L, fun k hk => by show (g k).bind (h k) = some r; rw [hK k (by omega), Option.bind_some]; exact hL k (by omega)⟩
theorem Evl.at {g : Nat → Option α} {r : α} (H : Evl g r) : ∃ k, g k = some r := by
  obtain ⟨K, hK⟩ := H
  exact ⟨K, hK K (Nat.le_refl _)⟩
theorem Evl.mono {g : Nat → Option α} {r : α} {k0 : Nat} (h : g k0 = some r) (m : ∀ k, LeO (g k) (g (k + 1))) : Evl g r := by
  refine ⟨k0, fun k hk => ?_⟩
  obtain ⟨d, rfl⟩ : ∃ d, k = k0 + d := ⟨k - k0, by omega⟩
  clear hk
  induction d with
  | zero => exact h
  | succ d ih => exact m _ _ ih
theorem Evl.eq {g : Nat → Option α} {r s : α} (H : Evl g r) (J : Evl g s) : r = s := by
  obtain ⟨K, hK⟩ := H
  obtain ⟨L, hL⟩ := J
  have := hK (max K L) (by omega)
  rw [hL (max K L) (by omega)] at this
  exact (Option.some.inj this).symm
end

section
variable {α : Type}
theorem getD_set (l : List α) (d x : α) (i j : Nat) (h : i < l.length) : (l.set i x).getD j d = if j = i then x else l.getD j d := by
  by_cases e : j = i
  · subst e; rw [if_pos rfl]; simp [List.getD, h]
  · rw [if_neg e]; simp [List.getD, List.getElem?_set_ne (fun a => e a.symm)]
theorem getD_append (l m : List α) (d : α) (j : Nat) : (l ++ m).getD j d = if j < l.length then l.getD j d else m.getD (j - l.length) d := by
  by_cases e : j < l.length
  · rw [if_pos e]; simp [List.getD, List.getElem?_append_left e]
  · rw [if_neg e]; simp [List.getD, List.getElem?_append_right (Nat.le_of_not_lt e)]
theorem getD_mem (l : List α) (d : α) (j : Nat) (h : j < l.length) : l.getD j d ∈ l := by
  rw [List.getD_eq_getElem?_getD, List.getElem?_eq_getElem h]; exact List.getElem_mem h
theorem getD_replicate (n : Nat) (x d : α) (j : Nat) (h : j < n) : (List.replicate n x).getD j d = x := by
  simp [List.getD, h]
theorem ext_getD (l m : List α) (d : α) (hl : l.length = m.length) (h : ∀ j, j < l.length → l.getD j d = m.getD j d) : l = m := by
  apply List.ext_getElem hl
  intro j h1 h2
  have := h j h1
  rwa [List.getD_eq_getElem?_getD, List.getD_eq_getElem?_getD, List.getElem?_eq_getElem h1, List.getElem?_eq_getElem h2] at this
end

theorem rd_set (l : List Int) (x i j : Int) (h0 : 0 ≤ i) (h : i < (l.length : Int)) (hj : 0 ≤ j) : rd (l.set i.toNat x) j = if j = i then x else rd l j := by
  unfold rd
  rw [getD_set l 0 x i.toNat j.toNat (by omega)]
  by_cases e : j = i
  · rw [if_pos e, if_pos (by rw [e])]
  · rw [if_neg e, if_neg (by omega)]
theorem rdOf_set {α : Type} (d : α) (l : List α) (x : α) (i j : Int) (h0 : 0 ≤ i) (h : i < (l.length : Int)) (hj : 0 ≤ j) : rdOf d (l.set i.toNat x) j = if j = i then x else rdOf d l j := by
  unfold rdOf
  rw [getD_set l d x i.toNat j.toNat (by omega)]
  by_cases e : j = i
  · rw [if_pos e, if_pos (by rw [e])]
  · rw [if_neg e, if_neg (by omega)]
theorem rd_mem (l : List Int) (j : Int) (h0 : 0 ≤ j) (h : j < (l.length : Int)) : rd l j ∈ l := getD_mem l 0 j.toNat (by omega)
theorem rd_replicate (n : Nat) (x j : Int) (h0 : 0 ≤ j) (h : j < (n : Int)) : rd (List.replicate n x) j = x := getD_replicate n x 0 j.toNat (by omega)
theorem rdOf_replicate {α : Type} (n : Nat) (x d : α) (j : Int) (h0 : 0 ≤ j) (h : j < (n : Int)) : rdOf d (List.replicate n x) j = x := getD_replicate n x d j.toNat (by omega)
theorem rd_append (l m : List Int) (j : Int) (h0 : 0 ≤ j) : rd (l ++ m) j = if j < (l.length : Int) then rd l j else rd m (j - l.length) := by
  unfold rd
  rw [getD_append]
  by_cases e : j < (l.length : Int)
  · rw [if_pos e, if_pos (by omega)]
  · rw [if_neg e, if_neg (by omega)]; congr 1; omega
theorem ext_rd (l m : List Int) (hl : l.length = m.length) (h : ∀ j : Int, 0 ≤ j → j < (l.length : Int) → rd l j = rd m j) : l = m := by
  refine ext_getD l m 0 hl fun j hj => ?_
  have := h (j : Int) (by omega) (by omega)
  unfold rd at this
  simpa using this
theorem mem_rd {l : List Int} {x : Int} (h : x ∈ l) : ∃ j : Int, 0 ≤ j ∧ j < (l.length : Int) ∧ rd l j = x := by
  obtain ⟨j, hj, e⟩ := List.mem_iff_getElem.mp h
  refine ⟨(j : Int), by omega, by omega, ?_⟩
  unfold rd
  rw [List.getD_eq_getElem?_getD, show ((j : Int).toNat) = j by omega, List.getElem?_eq_getElem hj]
  exact e

theorem w1 {i : Int} (h0 : -1000000000000000 ≤ i) (h : i ≤ 1000000000000000) : wrap64 (i + 1) = i + 1 := by
  unfold wrap64; omega
theorem wm {i : Int} (h0 : -1000000000000000 ≤ i) (h : i ≤ 1000000000000000) : wrap64 (i - 1) = i - 1 := by
  unfold wrap64; omega

/-- A right edge between n nodes. -/
structure RightE (n : Int) (e : S39) : Prop where
  a0 : 0 ≤ e.f0
  a1 : e.f0 < n
  b0 : 0 ≤ e.f1
  b1 : e.f1 < n
  c0 : 0 ≤ e.f2
  c1 : e.f2 ≤ 1048576
  d0 : -1048576 ≤ e.f3
  d1 : e.f3 ≤ 1048576

/-- A right graph. -/
structure Right (n : Int) (E : List S39) : Prop where
  n0 : 0 ≤ n
  n1 : n ≤ 1024
  m1 : (E.length : Int) ≤ 4096
  e : ∀ i : Int, 0 ≤ i → i < (E.length : Int) → RightE n (rd_T39 E i)

theorem label_f (e : S39) : graph_label.f e.f0 e.f1 e.f2 e.f3 = some (decide (0 ≤ e.f2 ∧ e.f2 ≤ 1048576 ∧ -1048576 ≤ e.f3 ∧ e.f3 ≤ 1048576)) := by
  unfold graph_label.f
  by_cases h1 : e.f2 ≥ 0
  · rw [if_pos h1]
    by_cases h2 : e.f2 ≤ 1048576
    · rw [if_pos h2]
      by_cases h3 : e.f3 ≥ -1048576
      · rw [if_pos h3]; congr 1
        exact decide_eq_decide.mpr ⟨fun h => ⟨h1, h2, h3, h⟩, fun h => h.2.2.2⟩
      · rw [if_neg h3]; congr 1
        exact (decide_eq_false (by omega)).symm
    · rw [if_neg h2]; congr 1
      exact (decide_eq_false (by omega)).symm
  · rw [if_neg h1]; congr 1
    exact (decide_eq_false (by omega)).symm

/-- The number of what is wrong with an edge. -/
def badE (n : Int) (e : S39) : Int := if e.f0 < 0 ∨ e.f0 ≥ n ∨ e.f1 < 0 ∨ e.f1 ≥ n then 30 else if 0 ≤ e.f2 ∧ e.f2 ≤ 1048576 ∧ -1048576 ≤ e.f3 ∧ e.f3 ≤ 1048576 then 0 else 31

theorem badE_zero {n : Int} {e : S39} (h : badE n e = 0) : RightE n e := by
  unfold badE at h
  by_cases h1 : e.f0 < 0 ∨ e.f0 ≥ n ∨ e.f1 < 0 ∨ e.f1 ≥ n
  · rw [if_pos h1] at h; omega
  · rw [if_neg h1] at h
    by_cases h2 : 0 ≤ e.f2 ∧ e.f2 ≤ 1048576 ∧ -1048576 ≤ e.f3 ∧ e.f3 ≤ 1048576
    · constructor <;> omega
    · rw [if_neg h2] at h; omega
theorem badE_of {n : Int} {e : S39} (h : RightE n e) : badE n e = 0 := by
  obtain ⟨a0, a1, b0, b1, c0, c1, d0, d1⟩ := h
  unfold badE
  rw [if_neg (by omega), if_pos (by omega)]

theorem bad_f (n : Int) (e : S39) : Evl (fun k => compassref03_Bad.f k n e.f0 e.f1 e.f2 e.f3) (badE n e) := by
  have tail : Evl (fun k => compassref03_Bad.j0 k false e.f0 e.f1 e.f2 e.f3) (if 0 ≤ e.f2 ∧ e.f2 ≤ 1048576 ∧ -1048576 ≤ e.f3 ∧ e.f3 ≤ 1048576 then 0 else 31) := by
    refine Evl.here fun k => ?_
    rw [compassref03_Bad.j0, if_neg (by simp)]
    by_cases h1 : e.f2 < 0
    · rw [if_pos h1, if_neg (by omega)]
    · rw [if_neg h1]
      by_cases h2 : e.f2 > 1048576
      · rw [if_pos h2, if_neg (by omega)]
      · rw [if_neg h2]
        by_cases h3 : e.f3 < -1048576
        · rw [if_pos h3, if_neg (by omega)]
        · rw [if_neg h3]
          by_cases h4 : e.f3 > 1048576
          · rw [if_pos h4, if_neg (by omega)]
          · rw [if_neg h4, if_pos (by omega)]
  have yes : Evl (fun k => compassref03_Bad.j0 k true e.f0 e.f1 e.f2 e.f3) 30 := Evl.here fun k => by rw [compassref03_Bad.j0, if_pos rfl]
  unfold badE
  by_cases h1 : e.f0 < 0
  · rw [if_pos (by omega)]; exact yes.congr fun k => by rw [compassref03_Bad.f, if_pos h1]
  · by_cases h2 : e.f1 < 0
    · rw [if_pos (by omega)]; exact yes.congr fun k => by rw [compassref03_Bad.f, if_neg h1, if_pos h2]
    · by_cases h3 : e.f0 ≥ n
      · rw [if_pos (by omega)]; exact yes.congr fun k => by rw [compassref03_Bad.f, if_neg h1, if_neg h2, if_pos h3]
      · by_cases h4 : e.f1 ≥ n
        · rw [if_pos (by omega)]; exact yes.congr fun k => by rw [compassref03_Bad.f, if_neg h1, if_neg h2, if_neg h3, decide_eq_true h4]
        · rw [if_neg (by omega)]; exact tail.congr fun k => by rw [compassref03_Bad.f, if_neg h1, if_neg h2, if_neg h3, decide_eq_false h4]

theorem chk_j2 (n : Int) (E : List S39) (i : Int) (e : S39) (b : Bool) (r : Int × Int)
    (hb : b = decide (e.f0 < 0 ∨ e.f0 ≥ n ∨ e.f1 < 0 ∨ e.f1 ≥ n)) (h0 : badE n e = 0 → Evl (fun k => graph_Check.l0 k E (E.length : Int) (wrap64 (i + 1)) n E) r) (h1 : badE n e ≠ 0 → r = (badE n e, i)) :
    Evl (fun k => graph_Check.j2 k i E (E.length : Int) i b n E e.f0 e.f1 e.f2 e.f3) r := by
  unfold badE at h0 h1
  by_cases c : e.f0 < 0 ∨ e.f0 ≥ n ∨ e.f1 < 0 ∨ e.f1 ≥ n
  · rw [if_pos c] at h1
    rw [decide_eq_true c] at hb
    rw [h1 (by decide), hb]
    exact Evl.here fun k => by rw [graph_Check.j2, if_pos rfl]
  · rw [if_neg c] at h0 h1
    rw [decide_eq_false c] at hb
    subst hb
    by_cases c2 : 0 ≤ e.f2 ∧ e.f2 ≤ 1048576 ∧ -1048576 ≤ e.f3 ∧ e.f3 ≤ 1048576
    · rw [if_pos c2] at h0
      refine (h0 rfl).step fun k => ?_
      rw [graph_Check.j2, if_neg (by simp), label_f, Option.bind_some, if_pos (decide_eq_true c2)]
    · rw [if_neg c2] at h1
      rw [h1 (by decide)]
      refine Evl.here fun k => ?_
      rw [graph_Check.j2, if_neg (by simp), label_f, Option.bind_some, decide_eq_false c2, if_neg (by simp)]

theorem chk_l0 (n : Int) (E : List S39) (hm : (E.length : Int) ≤ 4096) (d : Nat) : ∀ i : Int, 0 ≤ i → i + d = (E.length : Int) → ∃ r : Int × Int,
    Evl (fun k => graph_Check.l0 k E (E.length : Int) i n E) r ∧ Evl (fun k => compassref03_Check.l0 k i n E) r ∧
    (r.1 = 0 → r.2 = 0 ∧ ∀ j : Int, i ≤ j → j < (E.length : Int) → RightE n (rd_T39 E j)) ∧ (r.1 = 0 ∨ r.1 = 30 ∨ r.1 = 31) ∧ ((∀ j : Int, i ≤ j → j < (E.length : Int) → RightE n (rd_T39 E j)) → r.1 = 0) := by
  induction d with
  | zero =>
    intro i h0 hi
    have g : ¬ i < (E.length : Int) := by omega
    refine ⟨(0, 0), Evl.here fun k => ?_, Evl.here fun k => ?_, fun _ => ⟨rfl, fun j h1 h2 => by omega⟩, Or.inl rfl, fun _ => rfl⟩
    · rw [graph_Check.l0, if_neg g]
    · rw [compassref03_Check.l0, if_neg g]
  | succ d ih =>
    intro i h0 hi
    have g : i < (E.length : Int) := by omega
    have w : wrap64 (i + 1) = i + 1 := w1 (by omega) (by omega)
    have two : ∀ r : Int × Int, (badE n (rd_T39 E i) = 0 → Evl (fun k => graph_Check.l0 k E (E.length : Int) (wrap64 (i + 1)) n E) r ∧ Evl (fun k => compassref03_Check.l0 k (wrap64 (i + 1)) n E) r) → (badE n (rd_T39 E i) ≠ 0 → r = (badE n (rd_T39 E i), i)) →
        Evl (fun k => graph_Check.l0 k E (E.length : Int) i n E) r ∧ Evl (fun k => compassref03_Check.l0 k i n E) r := by
      intro r hz hn
      constructor
      · by_cases c1 : (rd_T39 E i).f0 < 0
        · refine (chk_j2 n E i (rd_T39 E i) true r (decide_eq_true (by omega)).symm (fun h => (hz h).1) hn).step fun k => ?_
          rw [graph_Check.l0, if_pos g, if_pos h0, if_pos g, if_pos c1]
        · by_cases c2 : (rd_T39 E i).f0 ≥ n
          · refine (chk_j2 n E i (rd_T39 E i) true r (decide_eq_true (by omega)).symm (fun h => (hz h).1) hn).step fun k => ?_
            rw [graph_Check.l0, if_pos g, if_pos h0, if_pos g, if_neg c1, if_pos c2]
          · by_cases c3 : (rd_T39 E i).f1 < 0
            · refine (chk_j2 n E i (rd_T39 E i) true r (decide_eq_true (by omega)).symm (fun h => (hz h).1) hn).step fun k => ?_
              rw [graph_Check.l0, if_pos g, if_pos h0, if_pos g, if_neg c1, if_neg c2, if_pos c3]
            · refine (chk_j2 n E i (rd_T39 E i) (decide ((rd_T39 E i).f1 ≥ n)) r (decide_eq_decide.mpr (by omega)) (fun h => (hz h).1) hn).step fun k => ?_
              rw [graph_Check.l0, if_pos g, if_pos h0, if_pos g, if_neg c1, if_neg c2, if_neg c3]
      · by_cases z : badE n (rd_T39 E i) = 0
        · have B := bad_f n (rd_T39 E i)
          rw [z] at B
          refine (Evl.bind (h := fun k t => if t = 0 then compassref03_Check.l0 k (wrap64 (i + 1)) n E else some (t, i)) B (r := r) ?_).step fun k => ?_
          · exact (hz z).2.congr fun k => by rw [if_pos rfl]
          · rw [compassref03_Check.l0, if_pos g, if_pos h0]
        · have B := bad_f n (rd_T39 E i)
          rw [hn z]
          refine (Evl.bind (h := fun k t => if t = 0 then compassref03_Check.l0 k (wrap64 (i + 1)) n E else some (t, i)) B (r := (badE n (rd_T39 E i), i)) ?_).step fun k => ?_
          · exact Evl.pure.congr fun k => by rw [if_neg z]
          · rw [compassref03_Check.l0, if_pos g, if_pos h0]
    by_cases z : badE n (rd_T39 E i) = 0
    · obtain ⟨r, e1, e2, hz, ho, hr⟩ := ih (i + 1) (by omega) (by omega)
      obtain ⟨a, b⟩ := two r (fun _ => by rw [w]; exact ⟨e1, e2⟩) (fun h => absurd z h)
      refine ⟨r, a, b, fun h => ⟨(hz h).1, fun j h1 h2 => ?_⟩, ho, fun h => hr fun j h1 h2 => h j (by omega) h2⟩
      by_cases q : j = i
      · rw [q]; exact badE_zero z
      · exact (hz h).2 j (by omega) h2
    · obtain ⟨a, b⟩ := two (badE n (rd_T39 E i), i) (fun h => absurd h z) (fun _ => rfl)
      refine ⟨_, a, b, fun h => absurd h z, ?_, fun h => badE_of (h i (Int.le_refl _) g)⟩
      show badE n (rd_T39 E i) = 0 ∨ badE n (rd_T39 E i) = 30 ∨ badE n (rd_T39 E i) = 31
      unfold badE
      split
      · exact Or.inr (Or.inl rfl)
      · split
        · exact Or.inl rfl
        · exact Or.inr (Or.inr rfl)

/-- Both looks at a graph tell the same fault; none: the graph is right. -/
theorem check_f (n : Int) (E : List S39) : ∃ c a : Int, Evl (fun k => graph_Check.f k n E) (c, a) ∧ Evl (fun k => compassref03_Check.f k n E) (c, a) ∧ (c = 0 → a = 0 ∧ Right n E) ∧ (c = 0 ∨ c = 3 ∨ c = 30 ∨ c = 31) ∧ (Right n E → c = 0) := by
  have yes : Evl (fun k => graph_Check.j0 k true n E) (3, 0) := Evl.here fun k => by rw [graph_Check.j0, if_pos rfl]
  have yes' : Evl (fun k => compassref03_Check.j0 k true n E) (3, 0) := Evl.here fun k => by rw [compassref03_Check.j0, if_pos rfl]
  by_cases h1 : n < 0
  · exact ⟨3, 0, yes.congr fun k => by rw [graph_Check.f, if_pos h1], yes'.congr fun k => by rw [compassref03_Check.f, if_pos h1], by omega, by omega, fun h => absurd h.n0 (by omega)⟩
  · by_cases h2 : n > 1024
    · exact ⟨3, 0, yes.congr fun k => by rw [graph_Check.f, if_neg h1, if_pos h2], yes'.congr fun k => by rw [compassref03_Check.f, if_neg h1, if_pos h2], by omega, by omega, fun h => absurd h.n1 (by omega)⟩
    · by_cases h3 : (E.length : Int) > 4096
      · exact ⟨3, 0, yes.congr fun k => by rw [graph_Check.f, if_neg h1, if_neg h2, decide_eq_true h3], yes'.congr fun k => by rw [compassref03_Check.f, if_neg h1, if_neg h2, decide_eq_true h3], by omega, by omega, fun h => absurd h.m1 (by omega)⟩
      · obtain ⟨⟨c, a⟩, e1, e2, hz, ho, hr⟩ := chk_l0 n E (by omega) E.length 0 (by omega) (by omega)
        refine ⟨c, a, ?_, ?_, fun h => ⟨(hz h).1, by omega, by omega, by omega, fun i a b => (hz h).2 i a b⟩, by simp only at ho; omega, fun h => hr fun j a b => h.e j a b⟩
        · refine (e1.step (g := fun k => graph_Check.j0 k false n E) fun k => ?_).congr fun k => ?_
          · rw [graph_Check.j0, if_neg (by simp)]
          · rw [graph_Check.f, if_neg h1, if_neg h2, decide_eq_false h3]
        · refine (e2.step (g := fun k => compassref03_Check.j0 k false n E) fun k => ?_).congr fun k => ?_
          · rw [compassref03_Check.j0, if_neg (by simp)]
          · rw [compassref03_Check.f, if_neg h1, if_neg h2, decide_eq_false h3]

end Go.Proofs.Ytpmclhkednehhaa.G
