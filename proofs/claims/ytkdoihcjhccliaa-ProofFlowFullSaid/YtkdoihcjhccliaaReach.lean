/- What can be come to along edges with room: a tree of ways. -/
import Derived.Test.YtkdoihcjhccliaaQ61
import Derived.Test.YtkdoihcjhccliaaRes
namespace Go.Proofs.Ytkdoihcjhccliaa.G
open Go.RowKit Go.Proofs.Ytkdoihcjhccliaa.Q Go.Proofs.YtkdoihcjhccliaaW.PrintWords Go.Proofs.YtkdoihcjhccliaaW.PrintLast
set_option linter.unusedVariables false

theorem rf_in {n : Int} {E : List S98} (R : Right n E) {i : Int} (h0 : 0 ≤ i) (h1 : i < 2 * (E.length : Int)) : 0 ≤ rf E i ∧ rf E i < n := by
  have e := R.e (i / 2) (by omega) (by omega)
  unfold rf; split
  · exact ⟨e.a0, e.a1⟩
  · exact ⟨e.b0, e.b1⟩
theorem rt_in {n : Int} {E : List S98} (R : Right n E) {i : Int} (h0 : 0 ≤ i) (h1 : i < 2 * (E.length : Int)) : 0 ≤ rt E i ∧ rt E i < n := by
  have e := R.e (i / 2) (by omega) (by omega)
  unfold rt; split
  · exact ⟨e.b0, e.b1⟩
  · exact ⟨e.a0, e.a1⟩

/-- How many nodes are not come to. -/
def un : List Int → Nat
  | [] => 0
  | x :: V => un V + (if x = -2 then 1 else 0)
theorem un_set : ∀ (V : List Int) (j : Nat) (x : Int), j < V.length → V.getD j 0 = -2 → x ≠ -2 → un (V.set j x) + 1 = un V
  | [], j, x, h, _, _ => by simp at h
  | y :: V, 0, x, _, h, hx => by
    have hy : y = -2 := h
    rw [List.set_cons_zero, un, un, if_neg hx, if_pos hy]
  | y :: V, j + 1, x, h, hj, hx => by
    have a := un_set V j x (by simpa using h) hj hx
    rw [List.set_cons_succ, un, un]; omega
theorem un_le : ∀ V : List Int, un V ≤ V.length
  | [] => Nat.le_refl _
  | y :: V => by have := un_le V; rw [un, List.length_cons]; split <;> omega
theorem un_zero : ∀ (V : List Int), un V = 0 → ∀ j : Nat, j < V.length → V.getD j 0 ≠ -2
  | [], _, j, h => by simp at h
  | y :: V, hu, 0, _ => by
    intro hy
    have hy' : y = -2 := hy
    rw [un, if_pos hy'] at hu; omega
  | y :: V, hu, j + 1, h => un_zero V (by rw [un] at hu; omega) j (by simpa using h)

/-- The nodes that were come to, each by an edge with room from one of a lesser height. -/
structure Tree (n : Int) (E : List S98) (A : List Int) (s : Int) (V : List Int) (h : Int → Nat) : Prop where
  len : (V.length : Int) = n
  src : rd V s = -1
  top : ∀ v, h v + un V ≤ n.toNat
  el : ∀ v : Int, 0 ≤ v → v < n → rd V v = -2 ∨ (v = s ∧ rd V v = -1) ∨ (v ≠ s ∧ 0 ≤ rd V v ∧ rd V v < 2 * (E.length : Int) ∧ rt E (rd V v) = v ∧ 0 < rc E A (rd V v) ∧ -1 ≤ rd V (rf E (rd V v)) ∧ h (rf E (rd V v)) < h v)
/-- No edge with room leads out of what was come to. -/
def Closed (E : List S98) (A V : List Int) : Prop := ∀ i : Int, 0 ≤ i → i < 2 * (E.length : Int) → 0 < rc E A i → -1 ≤ rd V (rf E i) → rd V (rt E i) ≠ -2

theorem Tree.grow {n : Int} {E : List S98} (R : Right n E) {A V : List Int} {s : Int} {h : Int → Nat} (T : Tree n E A s V h) {i : Int} (h0 : 0 ≤ i) (h1 : i < 2 * (E.length : Int)) (c : 0 < rc E A i) (f : -1 ≤ rd V (rf E i)) (t : rd V (rt E i) = -2) (s0 : 0 ≤ s) (s1 : s < n) :
    ∃ h' : Int → Nat, Tree n E A s (V.set (rt E i).toNat i) h' ∧ un (V.set (rt E i).toNat i) < un V := by
  obtain ⟨f0, f1⟩ := rf_in R h0 h1
  obtain ⟨t0, t1⟩ := rt_in R h0 h1
  have hl := T.len
  have u : un (V.set (rt E i).toNat i) + 1 = un V := un_set V _ i (by omega) t (by omega)
  have ts : rt E i ≠ s := fun e => by rw [e, T.src] at t; omega
  have rv : ∀ v : Int, 0 ≤ v → rd (V.set (rt E i).toNat i) v = if v = rt E i then i else rd V v := fun v v0 => rd_set _ _ _ _ t0 (by omega) v0
  have ft : rf E i ≠ rt E i := fun e => by rw [e] at f; omega
  refine ⟨fun v => if v = rt E i then h (rf E i) + 1 else h v, ⟨by rw [List.length_set]; exact hl, ?_, fun v => ?_, fun v v0 v1 => ?_⟩, by omega⟩
  · rw [rv s s0, if_neg (fun e => ts e.symm)]; exact T.src
  · show (if v = rt E i then h (rf E i) + 1 else h v) + _ ≤ _
    have a := T.top v
    have b := T.top (rf E i)
    split <;> omega
  · rw [rv v v0]
    by_cases q : v = rt E i
    · rw [if_pos q]
      refine Or.inr (Or.inr ⟨fun e => ts (q.symm.trans e), h0, h1, q.symm, c, ?_, ?_⟩)
      · rw [rv _ f0, if_neg ft]; exact f
      · show (if rf E i = rt E i then h (rf E i) + 1 else h (rf E i)) < (if v = rt E i then h (rf E i) + 1 else h v)
        rw [if_pos q, if_neg ft]; omega
    · rw [if_neg q]
      rcases T.el v v0 v1 with a | a | ⟨a1, a2, a3, a4, a5, a6, a7⟩
      · exact Or.inl a
      · exact Or.inr (Or.inl a)
      · obtain ⟨g0, g1⟩ := rf_in R a2 a3
        have gt : rf E (rd V v) ≠ rt E i := fun e => by rw [e] at a6; omega
        refine Or.inr (Or.inr ⟨a1, a2, a3, a4, a5, ?_, ?_⟩)
        · rw [rv _ g0, if_neg gt]; exact a6
        · show (if rf E (rd V v) = rt E i then h (rf E i) + 1 else h (rf E (rd V v))) < (if v = rt E i then h (rf E i) + 1 else h v)
          rw [if_neg gt, if_neg q]; exact a7

/-- One round over the edges. -/
theorem reach_l2 {n : Int} {E : List S98} (R : Right n E) {A : List Int} {s : Int} {X : List S98} (hX : Resid E A X) (s0 : 0 ≤ s) (s1 : s < n) (x7 : Int) (d : Nat) : ∀ (i : Nat) (V : List Int) (h : Int → Nat), i + d = 2 * E.length → Tree n E A s V h →
    ∃ (V' : List Int) (h' : Int → Nat), Tree n E A s V' h' ∧ ((V' = V ∧ ∀ j : Int, (i : Int) ≤ j → j < 2 * (E.length : Int) → 0 < rc E A j → -1 ≤ rd V (rf E j) → rd V (rt E j) ≠ -2) ∨ (un V' < un V ∧ ¬ Closed E A V)) ∧
      ∀ r, Evl (fun k => compassref11_reach.l1 k V' (wrap64 (x7 + 1)) n X) r → Evl (fun k => compassref11_reach.l2 k V x7 i n X) r := by
  have m1 := R.m1
  have hx := hX.len
  induction d with
  | zero =>
    intro i V h hi T
    refine ⟨V, h, T, Or.inl ⟨rfl, fun j j0 j1 => by omega⟩, fun r hr => hr.step fun k => by rw [compassref11_reach.l2, if_neg (by omega)]⟩
  | succ d ih =>
    intro i V h hi T
    have hl := T.len
    have i0 : (0 : Int) ≤ i := by omega
    have i1 : (i : Int) < 2 * (E.length : Int) := by omega
    have g : (i : Int) < (X.length : Int) := by omega
    have id : i + 1 + d = 2 * E.length := by omega
    have w : wrap64 ((i : Int) + 1) = ((i + 1 : Nat) : Int) := by rw [w1 (by omega) (by omega)]; rfl
    obtain ⟨f0, f1⟩ := rf_in R i0 i1
    obtain ⟨t0, t1⟩ := rt_in R i0 i1
    rw [← hl] at f1 t1
    have xe := hX.el i i0 i1
    have x0 : (rd_T98 X i).f0 = rf E i := by rw [xe]
    have x1 : (rd_T98 X i).f1 = rt E i := by rw [xe]
    have x2 : (rd_T98 X i).f2 = rc E A i := by rw [xe]
    have stay : (0 < rc E A i → -1 ≤ rd V (rf E i) → rd V (rt E i) ≠ -2) → (∀ r k, compassref11_reach.l2 k V x7 ((i + 1 : Nat) : Int) n X = r → compassref11_reach.l2 (k + 1) V x7 i n X = r) →
        ∃ (V' : List Int) (h' : Int → Nat), Tree n E A s V' h' ∧ ((V' = V ∧ ∀ j : Int, (i : Int) ≤ j → j < 2 * (E.length : Int) → 0 < rc E A j → -1 ≤ rd V (rf E j) → rd V (rt E j) ≠ -2) ∨ (un V' < un V ∧ ¬ Closed E A V)) ∧
          ∀ r, Evl (fun k => compassref11_reach.l1 k V' (wrap64 (x7 + 1)) n X) r → Evl (fun k => compassref11_reach.l2 k V x7 i n X) r := by
      intro no st
      obtain ⟨V', h', a1, a2, a3⟩ := ih (i + 1) V h id T
      refine ⟨V', h', a1, ?_, fun r hr => (a3 r hr).step fun k => st _ k rfl⟩
      rcases a2 with ⟨b1, b2⟩ | b
      · refine Or.inl ⟨b1, fun j j0 j1 => ?_⟩
        by_cases q : j = i
        · rw [q]; exact no
        · exact b2 j (by rw [Int.natCast_add]; exact Int.lt_iff_add_one_le.mp (Int.lt_iff_le_and_ne.mpr ⟨j0, fun z => q z.symm⟩)) j1
      · exact Or.inr b
    by_cases c : rc E A i > 0
    · by_cases f : rd V (rf E i) ≥ -1
      · by_cases t : rd V (rt E i) = -2
        · obtain ⟨h1, T1, u1⟩ := T.grow R i0 i1 c f t s0 s1
          obtain ⟨V', h', a1, a2, a3⟩ := ih (i + 1) _ h1 id T1
          refine ⟨V', h', a1, Or.inr ⟨?_, fun z => z i i0 i1 c f t⟩, fun r hr => (a3 r hr).step fun k => ?_⟩
          · rcases a2 with ⟨b1, b2⟩ | b
            · rw [b1]; exact u1
            · exact Nat.lt_trans b.1 u1
          · rw [compassref11_reach.l2, if_pos g, if_pos i0, x2, x0, x1, if_pos c, if_pos f0, if_pos f1, if_pos f, if_pos t0, if_pos t1, if_pos t, w]
        · exact stay (fun _ _ => t) fun r k e => by rw [compassref11_reach.l2, if_pos g, if_pos i0, x2, x0, x1, if_pos c, if_pos f0, if_pos f1, if_pos f, if_pos t0, if_pos t1, if_neg t, w]; exact e
      · exact stay (fun _ z => absurd z f) fun r k e => by rw [compassref11_reach.l2, if_pos g, if_pos i0, x2, x0, x1, if_pos c, if_pos f0, if_pos f1, if_neg f, w]; exact e
    · exact stay (fun z => absurd z c) fun r k e => by rw [compassref11_reach.l2, if_pos g, if_pos i0, x2, x0, x1, if_neg c, w]; exact e

theorem reach_l1 {n : Int} {E : List S98} (R : Right n E) {A : List Int} {s : Int} {X : List S98} (hX : Resid E A X) (s0 : 0 ≤ s) (s1 : s < n) (d : Nat) : ∀ (i : Nat) (V : List Int) (h : Int → Nat), ((i + d : Nat) : Int) = n → Tree n E A s V h → (un V ≤ d ∨ Closed E A V) →
    ∃ (V' : List Int) (h' : Int → Nat), Evl (fun k => compassref11_reach.l1 k V i n X) V' ∧ Tree n E A s V' h' ∧ Closed E A V' := by
  have n1 := R.n1
  induction d with
  | zero =>
    intro i V h hi T u
    refine ⟨V, h, Evl.here fun k => by rw [compassref11_reach.l1, if_neg (by omega)], T, ?_⟩
    rcases u with u | u
    · intro i i0 i1 _ _
      obtain ⟨t0, t1⟩ := rt_in R i0 i1
      have hl := T.len
      exact un_zero V (by omega) _ (by omega)
    · exact u
  | succ d ih =>
    intro i V h hi T u
    obtain ⟨V1, h1, T1, a2, a3⟩ := reach_l2 R hX s0 s1 i (2 * E.length) 0 V h (by omega) T
    have w : wrap64 ((i : Int) + 1) = ((i + 1 : Nat) : Int) := by rw [w1 (by omega) (by omega)]; rfl
    rw [w] at a3
    obtain ⟨V', h', b1, b2, b3⟩ := ih (i + 1) V1 h1 (by omega) T1 (by
      rcases a2 with ⟨c1, c2⟩ | ⟨c1, c2⟩
      · right; rw [c1]; exact fun j j0 j1 => c2 j (by omega) j1
      · rcases u with u | u
        · left; omega
        · exact absurd u c2)
    exact ⟨V', h', (a3 V' b1).step fun k => by rw [compassref11_reach.l1, if_pos (by omega)]; rfl, b2, b3⟩

theorem un_replicate (m : Nat) : un (List.replicate m (-2)) = m := by
  induction m with
  | zero => rfl
  | succ m ih => rw [List.replicate_succ, un, ih, if_pos rfl]
theorem reach_l0 {n s : Int} {X : List S98} (n1 : n ≤ 1024) (s0 : 0 ≤ s) (s1 : s < n) (d : Nat) : ∀ (i : Nat) (V : List Int), ((i + d : Nat) : Int) = n → (V.length : Int) = n → (∀ j : Int, 0 ≤ j → j < (i : Int) → rd V j = -2) →
    ∀ r, Evl (fun k => compassref11_reach.l1 k ((List.replicate n.toNat (-2)).set s.toNat (-1)) 0 n X) r → Evl (fun k => compassref11_reach.l0 k s V i n X) r := by
  induction d with
  | zero =>
    intro i V hi hV h r hr
    have e : V = List.replicate n.toNat (-2) := ext_rd _ _ (by rw [List.length_replicate]; omega) fun j j0 j1 => by rw [h j j0 (by omega), rd_replicate _ _ _ j0 (by omega)]
    refine hr.step fun k => ?_
    rw [compassref11_reach.l0, if_neg (by omega), if_pos s0, if_pos (by omega), e]
  | succ d ih =>
    intro i V hi hV h r hr
    have w : wrap64 ((i : Int) + 1) = ((i + 1 : Nat) : Int) := by rw [w1 (by omega) (by omega)]; rfl
    refine (ih (i + 1) (V.set (i : Int).toNat (-2)) (by omega) (by rw [List.length_set]; exact hV) (fun j j0 j1 => ?_) r hr).step fun k => ?_
    · rw [rd_set _ _ _ _ (by omega) (by omega) j0]
      by_cases q : j = i
      · rw [if_pos q]
      · rw [if_neg q]; exact h j j0 (by omega)
    · rw [compassref11_reach.l0, if_pos (by omega), if_pos (by omega), if_pos (by omega), w]
theorem reach_f {n : Int} {E : List S98} (R : Right n E) {A : List Int} {s : Int} {X : List S98} (hX : Resid E A X) (s0 : 0 ≤ s) (s1 : s < n) :
    ∃ (V : List Int) (h : Int → Nat), Evl (fun k => compassref11_reach.f k n X s) V ∧ Tree n E A s V h ∧ Closed E A V := by
  have n0 := R.n0
  have n1 := R.n1
  have hl : ((List.replicate n.toNat (-2 : Int)).length : Int) = n := by rw [List.length_replicate]; omega
  have rv : ∀ v : Int, 0 ≤ v → v < n → rd ((List.replicate n.toNat (-2 : Int)).set s.toNat (-1)) v = if v = s then -1 else -2 := fun v v0 v1 => by
    rw [rd_set _ _ _ _ s0 (by omega) v0, rd_replicate _ _ _ v0 (by omega)]
  have u : un ((List.replicate n.toNat (-2 : Int)).set s.toNat (-1)) + 1 = n.toNat := by
    rw [un_set _ _ _ (by omega) ((rd_replicate _ _ _ s0 (by omega) : rd (List.replicate n.toNat (-2 : Int)) s = -2)) (by decide), un_replicate]
  have T : Tree n E A s ((List.replicate n.toNat (-2 : Int)).set s.toNat (-1)) (fun _ => 0) := by
    refine ⟨by rw [List.length_set]; exact hl, by rw [rv s s0 s1, if_pos rfl], fun v => by omega, fun v v0 v1 => ?_⟩
    rw [rv v v0 v1]
    by_cases q : v = s
    · exact Or.inr (Or.inl ⟨q, if_pos q⟩)
    · exact Or.inl (if_neg q)
  obtain ⟨V, h, a1, a2, a3⟩ := reach_l1 R hX s0 s1 n.toNat 0 _ _ (by omega) T (Or.inl (by omega))
  refine ⟨V, h, (reach_l0 n1 s0 s1 n.toNat 0 (List.replicate n.toNat 0) (by omega) (by rw [List.length_replicate]; omega) (fun j j0 j1 => by omega) V a1).congr fun k => ?_, a2, a3⟩
  rw [compassref11_reach.f, if_pos n0, if_pos (by omega)]; rfl
end Go.Proofs.Ytkdoihcjhccliaa.G
