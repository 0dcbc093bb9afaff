/- Parts: nodes of one part lie in the same closed sets; all nodes have a part. -/
import Derived.Test.YtplbkggdnonfbaaQ5
import Derived.Test.YtplbkggdnonfbaaQ6
import Derived.Test.YtplbkggdnonfbaaNegs
namespace Go.Proofs.Ytplbkggdnonfbaa.G
open Go.RowKit Go.Proofs.Ytplbkggdnonfbaa.Q Go.Proofs.YtplbkggdnonfbaaW.PrintWords Go.Proofs.YtplbkggdnonfbaaW.PrintLast
set_option linter.unusedVariables false

/-- A set of nodes that no edge leaves or enters. -/
def Closed (E : List S45) (X : Int → Prop) : Prop := ∀ i, 0 ≤ i → i < (E.length : Int) → (X (rd_T45 E i).f0 ↔ X (rd_T45 E i).f1)

/-- The neighbours of each node, by the edges before the i-th. -/
structure Near (n : Int) (E : List S45) (N : List (List Int)) (i : Int) : Prop where
  len : (N.length : Int) = n
  adj : ∀ v, 0 ≤ v → v < n → ∀ w ∈ rd_L2 N v, 0 ≤ w ∧ w < n ∧ ∃ j, 0 ≤ j ∧ j < i ∧ (((rd_T45 E j).f0 = v ∧ (rd_T45 E j).f1 = w) ∨ ((rd_T45 E j).f1 = v ∧ (rd_T45 E j).f0 = w))
  has : ∀ j, 0 ≤ j → j < i → (rd_T45 E j).f1 ∈ rd_L2 N (rd_T45 E j).f0 ∧ (rd_T45 E j).f0 ∈ rd_L2 N (rd_T45 E j).f1
  bnd : ∀ v, 0 ≤ v → v < n → ((rd_L2 N v).length : Int) ≤ 2 * i

theorem parts_l0 (n : Int) (E : List S45) (hR : Right n E) (d : Nat) : ∀ (i : Int) (N : List (List Int)), 0 ≤ i → i + d = (E.length : Int) → Near n E N i →
    ∃ N', Near n E N' (E.length : Int) ∧ ∀ r, Evl (fun k => (walk_filled.f k n (-1)).bind fun t => walk_Parts.l1 k N' t 0 n 0) r → Evl (fun k => walk_Parts.l0 k N E (E.length : Int) i n E) r := by
  have m1 := hR.m1
  induction d with
  | zero =>
    intro i N i0 hi I
    obtain rfl : i = (E.length : Int) := by omega
    exact ⟨N, I, fun r H => H.step fun k => by rw [walk_Parts.l0, if_neg (by omega)]⟩
  | succ d ih =>
    intro i N i0 hi I
    have i1 : i < (E.length : Int) := by omega
    obtain ⟨a0, a1, b0, b1, -, -, -, -⟩ := hR.e i i0 i1
    have hl := I.len
    have w := w1 (i := i) (by omega) (by omega)
    generalize ha : (rd_T45 E i).f0 = a at a0 a1
    generalize hb : (rd_T45 E i).f1 = b at b0 b1
    have l1 : ((N.set a.toNat (rd_L2 N a ++ [b])).length : Int) = n := by rw [List.length_set]; exact hl
    have r1 : ∀ v, 0 ≤ v → rd_L2 (N.set a.toNat (rd_L2 N a ++ [b])) v = if v = a then rd_L2 N a ++ [b] else rd_L2 N v := fun v v0 => rd_L2_set _ _ _ _ a0 (by omega) v0
    generalize hN1 : N.set a.toNat (rd_L2 N a ++ [b]) = N1 at l1 r1
    have l2 : ((N1.set b.toNat (rd_L2 N1 b ++ [a])).length : Int) = n := by rw [List.length_set]; exact l1
    have r2 : ∀ v, 0 ≤ v → rd_L2 (N1.set b.toNat (rd_L2 N1 b ++ [a])) v = if v = b then rd_L2 N1 b ++ [a] else rd_L2 N1 v := fun v v0 => rd_L2_set _ _ _ _ b0 (by omega) v0
    have n1l : ∀ v, 0 ≤ v → v < n → ((rd_L2 N1 v).length : Int) ≤ 2 * i + 1 := fun v v0 v1 => by
      rw [r1 v v0]
      have := I.bnd v v0 v1
      split
      · rename_i e; rw [List.length_append, List.length_singleton, ← e]; omega
      · omega
    have mem1 : ∀ v, 0 ≤ v → ∀ x, x ∈ rd_L2 N1 v ↔ x ∈ rd_L2 N v ∨ (v = a ∧ x = b) := fun v v0 x => by
      rw [r1 v v0]
      by_cases e : v = a
      · rw [if_pos e, List.mem_append, List.mem_singleton, e]; exact ⟨fun h => h.imp id fun q => ⟨rfl, q⟩, fun h => h.imp id fun q => q.2⟩
      · rw [if_neg e]; exact ⟨Or.inl, fun h => h.elim id fun q => absurd q.1 e⟩
    have mem2 : ∀ v, 0 ≤ v → ∀ x, x ∈ rd_L2 (N1.set b.toNat (rd_L2 N1 b ++ [a])) v ↔ x ∈ rd_L2 N v ∨ (v = a ∧ x = b) ∨ (v = b ∧ x = a) := fun v v0 x => by
      rw [r2 v v0]
      by_cases e : v = b
      · rw [if_pos e, List.mem_append, List.mem_singleton, mem1 b b0, e]
        constructor
        · rintro ((h | h) | h)
          · exact Or.inl h
          · exact Or.inr (Or.inl h)
          · exact Or.inr (Or.inr ⟨rfl, h⟩)
        · rintro (h | h | h)
          · exact Or.inl (Or.inl h)
          · exact Or.inl (Or.inr h)
          · exact Or.inr h.2
      · rw [if_neg e, mem1 v v0]
        exact ⟨fun h => h.imp id Or.inl, fun h => h.imp id fun q => q.elim id fun z => absurd z.1 e⟩
    obtain ⟨N', I', R⟩ := ih (i + 1) _ (by omega) (by omega) (show Near n E (N1.set b.toNat (rd_L2 N1 b ++ [a])) (i + 1) from ⟨l2, fun v v0 v1 x hx => by
      rcases (mem2 v v0 x).mp hx with h | ⟨rfl, rfl⟩ | ⟨rfl, rfl⟩
      · obtain ⟨x0, x1, j, j0, j1, q⟩ := I.adj v v0 v1 x h
        exact ⟨x0, x1, j, j0, by omega, q⟩
      · exact ⟨b0, b1, i, i0, by omega, Or.inl ⟨ha, hb⟩⟩
      · exact ⟨a0, a1, i, i0, by omega, Or.inr ⟨hb, ha⟩⟩, fun j j0 j1 => by
      have re := hR.e j j0 (by omega)
      by_cases e : j = i
      · subst e
        rw [ha, hb]
        exact ⟨(mem2 a a0 b).mpr (Or.inr (Or.inl ⟨rfl, rfl⟩)), (mem2 b b0 a).mpr (Or.inr (Or.inr ⟨rfl, rfl⟩))⟩
      · obtain ⟨p, q⟩ := I.has j j0 (by omega)
        exact ⟨(mem2 _ re.a0 _).mpr (Or.inl p), (mem2 _ re.b0 _).mpr (Or.inl q)⟩, fun v v0 v1 => by
      rw [r2 v v0]
      have := n1l v v0 v1
      split
      · rename_i e; rw [List.length_append, List.length_singleton, ← e]; omega
      · omega⟩)
    have bn := I.bnd a a0 a1
    have bn1 := n1l b b0 b1
    refine ⟨N', I', fun r H => (R r H).step fun k => ?_⟩
    rw [walk_Parts.l0, if_pos i1, if_pos i0, if_pos i1, ha, hb, if_pos a0, if_pos (by omega), if_pos (by omega), Option.bind_some, hN1, if_pos b0, if_pos (by omega), if_pos (by omega), w]

/-- The parts told so far: those below c, and the one that is being told. -/
structure PI (n : Int) (E : List S45) (N : List (List Int)) (P S : List Int) (c x : Int) : Prop where
  len : (P.length : Int) = n
  lo : ∀ v, 0 ≤ v → v < n → -1 ≤ rd P v
  hi : ∀ v, 0 ≤ v → v < n → rd P v ≤ c
  st : ∀ x ∈ S, 0 ≤ x ∧ x < n ∧ rd P x = c
  bnd : (S.length : Int) + negs P ≤ n
  same : ∀ X, Closed E X → ∀ u v, 0 ≤ u → u < n → 0 ≤ v → v < n → 0 ≤ rd P u → rd P u = rd P v → (X u ↔ X v)
  dn : ∀ u, 0 ≤ u → u < n → 0 ≤ rd P u → u ∈ S ∨ u = x ∨ ∀ w ∈ rd_L2 N u, rd P w = rd P u

theorem PI.push {n : Int} {E : List S45} {N : List (List Int)} {P S : List Int} {c x0 v w : Int} (hN : Near n E N (E.length : Int)) (I : PI n E N P S c x0) (c0 : 0 ≤ c) (v0 : 0 ≤ v) (v1 : v < n) (hv : rd P v = c) (w0 : 0 ≤ w) (w1' : w < n) (hw : rd P w < 0) (adj : ∀ X, Closed E X → (X v ↔ X w)) :
    PI n E N (P.set w.toNat c) (S ++ [w]) c x0 ∧ (∀ x, 0 ≤ x → rd (P.set w.toNat c) x = if x = w then c else rd P x) ∧ negs (P.set w.toNat c) = negs P - 1 := by
  have hl := I.len
  have rs : ∀ x, 0 ≤ x → rd (P.set w.toNat c) x = if x = w then c else rd P x := fun x x0 => rd_set _ _ _ _ w0 (by omega) x0
  have ng := negs_set P w c w0 (by omega) hw c0
  refine ⟨⟨by rw [List.length_set]; exact hl, fun x a b => ?_, fun x a b => ?_, fun x hx => ?_, ?_, fun X hX x y a b a' b' h e => ?_, fun u a b h => ?_⟩, rs, ng⟩
  · rw [rs x a]; have := I.lo x a b; split <;> omega
  · rw [rs x a]; have := I.hi x a b; split <;> omega
  · rcases List.mem_append.mp hx with hx | hx
    · obtain ⟨p, q, r⟩ := I.st x hx
      exact ⟨p, q, by rw [rs x p]; split; rfl; exact r⟩
    · rw [List.mem_singleton] at hx
      subst hx
      exact ⟨w0, w1', by rw [rs _ w0, if_pos rfl]⟩
  · rw [List.length_append, List.length_singleton, ng]; have := I.bnd; omega
  · have hz : ∀ z, 0 ≤ z → z < n → rd P z = c → (X w ↔ X z) := fun z z0 z1 hz => (adj X hX).symm.trans (I.same X hX v z v0 v1 z0 z1 (by omega) (by omega))
    rw [rs x a] at h e
    rw [rs y a'] at e
    by_cases ex : x = w
    · rw [if_pos ex] at e
      by_cases ey : y = w
      · rw [ex, ey]
      · rw [if_neg ey] at e; rw [ex]; exact hz y a' b' e.symm
    · rw [if_neg ex] at e h
      by_cases ey : y = w
      · rw [if_pos ey] at e; rw [ey]; exact (hz x a b e).symm
      · rw [if_neg ey] at e; exact I.same X hX x y a b a' b' h e
  · by_cases eu : u = w
    · exact Or.inl (List.mem_append.mpr (Or.inr (List.mem_singleton.mpr eu)))
    · rw [rs u a, if_neg eu] at h
      rcases I.dn u a b h with g | g | g
      · exact Or.inl (List.mem_append.mpr (Or.inl g))
      · exact Or.inr (Or.inl g)
      · refine Or.inr (Or.inr fun y hy => ?_)
        have e := g y hy
        rw [rs u a, if_neg eu, rs y (hN.adj u a b y hy).1, if_neg (fun q => by rw [q] at e; omega), e]

theorem parts_l3 (n : Int) (E : List S45) (hR : Right n E) (N : List (List Int)) (hN : Near n E N (E.length : Int)) (c s : Int) (c0 : 0 ≤ c) (v : Int) (v0 : 0 ≤ v) (v1 : v < n) (d : Nat) : ∀ (j : Int) (P S : List Int), 0 ≤ j → j + d = ((rd_L2 N v).length : Int) → PI n E N P S c v → rd P v = c → (∀ i, 0 ≤ i → i < j → rd P (rd (rd_L2 N v) i) = c) →
    ∃ P' S', PI n E N P' S' c (-1) ∧ (S'.length : Int) + negs P' = S.length + negs P ∧ (∀ x, 0 ≤ x → x < n → 0 ≤ rd P x → rd P' x = rd P x) ∧ ∀ r, Evl (fun k => walk_Parts.l2 k N P' c S' n s) r → Evl (fun k => walk_Parts.l3 k N P c S n s (rd_L2 N v) ((rd_L2 N v).length : Int) j) r := by
  have n1 := hR.n1
  have m1 := hR.m1
  have hb := hN.bnd v v0 v1
  induction d with
  | zero =>
    intro j P S j0 jd I hv hj
    refine ⟨P, S, ⟨I.len, I.lo, I.hi, I.st, I.bnd, I.same, fun u a b h => ?_⟩, rfl, fun x a b h => rfl, fun r H => H.step fun k => by rw [walk_Parts.l3, if_neg (by omega)]⟩
    rcases I.dn u a b h with g | g | g
    · exact Or.inl g
    · refine Or.inr (Or.inr fun y hy => ?_)
      obtain ⟨i, i0, i1, e⟩ := mem_rd (by rw [g] at hy; exact hy)
      rw [← e, hj i i0 (by omega), g, hv]
    · exact Or.inr (Or.inr g)
  | succ d ih =>
    intro j P S j0 jd I hv hj
    have jlt : j < ((rd_L2 N v).length : Int) := by omega
    obtain ⟨w0, w1', q, q0, q1, hq⟩ := hN.adj v v0 v1 _ (rd_mem _ j j0 jlt)
    generalize hw : rd (rd_L2 N v) j = w at w0 w1' hq
    have adj : ∀ X, Closed E X → (X v ↔ X w) := fun X hX => by
      have := hX q q0 q1
      rcases hq with ⟨e1, e2⟩ | ⟨e1, e2⟩
      · rw [← e1, ← e2]; exact this
      · rw [← e1, ← e2]; exact this.symm
    have hl := I.len
    have wj := w1 (i := j) (by omega) (by omega)
    have hbn := I.bnd
    have hng := negs_nonneg P
    by_cases neg : rd P w < 0
    · obtain ⟨I', rs, ng⟩ := PI.push hN I c0 v0 v1 hv w0 w1' neg adj
      obtain ⟨P', S', I2, ms, kp, R⟩ := ih (j + 1) _ _ (by omega) (by omega) I' (by rw [rs v v0]; split; rfl; exact hv) (fun i a b => by
        have h0 := (hN.adj v v0 v1 _ (rd_mem _ i a (by omega))).1
        rw [rs _ h0]
        split
        · rfl
        · rename_i h; by_cases e : i = j
          · rw [e] at h; exact absurd hw h
          · exact hj i a (by omega))
      refine ⟨P', S', I2, by rw [ms, ng, List.length_append, List.length_singleton]; omega, fun x a b h => ?_, fun r H => (R r H).step fun k => ?_⟩
      · have e : rd (P.set w.toNat c) x = rd P x := by rw [rs x a, if_neg (fun e => by rw [e] at h; omega)]
        rw [kp x a b (by rw [e]; exact h), e]
      · rw [walk_Parts.l3, if_pos jlt, if_pos j0, if_pos jlt, hw, if_pos w0, if_pos (by omega), if_pos neg, if_pos (by omega), wj]
    · obtain ⟨P', S', I2, ms, kp, R⟩ := ih (j + 1) P S (by omega) (by omega) I hv (fun i a b => by
        by_cases e : i = j
        · rw [e, hw]
          rcases I.dn w w0 w1' (by omega) with g | g | g
          · exact (I.st w g).2.2
          · rw [g]; exact hv
          · rw [← hv]; refine (g v ?_).symm
            have hh := hN.has q q0 q1
            rcases hq with ⟨e1, e2⟩ | ⟨e1, e2⟩
            · rw [e1, e2] at hh; exact hh.2
            · rw [e1, e2] at hh; exact hh.1
        · exact hj i a (by omega))
      refine ⟨P', S', I2, ms, kp, fun r H => (R r H).step fun k => ?_⟩
      rw [walk_Parts.l3, if_pos jlt, if_pos j0, if_pos jlt, hw, if_pos w0, if_pos (by omega), if_neg neg, wj]

theorem parts_l2 (n : Int) (E : List S45) (hR : Right n E) (N : List (List Int)) (hN : Near n E N (E.length : Int)) (c s : Int) (c0 : 0 ≤ c) (m : Nat) : ∀ (P S : List Int), (S.length : Int) + negs P = m → PI n E N P S c (-1) →
    ∃ P', PI n E N P' [] c (-1) ∧ (∀ x, 0 ≤ x → x < n → 0 ≤ rd P x → rd P' x = rd P x) ∧ ∀ r, Evl (fun k => walk_Parts.l1 k N P' (wrap64 (c + 1)) n (wrap64 (s + 1))) r → Evl (fun k => walk_Parts.l2 k N P c S n s) r := by
  have n1 := hR.n1
  induction m with
  | zero =>
    intro P S hm I
    have hng := negs_nonneg P
    cases S with
    | nil => exact ⟨P, I, fun x a b h => rfl, fun r H => H.step fun k => by rw [walk_Parts.l2, if_neg (by simp)]⟩
    | cons a t => simp only [List.length_cons] at hm; omega
  | succ m ih =>
    intro P S hm I
    have hng := negs_nonneg P
    by_cases h0 : (S.length : Int) > 0
    · have hbn := I.bnd
      have wm' := wm (i := (S.length : Int)) (by omega) (by omega)
      have hmem := rd_mem S ((S.length : Int) - 1) (by omega) (by omega)
      generalize hv : rd S ((S.length : Int) - 1) = v at hmem
      obtain ⟨v0, v1, vc⟩ := I.st v hmem
      have hl := hN.len
      have tl : ((S.take ((S.length : Int) - 1).toNat).length : Int) = S.length - 1 := by rw [List.length_take]; omega
      have hS : S = S.take ((S.length : Int) - 1).toNat ++ [v] := by
        have hlt : ((S.length : Int) - 1).toNat < S.length := by omega
        have e1 : S[((S.length : Int) - 1).toNat] = v := by
          rw [← hv]; unfold rd; rw [List.getD_eq_getElem?_getD, List.getElem?_eq_getElem hlt]; rfl
        conv => lhs; rw [← List.take_append_drop ((S.length : Int) - 1).toNat S, List.drop_eq_getElem_cons hlt, e1, List.drop_eq_nil_of_le (by omega)]
      have It : PI n E N P (S.take ((S.length : Int) - 1).toNat) c v := ⟨I.len, I.lo, I.hi, fun x hx => I.st x (List.mem_of_mem_take hx), by omega, I.same, fun u a b h => by
        rcases I.dn u a b h with g | g | g
        · rw [hS] at g
          rcases List.mem_append.mp g with g | g
          · exact Or.inl g
          · exact Or.inr (Or.inl (List.mem_singleton.mp g))
        · omega
        · exact Or.inr (Or.inr g)⟩
      obtain ⟨P1, S1, I1, ms, kp, R⟩ := parts_l3 n E hR N hN c s c0 v v0 v1 (rd_L2 N v).length 0 P _ (Int.le_refl 0) (by omega) It vc (fun i a b => by omega)
      obtain ⟨P', I', kp', R'⟩ := ih P1 S1 (by omega) I1
      refine ⟨P', I', fun x a b h => ?_, fun r H => (R r (R' r H)).step fun k => ?_⟩
      · rw [kp' x a b (by rw [kp x a b h]; exact h), kp x a b h]
      · rw [walk_Parts.l2, if_pos h0, wm', if_pos (by omega), if_pos (by omega), if_pos (by omega), hv, if_pos v0, if_pos (by omega)]
    · have : S = [] := List.length_eq_zero_iff.mp (by omega)
      subst this
      exact ⟨P, I, fun x a b h => rfl, fun r H => H.step fun k => by rw [walk_Parts.l2, if_neg (by simp)]⟩

theorem parts_l1 (n : Int) (E : List S45) (hR : Right n E) (N : List (List Int)) (hN : Near n E N (E.length : Int)) (m : Nat) : ∀ (s c : Int) (P : List Int), 0 ≤ s → s + m = n → 0 ≤ c → c ≤ s → (P.length : Int) = n → (∀ v, 0 ≤ v → v < n → -1 ≤ rd P v ∧ rd P v < c) →
    (∀ X, Closed E X → ∀ u v, 0 ≤ u → u < n → 0 ≤ v → v < n → 0 ≤ rd P u → rd P u = rd P v → (X u ↔ X v)) → (∀ v, 0 ≤ v → v < s → 0 ≤ rd P v) → (∀ u, 0 ≤ u → u < n → 0 ≤ rd P u → ∀ w ∈ rd_L2 N u, rd P w = rd P u) →
    ∃ P', Evl (fun k => walk_Parts.l1 k N P c n s) (P', 0) ∧ (P'.length : Int) = n ∧ (∀ v, 0 ≤ v → v < n → 0 ≤ rd P' v) ∧ (∀ X, Closed E X → ∀ u v, 0 ≤ u → u < n → 0 ≤ v → v < n → rd P' u = rd P' v → (X u ↔ X v)) ∧ (∀ u, 0 ≤ u → u < n → ∀ w ∈ rd_L2 N u, rd P' w = rd P' u) := by
  have n1 := hR.n1
  induction m with
  | zero =>
    intro s c P s0 hs c0 cs hl hb same all dn
    refine ⟨P, Evl.here fun k => by rw [walk_Parts.l1, if_neg (by omega)], hl, fun v a b => all v a (by omega), fun X hX u v a b a' b' e => same X hX u v a b a' b' (all u a (by omega)) e, fun u a b => dn u a b (all u a (by omega))⟩
  | succ m ih =>
    intro s c P s0 hs c0 cs hl hb same all dn
    have ws := w1 (i := s) (by omega) (by omega)
    have wc := w1 (i := c) (by omega) (by omega)
    by_cases h : rd P s ≥ 0
    · obtain ⟨P', H, r⟩ := ih (s + 1) c P (by omega) (by omega) c0 (by omega) hl hb same (fun v a b => by
        by_cases e : v = s
        · rw [e]; exact h
        · exact all v a (by omega)) dn
      exact ⟨P', H.step fun k => by rw [walk_Parts.l1, if_pos (by omega), if_pos s0, if_pos (by omega), if_pos h, ws], r⟩
    · have rs : ∀ x, 0 ≤ x → rd (P.set s.toNat c) x = if x = s then c else rd P x := fun x x0 => rd_set _ _ _ _ s0 (by omega) x0
      have ng := negs_set P s c s0 (by omega) (by omega) c0
      have nl := negs_le P
      have I : PI n E N (P.set s.toNat c) [s] c (-1) := ⟨by rw [List.length_set]; exact hl, fun v a b => by rw [rs v a]; have := hb v a b; split <;> omega, fun v a b => by rw [rs v a]; have := hb v a b; split <;> omega,
        fun x hx => by rw [List.mem_singleton] at hx; subst hx; exact ⟨s0, by omega, by rw [rs _ s0, if_pos rfl]⟩, by rw [List.length_singleton, ng]; omega, fun X hX u v a b a' b' h' e => by
          rw [rs u a] at h' e
          rw [rs v a'] at e
          have hu := hb u a b
          have hv := hb v a' b'
          by_cases eu : u = s
          · by_cases ev : v = s
            · rw [eu, ev]
            · rw [if_pos eu, if_neg ev] at e; omega
          · by_cases ev : v = s
            · rw [if_neg eu, if_pos ev] at e; omega
            · rw [if_neg eu] at h'
              rw [if_neg eu, if_neg ev] at e
              exact same X hX u v a b a' b' h' e, fun u a b h' => by
          by_cases eu : u = s
          · exact Or.inl (List.mem_singleton.mpr eu)
          · rw [rs u a, if_neg eu] at h'
            refine Or.inr (Or.inr fun y hy => ?_)
            have e := dn u a b h' y hy
            rw [rs u a, if_neg eu, rs y (hN.adj u a b y hy).1, if_neg (fun q => by rw [q] at e; omega), e]⟩
      obtain ⟨P1, I1, kp, R⟩ := parts_l2 n E hR N hN c s c0 (1 + negs (P.set s.toNat c)).toNat (P.set s.toNat c) [s] (by have := negs_nonneg (P.set s.toNat c); simp only [List.length_singleton]; omega) I
      rw [ws, wc] at R
      obtain ⟨P', H, r⟩ := ih (s + 1) (c + 1) P1 (by omega) (by omega) (by omega) (by omega) I1.len (fun v a b => ⟨I1.lo v a b, by have := I1.hi v a b; omega⟩) I1.same (fun v a b => by
        by_cases e : v = s
        · rw [kp v a (by omega) (by rw [rs v a, if_pos e]; exact c0), rs v a, if_pos e]; exact c0
        · have := all v a (by omega)
          rw [kp v a (by omega) (by rw [rs v a, if_neg e]; exact this), rs v a, if_neg e]; exact this) (fun u a b h' => by
        rcases I1.dn u a b h' with g | g | g
        · simp at g
        · omega
        · exact g)
      exact ⟨P', (R _ H).step fun k => by rw [walk_Parts.l1, if_pos (by omega), if_pos s0, if_pos (by omega), if_neg h], r⟩

/-- Parts of a right graph. -/
theorem parts_f (n : Int) (E : List S45) (hR : Right n E) : ∃ P, Evl (fun k => walk_Parts.f k n E) (P, 0) ∧ (P.length : Int) = n ∧ (∀ v, 0 ≤ v → v < n → 0 ≤ rd P v) ∧ (∀ X, Closed E X → ∀ u v, 0 ≤ u → u < n → 0 ≤ v → v < n → rd P u = rd P v → (X u ↔ X v)) ∧ (∀ i, 0 ≤ i → i < (E.length : Int) → rd P (rd_T45 E i).f0 = rd P (rd_T45 E i).f1) := by
  have n0 := hR.n0
  have n1 := hR.n1
  obtain ⟨c, a, C1, -, -, -, hz⟩ := check_f n E
  obtain rfl := hz hR
  have l0 : ((List.replicate n.toNat ([] : List Int)).length : Int) = n := by rw [List.length_replicate]; omega
  have r0 : ∀ v, 0 ≤ v → v < n → rd_L2 (List.replicate n.toNat ([] : List Int)) v = [] := fun v a b => by unfold rd_L2; exact getD_replicate _ _ _ _ (by omega)
  obtain ⟨N, hN, R⟩ := parts_l0 n E hR E.length 0 (List.replicate n.toNat []) (Int.le_refl 0) (by omega) ⟨l0, fun v a b x hx => by rw [r0 v a b] at hx; simp at hx, fun j a b => by omega, fun v a b => by rw [r0 v a b]; simp⟩
  obtain ⟨P, H, hl, hp, hs, hd⟩ := parts_l1 n E hR N hN n.toNat 0 0 (List.replicate n.toNat (-1)) (Int.le_refl 0) (by omega) (Int.le_refl 0) (Int.le_refl 0) (by rw [List.length_replicate]; omega) (fun v a b => by rw [rd_replicate _ _ _ a (by omega)]; omega)
    (fun X hX u v a b a' b' h e => by rw [rd_replicate _ _ _ a (by omega)] at h; omega) (fun v a b => by omega) (fun u a b h => by rw [rd_replicate _ _ _ a (by omega)] at h; omega)
  refine ⟨P, ?_, hl, hp, hs, fun i i0 i1 => (hd _ (hR.e i i0 i1).a0 (hR.e i i0 i1).a1 _ (hN.has i i0 i1).1).symm⟩
  refine (Evl.bind C1 (h := fun k bt => if bt.1 = 0 then (if 0 ≤ n then (if n.toNat ≤ 11728124029610 then walk_Parts.l0 k (List.replicate n.toNat []) E (E.length : Int) 0 n E else none) else none) else some (([] : List Int), bt.1)) ?_).congr fun k => rfl
  refine Evl.congr (R _ (Evl.bind (filled_f n (-1) n0 (by omega)) H)) (fun k => by rw [if_pos rfl, if_pos n0, if_pos (by omega)])
end Go.Proofs.Ytplbkggdnonfbaa.G
