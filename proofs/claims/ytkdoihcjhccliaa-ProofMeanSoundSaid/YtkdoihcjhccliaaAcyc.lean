/- Orders of the nodes: both looks answer alike; and then there is no circle. -/
import Derived.Test.YtkdoihcjhccliaaQ37
import Derived.Test.YtkdoihcjhccliaaQ38
import Derived.Test.YtkdoihcjhccliaaLoops
import Derived.Test.YtkdoihcjhccliaaConn
namespace Go.Proofs.Ytkdoihcjhccliaa.G
open Go.RowKit Go.Proofs.Ytkdoihcjhccliaa.Q Go.Proofs.YtkdoihcjhccliaaW.PrintWords Go.Proofs.YtkdoihcjhccliaaW.PrintLast
set_option linter.unusedVariables false

/-- Where a node stands first. -/
structure At (O : List Int) (v p : Int) : Prop where
  a0 : 0 ≤ p
  a1 : p < (O.length : Int)
  is : rd O p = v
  no : ∀ j : Int, 0 ≤ j → j < p → rd O j ≠ v
theorem At.uniq {O : List Int} {v p q : Int} (h : At O v p) (g : At O v q) : p = q := by
  rcases Int.lt_trichotomy p q with c | c | c
  · exact absurd h.is (g.no p h.a0 c)
  · exact c
  · exact absurd g.is (h.no q g.a0 c)
theorem place_f {O : List Int} (hO : (O.length : Int) ≤ 1000000) (v : Int) : ∃ p : Int, Evl (fun k => compassref11_Place.f k O v) p ∧ ((At O v p) ∨ p = -1 ∧ ∀ j : Int, 0 ≤ j → j < (O.length : Int) → rd O j ≠ v) := by
  have loop : ∀ (d i : Nat), i + d = O.length → (∀ j : Int, 0 ≤ j → j < (i : Int) → rd O j ≠ v) → ∃ p : Int, Evl (fun k => compassref11_Place.l0 k O v i) p ∧ ((At O v p) ∨ p = -1 ∧ ∀ j : Int, 0 ≤ j → j < (O.length : Int) → rd O j ≠ v) := by
    intro d
    induction d with
    | zero => intro i hi hP; exact ⟨-1, Evl.here fun k => by rw [compassref11_Place.l0, if_neg (by omega)], Or.inr ⟨rfl, fun j a b => hP j a (by omega)⟩⟩
    | succ d ih =>
      intro i hi hP
      have w : wrap64 ((i : Int) + 1) = ((i + 1 : Nat) : Int) := by rw [w1 (by omega) (by omega)]; rfl
      by_cases c : rd O i = v
      · exact ⟨i, Evl.here fun k => by rw [compassref11_Place.l0, if_pos (by omega), if_pos (by omega), if_pos c], Or.inl ⟨by omega, by omega, c, hP⟩⟩
      · obtain ⟨p, e1, e2⟩ := ih (i + 1) (by omega) (fun j j0 j1 => by
          by_cases q : j = i
          · rw [q]; exact c
          · exact hP j j0 (by omega))
        exact ⟨p, e1.step fun k => by rw [compassref11_Place.l0, if_pos (by omega), if_pos (by omega), if_neg c, w], e2⟩
  obtain ⟨p, e1, e2⟩ := loop O.length 0 (by omega) (fun j a b => by omega)
  exact ⟨p, e1.congr fun k => rfl, e2⟩

/-- Each node stands in the order just once. -/
structure Perm (n : Int) (O : List Int) : Prop where
  len : (O.length : Int) = n
  inn : ∀ j : Int, 0 ≤ j → j < n → 0 ≤ rd O j ∧ rd O j < n
  once : ∀ i j : Int, 0 ≤ i → i < j → j < n → rd O i ≠ rd O j
theorem Perm.all {n : Int} {O : List Int} (h : Perm n O) (v : Int) (v0 : 0 ≤ v) (v1 : v < n) : ∃ j : Int, 0 ≤ j ∧ j < n ∧ rd O j = v := by
  apply Classical.byContradiction
  intro no
  have hl := h.len
  have nd : (O.map id).Nodup := nodup_rd (f := id) fun i j i0 ij j1 q => h.once i j i0 ij (by omega) q
  rw [List.map_id] at nd
  have vin : v ∈ rng n.toNat := (mem_rng _ _).2 ⟨v0, by omega⟩
  have := sub_len O ((rng n.toNat).erase v) nd (fun x hx => by
    obtain ⟨j, j0, j1, rfl⟩ := mem_rd hx
    have r := h.inn j j0 (by omega)
    exact (List.mem_erase_of_ne fun e => no ⟨j, j0, by omega, e⟩).2 ((mem_rng _ _).2 ⟨r.1, by omega⟩))
  rw [List.length_erase_of_mem vin, len_rng] at this
  omega
theorem perm_of {n : Int} {O : List Int} (hl : (O.length : Int) = n) (h : ∀ v : Int, 0 ≤ v → v < n → ∃ j : Int, 0 ≤ j ∧ j < n ∧ rd O j = v) : Perm n O := by
  -- without one place all nodes would still stand in the rest
  have key : ∀ i : Int, 0 ≤ i → i < n → (∀ v : Int, 0 ≤ v → v < n → ∃ j : Int, 0 ≤ j ∧ j < n ∧ j ≠ i ∧ rd O j = v) → False := by
    intro i i0 i1 hh
    have := sub_len (rng n.toNat) (O.eraseIdx i.toNat) (nodup_rng _) (fun x hx => by
      have hr := (mem_rng _ _).1 hx
      obtain ⟨j, j0, j1, ji, e⟩ := hh x hr.1 (by omega)
      rw [List.mem_eraseIdx_iff_getElem]
      refine ⟨j.toNat, by omega, by omega, ?_⟩
      rw [← e]
      unfold rd
      rw [List.getD_eq_getElem?_getD, List.getElem?_eq_getElem (by omega)]; rfl)
    rw [len_rng, List.length_eraseIdx, if_pos (by omega)] at this
    omega
  refine ⟨hl, fun j j0 j1 => ?_, fun i j i0 ij j1 e => ?_⟩
  · apply Classical.byContradiction
    intro bad
    refine key j j0 j1 fun v v0 v1 => ?_
    obtain ⟨q, q0, q1, e⟩ := h v v0 v1
    exact ⟨q, q0, q1, fun t => bad (by rw [← t, e]; exact ⟨v0, v1⟩), e⟩
  · refine key j (by omega) j1 fun v v0 v1 => ?_
    obtain ⟨q, q0, q1, t⟩ := h v v0 v1
    by_cases c : q = j
    · exact ⟨i, i0, by omega, by omega, by rw [e, ← c]; exact t⟩
    · exact ⟨q, q0, q1, c, t⟩

/-- An order in which each edge goes on. -/
structure Topo (n : Int) (E : List S98) (O : List Int) : Prop where
  perm : Perm n O
  on : ∀ i : Int, 0 ≤ i → i < (E.length : Int) → ∀ p q : Int, 0 ≤ p → p < n → 0 ≤ q → q < n → rd O p = (rd_T98 E i).f0 → rd O q = (rd_T98 E i).f1 → p < q
theorem Perm.at_ {n : Int} {O : List Int} (h : Perm n O) {p : Int} (p0 : 0 ≤ p) (p1 : p < n) : At O (rd O p) p := ⟨p0, by rw [h.len]; exact p1, rfl, fun j j0 j1 => h.once j p j0 j1 p1⟩

theorem acyc_d1 {n : Int} {E : List S98} (R : Right n E) {O : List Int} (h : Perm n O) (d : Nat) : ∀ i : Nat, i + d = E.length →
    (∀ j : Int, 0 ≤ j → j < (i : Int) → ∀ p q : Int, 0 ≤ p → p < n → 0 ≤ q → q < n → rd O p = (rd_T98 E j).f0 → rd O q = (rd_T98 E j).f1 → p < q) →
    ∃ e : Int, Evl (fun k => compassref11_Acyclic.l1 k O i n E) e ∧ (e = 0 ∨ e = 221) ∧ (e = 0 ↔ Topo n E O) := by
  have m1 := R.m1
  have n1 := R.n1
  have hl := h.len
  induction d with
  | zero => intro i hi hP; exact ⟨0, Evl.here fun k => by rw [compassref11_Acyclic.l1, if_neg (by omega)], Or.inl rfl, fun _ => ⟨h, fun j a b => hP j a (by omega)⟩, fun _ => rfl⟩
  | succ d ih =>
    intro i hi hP
    have w : wrap64 ((i : Int) + 1) = ((i + 1 : Nat) : Int) := by rw [w1 (by omega) (by omega)]; rfl
    have g : (i : Int) < (E.length : Int) := by omega
    have e := R.e i (by omega) g
    obtain ⟨x, x1, x2⟩ := place_f (O := O) (by omega) (rd_T98 E i).f0
    obtain ⟨y, y1, y2⟩ := place_f (O := O) (by omega) (rd_T98 E i).f1
    obtain ⟨p, p0, p1, ep⟩ := h.all _ e.a0 e.a1
    obtain ⟨q, q0, q1, eq⟩ := h.all _ e.b0 e.b1
    have ax : x = p := by
      rcases x2 with a | a
      · have := h.at_ p0 p1; rw [ep] at this; exact a.uniq this
      · exact absurd ep (a.2 p p0 (by omega))
    have ay : y = q := by
      rcases y2 with a | a
      · have := h.at_ q0 q1; rw [eq] at this; exact a.uniq this
      · exact absurd eq (a.2 q q0 (by omega))
    subst ax ay
    have body : ∀ {r : Int}, Evl (fun k => if x ≥ y then some 221 else compassref11_Acyclic.l1 k O (wrap64 ((i : Int) + 1)) n E) r → Evl (fun k => compassref11_Acyclic.l1 k O i n E) r := fun H =>
      (Evl.bind (h := fun k t458 => (compassref11_Place.f k O ((rd_T98 E i).f1)).bind fun t460 => (if t458 ≥ t460 then (some 221) else (compassref11_Acyclic.l1 k O (wrap64 ((i : Int) + 1)) n E))) x1 (Evl.bind (h := fun k t460 => if x ≥ t460 then (some 221) else (compassref11_Acyclic.l1 k O (wrap64 ((i : Int) + 1)) n E)) y1 H)).step fun k => by rw [compassref11_Acyclic.l1, if_pos g, if_pos (by omega)]
    by_cases c : x ≥ y
    · exact ⟨221, body (Evl.pure.congr fun k => by rw [if_pos c]), Or.inr rfl, fun h => (by cases h), fun T => absurd (T.on i (by omega) g x y p0 p1 q0 q1 ep eq) (by omega)⟩
    · obtain ⟨r, e1, e2⟩ := ih (i + 1) (by omega) (fun j j0 j1 p' q' a b a' b' u v => by
        by_cases t : j = i
        · rw [t] at u v
          have z1 := (h.at_ a b).uniq (v := rd O p') (by rw [u, ← ep]; exact h.at_ p0 p1)
          have z2 := (h.at_ a' b').uniq (v := rd O q') (by rw [v, ← eq]; exact h.at_ q0 q1)
          omega
        · exact hP j j0 (by omega) p' q' a b a' b' u v)
      exact ⟨r, body (e1.congr fun k => by rw [if_neg c, w]), e2⟩
theorem acyc_doc {n : Int} {E : List S98} (R : Right n E) {O : List Int} (hl : (O.length : Int) = n) : ∃ e : Int, Evl (fun k => compassref11_Acyclic.l0 k O 0 n E) e ∧ (e = 0 ∨ e = 221) ∧ (e = 0 ↔ Topo n E O) := by
  have n0 := R.n0
  have n1 := R.n1
  have loop : ∀ (d i : Nat), ((i + d : Nat) : Int) = n → (∀ v : Int, 0 ≤ v → v < (i : Int) → ∃ j : Int, 0 ≤ j ∧ j < n ∧ rd O j = v) → ∃ e : Int, Evl (fun k => compassref11_Acyclic.l0 k O i n E) e ∧ (e = 0 ∨ e = 221) ∧ (e = 0 ↔ Topo n E O) := by
    intro d
    induction d with
    | zero =>
      intro i hi hP
      obtain ⟨e, e1, e2⟩ := acyc_d1 R (perm_of hl fun v a b => hP v a (by omega)) E.length 0 (by omega) (fun j a b => by omega)
      exact ⟨e, e1.step fun k => by rw [compassref11_Acyclic.l0, if_neg (by omega)]; rfl, e2⟩
    | succ d ih =>
      intro i hi hP
      have w : wrap64 ((i : Int) + 1) = ((i + 1 : Nat) : Int) := by rw [w1 (by omega) (by omega)]; rfl
      obtain ⟨x, x1, x2⟩ := place_f (O := O) (by omega) i
      have body : ∀ {r : Int}, Evl (fun k => if x < 0 then some 221 else compassref11_Acyclic.l0 k O (wrap64 ((i : Int) + 1)) n E) r → Evl (fun k => compassref11_Acyclic.l0 k O i n E) r := fun H =>
        (Evl.bind (h := fun k t456 => if t456 < 0 then (some 221) else (compassref11_Acyclic.l0 k O (wrap64 ((i : Int) + 1)) n E)) x1 H).step fun k => by rw [compassref11_Acyclic.l0, if_pos (by omega)]
      rcases x2 with a | a
      · obtain ⟨r, e1, e2⟩ := ih (i + 1) (by omega) (fun v v0 v1 => by
          by_cases t : v = i
          · exact ⟨x, a.a0, by have := a.a1; omega, by rw [t]; exact a.is⟩
          · exact hP v v0 (by omega))
        exact ⟨r, body (e1.congr fun k => by rw [if_neg (by have := a.a0; omega), w]), e2⟩
      · refine ⟨221, body (Evl.pure.congr fun k => by rw [if_pos (by omega)]), Or.inr rfl, fun h => (by cases h), fun T => ?_⟩
        obtain ⟨j, j0, j1, e⟩ := T.perm.all i (by omega) (by omega)
        exact absurd e (a.2 j j0 (by omega))
  exact loop n.toNat 0 (by omega) (fun v a b => by omega)

theorem acyc_l1 {n : Int} {E : List S98} (R : Right n E) {O L : List Int} (h : Perm n O) (hL : (L.length : Int) = n) (hp : ∀ j : Int, 0 ≤ j → j < n → rd L (rd O j) = j + 1) (d : Nat) : ∀ i : Nat, i + d = E.length →
    (∀ j : Int, 0 ≤ j → j < (i : Int) → ∀ p q : Int, 0 ≤ p → p < n → 0 ≤ q → q < n → rd O p = (rd_T98 E j).f0 → rd O q = (rd_T98 E j).f1 → p < q) →
    ∃ e : Int, Evl (fun k => proof_Acyclic_1.l1 k L E E.length i) e ∧ (e = 0 ∨ e = 221) ∧ (e = 0 ↔ Topo n E O) := by
  have m1 := R.m1
  induction d with
  | zero => intro i hi hP; exact ⟨0, Evl.here fun k => by rw [proof_Acyclic_1.l1, if_neg (by omega)], Or.inl rfl, fun _ => ⟨h, fun j a b => hP j a (by omega)⟩, fun _ => rfl⟩
  | succ d ih =>
    intro i hi hP
    have w : wrap64 ((i : Int) + 1) = ((i + 1 : Nat) : Int) := by rw [w1 (by omega) (by omega)]; rfl
    have g : (i : Int) < (E.length : Int) := by omega
    have e := R.e i (by omega) g
    have a0 := e.a0
    have a1 := e.a1
    have b0 := e.b0
    have b1 := e.b1
    obtain ⟨p, p0, p1, ep⟩ := h.all _ e.a0 e.a1
    obtain ⟨q, q0, q1, eq⟩ := h.all _ e.b0 e.b1
    have lp := hp p p0 p1
    have lq := hp q q0 q1
    rw [ep] at lp
    rw [eq] at lq
    by_cases c : rd L (rd_T98 E i).f0 < rd L (rd_T98 E i).f1
    · obtain ⟨r, e1, e2⟩ := ih (i + 1) (by omega) (fun j j0 j1 p' q' a b a' b' u v => by
        by_cases t : j = i
        · rw [t] at u v
          have z1 := (h.at_ a b).uniq (v := rd O p') (by rw [u, ← ep]; exact h.at_ p0 p1)
          have z2 := (h.at_ a' b').uniq (v := rd O q') (by rw [v, ← eq]; exact h.at_ q0 q1)
          omega
        · exact hP j j0 (by omega) p' q' a b a' b' u v)
      exact ⟨r, e1.step fun k => by rw [proof_Acyclic_1.l1, if_pos g, if_pos (by omega), if_pos g, if_pos a0, if_pos (by omega), if_pos b0, if_pos (by omega), if_pos c, w], e2⟩
    · exact ⟨221, Evl.here fun k => by rw [proof_Acyclic_1.l1, if_pos g, if_pos (by omega), if_pos g, if_pos a0, if_pos (by omega), if_pos b0, if_pos (by omega), if_neg c], Or.inr rfl, fun h => (by cases h), fun T => absurd (T.on i (by omega) g p q p0 p1 q0 q1 ep eq) (by omega)⟩
theorem acyc_l0 {n : Int} {E : List S98} (R : Right n E) {O : List Int} (hl : (O.length : Int) = n) (d : Nat) : ∀ (i : Nat) (L : List Int), ((i + d : Nat) : Int) = n → (L.length : Int) = n →
    (∀ j : Int, 0 ≤ j → j < (i : Int) → (0 ≤ rd O j ∧ rd O j < n) ∧ rd L (rd O j) = j + 1) → (∀ a b : Int, 0 ≤ a → a < b → b < (i : Int) → rd O a ≠ rd O b) → (∀ v : Int, 0 ≤ v → v < n → rd L v ≠ 0 → ∃ j : Int, 0 ≤ j ∧ j < (i : Int) ∧ rd O j = v) →
    ∃ e : Int, Evl (fun k => proof_Acyclic_1.l0 k L O O.length i n E) e ∧ (e = 0 ∨ e = 221) ∧ (e = 0 ↔ Topo n E O) := by
  have n1 := R.n1
  induction d with
  | zero =>
    intro i L hi hL hP hO hz
    have P : Perm n O := ⟨hl, fun j a b => (hP j a (by omega)).1, fun a b c d e => hO a b c d (by omega)⟩
    obtain ⟨e, e1, e2⟩ := acyc_l1 R P hL (fun j a b => (hP j a (by omega)).2) E.length 0 (by omega) (fun j a b => by omega)
    exact ⟨e, e1.step fun k => by rw [proof_Acyclic_1.l0, if_neg (by omega)]; rfl, e2⟩
  | succ d ih =>
    intro i L hi hL hP hO hz
    have w : wrap64 ((i : Int) + 1) = ((i + 1 : Nat) : Int) := by rw [w1 (by omega) (by omega)]; rfl
    by_cases c1 : rd O i ≥ 0
    · by_cases c2 : rd O i < n
      · by_cases c3 : rd L (rd O i) = 0
        · have new : ∀ j : Int, 0 ≤ j → j < (i : Int) → rd O j ≠ rd O i := fun j j0 j1 q => by
            have := (hP j j0 j1).2
            rw [q, c3] at this; omega
          have rs : ∀ v : Int, 0 ≤ v → rd (L.set (rd O i).toNat ((i : Int) + 1)) v = if v = rd O i then (i : Int) + 1 else rd L v := fun v v0 => rd_set _ _ _ _ c1 (by omega) v0
          obtain ⟨r, e1, e2⟩ := ih (i + 1) (L.set (rd O i).toNat ((i : Int) + 1)) (by omega) (by rw [List.length_set]; exact hL) (fun j j0 j1 => by
            by_cases t : j = i
            · rw [t]; exact ⟨⟨c1, c2⟩, by rw [rs _ c1, if_pos rfl]⟩
            · have := hP j j0 (by omega)
              exact ⟨this.1, by rw [rs _ this.1.1, if_neg (new j j0 (by omega))]; exact this.2⟩) (fun a b a0 ab b1 => by
            by_cases t : b = i
            · rw [t]; exact new a a0 (by omega)
            · exact hO a b a0 ab (by omega)) (fun v v0 v1 hv => by
            rw [rs v v0] at hv
            by_cases t : v = rd O i
            · exact ⟨i, by omega, by omega, t.symm⟩
            · rw [if_neg t] at hv
              obtain ⟨j, j0, j1, e⟩ := hz v v0 v1 hv
              exact ⟨j, j0, by omega, e⟩)
          exact ⟨r, e1.step fun k => by rw [proof_Acyclic_1.l0, if_pos (by omega), if_pos (by omega), if_pos (by omega), if_pos c1, if_pos c2, if_pos c1, if_pos (by omega), if_pos c3, w]; rfl, e2⟩
        · refine ⟨221, Evl.here fun k => by rw [proof_Acyclic_1.l0, if_pos (by omega), if_pos (by omega), if_pos (by omega), if_pos c1, if_pos c2, if_pos c1, if_pos (by omega), if_neg c3], Or.inr rfl, fun h => (by cases h), fun T => ?_⟩
          obtain ⟨j, j0, j1, e⟩ := hz _ c1 c2 c3
          exact absurd e (T.perm.once j i j0 j1 (by omega))
      · exact ⟨221, Evl.here fun k => by rw [proof_Acyclic_1.l0, if_pos (by omega), if_pos (by omega), if_pos (by omega), if_pos c1, if_neg c2], Or.inr rfl, fun h => (by cases h), fun T => absurd (T.perm.inn i (by omega) (by omega)).2 c2⟩
    · exact ⟨221, Evl.here fun k => by rw [proof_Acyclic_1.l0, if_pos (by omega), if_pos (by omega), if_pos (by omega), if_neg c1], Or.inr rfl, fun h => (by cases h), fun T => absurd (T.perm.inn i (by omega) (by omega)).1 c1⟩

theorem acyclic_f (n : Int) (E : List S98) (O : List Int) : ∃ e : Int, Evl (fun k => proof_Acyclic.f k n E O) e ∧ Evl (fun k => compassref11_Acyclic.f k n E O) e ∧ (e = 0 → Right n E ∧ Topo n E O) ∧ (Right n E → Topo n E O → e = 0) := by
  obtain ⟨c, a, g1, g2, g3, g4, g5⟩ := check_f n E
  have hr := right_f g1
  by_cases hc : c = 0
  · subst hc
    obtain ⟨rfl, R⟩ := g3 rfl
    have n0 := R.n0
    have n1 := R.n1
    have start : ∀ {r : Int}, Evl (fun k => if (O.length : Int) = n then (if 0 ≤ n then (if (n : Int).toNat ≤ 35184372088832 then (proof_Acyclic_1.l0 k (List.replicate (n : Int).toNat 0) O (O.length : Int) 0 n E) else (none)) else (none)) else (some 221)) r → Evl (fun k => proof_Acyclic.f k n E O) r := fun h =>
      (Evl.bind (h := fun k u => if u = 0 then _ else some u) hr (h.congr fun k => by rw [if_pos rfl])).congr fun k => rfl
    have dstart : ∀ {r : Int}, Evl (fun k => if (O.length : Int) = n then (compassref11_Acyclic.l0 k O 0 n E) else (some 221)) r → Evl (fun k => compassref11_Acyclic.f k n E O) r := fun h =>
      (Evl.bind (h := fun k bt454 => if bt454.1 = 0 then (if (O.length : Int) = n then (compassref11_Acyclic.l0 k O 0 n E) else (some 221)) else (some bt454.1)) g2 (h.congr fun k => by rw [if_pos rfl])).congr fun k => rfl
    by_cases h : (O.length : Int) = n
    · obtain ⟨x, x1, x2, x3⟩ := acyc_doc R h
      obtain ⟨y, y1, y2, y3⟩ := acyc_l0 R h n.toNat 0 (List.replicate n.toNat 0) (by omega) (by rw [List.length_replicate]; omega) (fun j a b => by omega) (fun a b c d e => by omega) (fun v v0 v1 hv => absurd (rd_replicate _ _ _ v0 (by omega)) hv)
      have xy : x = y := by
        by_cases t : Topo n E O
        · rw [x3.2 t, y3.2 t]
        · have z1 : x ≠ 0 := fun q => t (x3.1 q)
          have z2 : y ≠ 0 := fun q => t (y3.1 q)
          omega
      subst xy
      exact ⟨x, start (y1.congr fun k => by rw [if_pos h, if_pos n0, if_pos (by omega)]; rfl), dstart (x1.congr fun k => by rw [if_pos h]), fun q => ⟨R, x3.1 q⟩, fun _ t => x3.2 t⟩
    · exact ⟨221, start (Evl.pure.congr fun k => by rw [if_neg h]), dstart (Evl.pure.congr fun k => by rw [if_neg h]), fun q => (by cases q), fun _ t => absurd t.perm.len h⟩
  · exact ⟨c, (Evl.bind (h := fun k u => if u = 0 then _ else some u) hr (Evl.pure.congr fun k => by rw [if_neg hc])).congr fun k => rfl, (Evl.bind (h := fun k u => if u.1 = 0 then _ else some u.1) g2 (Evl.pure.congr fun k => by rw [if_neg hc])).congr fun k => rfl, fun h => absurd h hc, fun R => absurd (g5 R) hc⟩

/-- Where each edge goes on in an order there is no circle. -/
theorem no_ring {n : Int} {E : List S98} (R : Right n E) {O l : List Int} (T : Topo n E O) (h : Ring E l) : False := by
  have pos := h.pos
  have from_ : ∀ k : Int, 0 ≤ k → k < (l.length : Int) → ∃ p : Int, 0 ≤ p ∧ p < n ∧ rd O p = (rd_T98 E (rd l k)).f0 := fun k a b => by
    have L := h.ok k a b
    have e := R.e _ L.a0 L.a1
    exact T.perm.all _ e.a0 e.a1
  have step : ∀ k : Int, 0 ≤ k → k < (l.length : Int) → ∀ p q : Int, 0 ≤ p → p < n → 0 ≤ q → q < n → rd O p = (rd_T98 E (rd l k)).f0 → rd O q = (rd_T98 E (rd l (nx l.length k))).f0 → p < q := fun k a b p q p0 p1 q0 q1 e f => by
    have L := h.ok k a b
    exact T.on _ L.a0 L.a1 p q p0 p1 q0 q1 e (by rw [f, L.on])
  obtain ⟨p0, a0, a1, e0⟩ := from_ 0 (by omega) pos
  have up : ∀ k : Nat, (k : Int) < (l.length : Int) → ∀ p : Int, 0 ≤ p → p < n → rd O p = (rd_T98 E (rd l k)).f0 → p0 ≤ p := by
    intro k
    induction k with
    | zero =>
      intro _ p b0 b1 e
      have := (T.perm.at_ a0 a1).uniq (v := rd O p0) (by rw [e0, show (rd l 0) = rd l ((0 : Nat) : Int) from rfl, ← e]; exact T.perm.at_ b0 b1)
      omega
    | succ k ih =>
      intro hk p b0 b1 e
      obtain ⟨q, c0, c1, f⟩ := from_ k (by omega) (by omega)
      have i1 := ih (by omega) q c0 c1 f
      have i2 := step k (by omega) (by omega) q p c0 c1 b0 b1 f (by rw [nx, if_pos (by omega)]; exact e)
      omega
  obtain ⟨q, c0, c1, f⟩ := from_ ((l.length : Int) - 1) (by omega) (by omega)
  have u := up (l.length - 1) (by omega) q c0 c1 (by rw [show (((l.length - 1 : Nat)) : Int) = (l.length : Int) - 1 by omega]; exact f)
  have v := step ((l.length : Int) - 1) (by omega) (by omega) q p0 c0 c1 a0 a1 f (by rw [nx, if_neg (by omega)]; exact e0)
  omega
end Go.Proofs.Ytkdoihcjhccliaa.G
