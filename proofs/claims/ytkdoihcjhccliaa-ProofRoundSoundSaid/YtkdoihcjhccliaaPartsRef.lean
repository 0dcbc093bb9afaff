/- The document's Parts: nodes have the same number just if they lie in the same closed sets. -/
import Derived.Test.YtkdoihcjhccliaaQ42
import Derived.Test.YtkdoihcjhccliaaQ43
import Derived.Test.YtkdoihcjhccliaaConn
namespace Go.Proofs.Ytkdoihcjhccliaa.G
open Go.RowKit Go.Proofs.Ytkdoihcjhccliaa.Q Go.Proofs.YtkdoihcjhccliaaW.PrintWords Go.Proofs.YtkdoihcjhccliaaW.PrintLast
set_option linter.unusedVariables false

theorem Conn.refl (E : List S98) (u : Int) : Conn E u u := fun X _ => Iff.rfl
theorem Conn.symm {E : List S98} {u v : Int} (h : Conn E u v) : Conn E v u := fun X hX => (h X hX).symm
theorem Conn.trans {E : List S98} {u v w : Int} (h : Conn E u v) (g : Conn E v w) : Conn E u w := fun X hX => (h X hX).trans (g X hX)
theorem Conn.edge (E : List S98) (i : Int) (i0 : 0 ≤ i) (i1 : i < (E.length : Int)) : Conn E (rd_T98 E i).f0 (rd_T98 E i).f1 := fun X hX => hX i i0 i1

/-- Each node's label: a node of its part, no later than it. -/
structure Lab (n : Int) (E : List S98) (L : List Int) : Prop where
  len : (L.length : Int) = n
  lo : ∀ v, 0 ≤ v → v < n → 0 ≤ rd L v ∧ rd L v ≤ v
  cn : ∀ v, 0 ≤ v → v < n → Conn E (rd L v) v

theorem lab_set {n : Int} {E : List S98} {L : List Int} (h : Lab n E L) {a b : Int} (a0 : 0 ≤ a) (a1 : a < n) (b0 : 0 ≤ b) (b1 : b < n) (le : rd L a ≤ rd L b) (c : Conn E a b) :
    Lab n E (L.set b.toNat (rd L a)) ∧ (∀ v, 0 ≤ v → rd (L.set b.toNat (rd L a)) v = if v = b then rd L a else rd L v) := by
  have hl := h.len
  have rs : ∀ v, 0 ≤ v → rd (L.set b.toNat (rd L a)) v = if v = b then rd L a else rd L v := fun v v0 => rd_set _ _ _ _ b0 (by omega) v0
  refine ⟨⟨by rw [List.length_set]; exact hl, fun v v0 v1 => ?_, fun v v0 v1 => ?_⟩, rs⟩
  · rw [rs v v0]
    have hv := h.lo v v0 v1
    have ha := h.lo a a0 a1
    split
    · rename_i e; rw [e] at hv ⊢; omega
    · exact hv
  · rw [rs v v0]
    split
    · rename_i e; rw [e]; exact (h.cn a a0 a1).trans c
    · exact h.cn v v0 v1

theorem round_l2 (n : Int) (E : List S98) (hR : Right n E) (x : Int) (q : Nat) : ∀ (i : Int) (L : List Int), 0 ≤ i → i + q = (E.length : Int) → Lab n E L →
    ∃ L', Lab n E L' ∧ (∀ v, 0 ≤ v → v < n → rd L' v ≤ rd L v) ∧ (∀ j, i ≤ j → j < (E.length : Int) → rd L' (rd_T98 E j).f0 ≤ rd L (rd_T98 E j).f1 ∧ rd L' (rd_T98 E j).f1 ≤ rd L (rd_T98 E j).f0) ∧
      ∀ r, Evl (fun k => compassref04_Parts.l1 k L' (wrap64 (x + 1)) n E) r → Evl (fun k => compassref04_Parts.l2 k L x i n E) r := by
  have m1 := hR.m1
  induction q with
  | zero =>
    intro i L i0 hi h
    exact ⟨L, h, fun v _ _ => Int.le_refl _, fun j a b => by omega, fun r H => H.step fun k => by rw [compassref04_Parts.l2, if_neg (by omega)]⟩
  | succ q ih =>
    intro i L i0 hi h
    have i1 : i < (E.length : Int) := by omega
    have w := w1 (i := i) (by omega) (by omega)
    have hl := h.len
    have re := hR.e i i0 i1
    have ce := Conn.edge E i i0 i1
    obtain ⟨a0, a1, b0, b1, -, -, -, -⟩ := re
    have key : ∃ L1, Lab n E L1 ∧ (∀ v, 0 ≤ v → v < n → rd L1 v ≤ rd L v) ∧ rd L1 (rd_T98 E i).f0 ≤ rd L (rd_T98 E i).f1 ∧ rd L1 (rd_T98 E i).f1 ≤ rd L (rd_T98 E i).f0 ∧
        ∀ r, Evl (fun k => compassref04_Parts.l2 k L1 x (i + 1) n E) r → Evl (fun k => compassref04_Parts.l2 k L x i n E) r := by
      by_cases lt : rd L (rd_T98 E i).f0 < rd L (rd_T98 E i).f1
      · obtain ⟨h1, rs⟩ := lab_set h a0 a1 b0 b1 (by omega) ce
        refine ⟨_, h1, fun v v0 v1 => ?_, ?_, ?_, fun r H => H.step fun k => ?_⟩
        · rw [rs v v0]; split
          · rename_i e; rw [e]; omega
          · exact Int.le_refl _
        · rw [rs _ a0]; split <;> omega
        · rw [rs _ b0, if_pos rfl]; exact Int.le_refl _
        · rw [compassref04_Parts.l2, if_pos i1, if_pos i0, if_pos a0, if_pos (by omega), if_pos b0, if_pos (by omega), if_pos lt, w]
      · obtain ⟨h1, rs⟩ := lab_set h b0 b1 a0 a1 (by omega) ce.symm
        refine ⟨_, h1, fun v v0 v1 => ?_, ?_, ?_, fun r H => H.step fun k => ?_⟩
        · rw [rs v v0]; split
          · rename_i e; rw [e]; omega
          · exact Int.le_refl _
        · rw [rs _ a0, if_pos rfl]; exact Int.le_refl _
        · rw [rs _ b0]; split <;> omega
        · rw [compassref04_Parts.l2, if_pos i1, if_pos i0, if_pos a0, if_pos (by omega), if_pos b0, if_pos (by omega), if_neg lt, w]
    obtain ⟨L1, h1, le1, ea, eb, R1⟩ := key
    obtain ⟨L', h', le', ed, R⟩ := ih (i + 1) L1 (by omega) (by omega) h1
    refine ⟨L', h', fun v a b => Int.le_trans (le' v a b) (le1 v a b), fun j ja jb => ?_, fun r H => R1 r (R r H)⟩
    by_cases e : j = i
    · subst e
      exact ⟨Int.le_trans (le' _ a0 a1) ea, Int.le_trans (le' _ b0 b1) eb⟩
    · have rj := hR.e j (by omega) jb
      obtain ⟨p, s⟩ := ed j (by omega) jb
      exact ⟨Int.le_trans p (le1 _ rj.b0 rj.b1), Int.le_trans s (le1 _ rj.a0 rj.a1)⟩

theorem countP_more {α : Type} (l : List α) (p q : α → Bool) (h : ∀ x ∈ l, p x = true → q x = true) : l.countP p ≤ l.countP q := List.countP_mono_left h
theorem countP_new {α : Type} (l : List α) (p q : α → Bool) (h : ∀ x ∈ l, p x = true → q x = true) (y : α) (hy : y ∈ l) (hq : q y = true) (hp : p y = false) : l.countP p + 1 ≤ l.countP q := by
  induction l with
  | nil => simp at hy
  | cons a t ih =>
    have ht : ∀ x ∈ t, p x = true → q x = true := fun x hx => h x (List.mem_cons_of_mem _ hx)
    rcases List.mem_cons.mp hy with e | e
    · subst e
      have := countP_more t p q ht
      rw [List.countP_cons_of_neg (by rw [hp]; simp), List.countP_cons_of_pos hq]; omega
    · have i1 := ih ht e
      by_cases pa : p a = true
      · rw [List.countP_cons_of_pos pa, List.countP_cons_of_pos (h a (List.mem_cons_self ..) pa)]; omega
      · rw [List.countP_cons_of_neg pa]
        have : t.countP q ≤ (a :: t).countP q := by rw [List.countP_cons]; omega
        omega

/-- The least node of a part. -/
structure LeastOf (n : Int) (E : List S98) (v m : Int) : Prop where
  m0 : 0 ≤ m
  m1 : m < n
  c : Conn E m v
  le : ∀ u, 0 ≤ u → u < n → Conn E u v → m ≤ u
def AllM (n : Int) (E : List S98) (v m : Int) (L : List Int) : Prop := ∀ u, 0 ≤ u → u < n → Conn E u v → rd L u = m
def cntM (n m : Int) (L : List Int) : Nat := (rng n.toNat).countP fun v => decide (rd L v = m)

theorem least_of (n : Int) (E : List S98) (v : Int) (v0 : 0 ≤ v) (v1 : v < n) : ∃ m, LeastOf n E v m := by
  have : ∀ (q : Nat) (u : Int), 0 ≤ u → u ≤ q → u < n → Conn E u v → ∃ m, LeastOf n E v m := by
    intro q
    induction q with
    | zero => intro u u0 uq u1 c; exact ⟨u, u0, u1, c, fun x x0 _ _ => by omega⟩
    | succ q ih =>
      intro u u0 uq u1 c
      by_cases h : ∃ x, 0 ≤ x ∧ x < u ∧ Conn E x v
      · obtain ⟨x, x0, x1, cx⟩ := h
        exact ih x x0 (by omega) (by omega) cx
      · exact ⟨u, u0, u1, c, fun x x0 x1 cx => by
          by_cases e : x < u
          · exact absurd ⟨x, x0, e, cx⟩ h
          · omega⟩
  exact this v.toNat v v0 (by omega) v1 (Conn.refl E v)

/-- A round settles another node, or all of the part are settled. -/
theorem round_one {n : Int} {E : List S98} (hR : Right n E) {L L' : List Int} (h : Lab n E L) (h' : Lab n E L') (le : ∀ v, 0 ≤ v → v < n → rd L' v ≤ rd L v)
    (ed : ∀ j, 0 ≤ j → j < (E.length : Int) → rd L' (rd_T98 E j).f0 ≤ rd L (rd_T98 E j).f1 ∧ rd L' (rd_T98 E j).f1 ≤ rd L (rd_T98 E j).f0) {v m : Int} (H : LeastOf n E v m) :
    (AllM n E v m L → AllM n E v m L') ∧ (AllM n E v m L ∨ cntM n m L + 1 ≤ cntM n m L') := by
  have lo : ∀ {K : List Int}, Lab n E K → ∀ u, 0 ≤ u → u < n → Conn E u v → m ≤ rd K u := fun hK u u0 u1 c => by
    have := hK.lo u u0 u1
    exact H.le _ this.1 (by omega) ((hK.cn u u0 u1).trans c)
  refine ⟨fun A u u0 u1 c => ?_, ?_⟩
  · have a := A u u0 u1 c
    have b := le u u0 u1
    have d := lo h' u u0 u1 c
    omega
  · by_cases cl : Closed E (fun u => rd L u = m)
    · refine Or.inl fun u u0 u1 c => ?_
      have mm : rd L m = m := by
        have a := h.lo m H.m0 H.m1
        have b := lo h m H.m0 H.m1 H.c
        omega
      exact ((c.trans H.c.symm) _ cl).mpr mm
    · refine Or.inr ?_
      have ex : ∃ i, 0 ≤ i ∧ i < (E.length : Int) ∧ ¬ (rd L (rd_T98 E i).f0 = m ↔ rd L (rd_T98 E i).f1 = m) := Classical.byContradiction fun hn => cl fun i i0 i1 => Classical.byContradiction fun hh => hn ⟨i, i0, i1, hh⟩
      obtain ⟨i, i0, i1, hi⟩ := ex
      have re := hR.e i i0 i1
      have ce := Conn.edge E i i0 i1
      have keep : ∀ x ∈ rng n.toNat, decide (rd L x = m) = true → decide (rd L' x = m) = true := fun x hx hp => by
        obtain ⟨x0, x1⟩ := (mem_rng _ _).mp hx
        have e := of_decide_eq_true hp
        have c : Conn E x v := by
          have := h.cn x x0 (by omega)
          rw [e] at this
          exact this.symm.trans H.c
        have a := le x x0 (by omega)
        have b := lo h' x x0 (by omega) c
        exact decide_eq_true (by omega)
      have new : ∀ a b, 0 ≤ b → b < n → 0 ≤ a → a < n → Conn E b a → rd L a = m → ¬ rd L b = m → rd L' b ≤ rd L a → cntM n m L + 1 ≤ cntM n m L' := fun a b b0 b1 a0 a1 c ea eb hle => by
        have ca : Conn E a v := by
          have := h.cn a a0 a1
          rw [ea] at this
          exact this.symm.trans H.c
        have := lo h' b b0 b1 (c.trans ca)
        exact countP_new _ _ _ keep b ((mem_rng _ _).mpr ⟨b0, by omega⟩) (decide_eq_true (by omega)) (decide_eq_false eb)
      obtain ⟨p, s⟩ := ed i i0 i1
      by_cases ea : rd L (rd_T98 E i).f0 = m
      · have eb : ¬ rd L (rd_T98 E i).f1 = m := fun eb => hi ⟨fun _ => eb, fun _ => ea⟩
        exact new _ _ re.b0 re.b1 re.a0 re.a1 ce.symm ea eb s
      · have eb : rd L (rd_T98 E i).f1 = m := Classical.byContradiction fun eb => hi ⟨fun h => absurd h ea, fun h => absurd h eb⟩
        exact new _ _ re.a0 re.a1 re.b0 re.b1 ce eb ea p

theorem rounds_l1 (n : Int) (E : List S98) (hR : Right n E) (q : Nat) : ∀ (x : Int) (L : List Int), 0 ≤ x → x + q = n → Lab n E L →
    ∃ L', Lab n E L' ∧ (∀ v m, LeastOf n E v m → (AllM n E v m L → AllM n E v m L') ∧ (AllM n E v m L' ∨ cntM n m L + q ≤ cntM n m L')) ∧
      ∀ r, Evl (fun k => (compassref04_Numbered.f k L').bind fun t => some (t, (0 : Int))) r → Evl (fun k => compassref04_Parts.l1 k L x n E) r := by
  have n1 := hR.n1
  induction q with
  | zero =>
    intro x L x0 hx h
    exact ⟨L, h, fun v m H => ⟨id, Or.inr (by omega)⟩, fun r H => H.step fun k => by rw [compassref04_Parts.l1, if_neg (by omega)]⟩
  | succ q ih =>
    intro x L x0 hx h
    have w := w1 (i := x) (by omega) (by omega)
    obtain ⟨L1, h1, le, ed, R1⟩ := round_l2 n E hR x E.length 0 L (Int.le_refl 0) (by omega) h
    obtain ⟨L', h', C, R⟩ := ih (x + 1) L1 (by omega) (by omega) h1
    rw [w] at R1
    refine ⟨L', h', fun v m H => ?_, fun r J => (R1 r (R r J)).step fun k => by rw [compassref04_Parts.l1, if_pos (by omega)]⟩
    obtain ⟨k1, k2⟩ := round_one hR h h1 le (fun j a b => ed j a b) H
    obtain ⟨c1, c2⟩ := C v m H
    refine ⟨fun A => c1 (k1 A), ?_⟩
    rcases k2 with B | B
    · exact Or.inl (c1 (k1 B))
    · rcases c2 with A | A
      · exact Or.inl A
      · exact Or.inr (by omega)

theorem init_l0 (n : Int) (E : List S98) (n0 : 0 ≤ n) (n1 : n ≤ 1000000) (q : Nat) : ∀ (v : Int) (L : List Int), 0 ≤ v → v + q = n → (L.length : Int) = n → (∀ u, 0 ≤ u → u < v → rd L u = u) →
    ∃ L', (L'.length : Int) = n ∧ (∀ u, 0 ≤ u → u < n → rd L' u = u) ∧ ∀ r, Evl (fun k => compassref04_Parts.l1 k L' 0 n E) r → Evl (fun k => compassref04_Parts.l0 k L v n E) r := by
  induction q with
  | zero =>
    intro v L v0 hv hl h
    exact ⟨L, hl, fun u a b => h u a (by omega), fun r H => H.step fun k => by rw [compassref04_Parts.l0, if_neg (by omega)]⟩
  | succ q ih =>
    intro v L v0 hv hl h
    have w := w1 (i := v) (by omega) (by omega)
    have rs : ∀ u, 0 ≤ u → rd (L.set v.toNat v) u = if u = v then v else rd L u := fun u u0 => rd_set _ _ _ _ v0 (by omega) u0
    obtain ⟨L', l', h', R⟩ := ih (v + 1) (L.set v.toNat v) (by omega) (by omega) (by rw [List.length_set]; exact hl) (fun u a b => by
      rw [rs u a]
      split
      · rename_i e; exact e.symm
      · exact h u a (by omega))
    exact ⟨L', l', h', fun r H => (R r H).step fun k => by rw [compassref04_Parts.l0, if_pos (by omega), if_pos v0, if_pos (by omega), w]⟩

/-- Numbered: by the order of the roots. -/
theorem numbered_f (n : Int) (T : List Int) (n0 : 0 ≤ n) (n1 : n ≤ 1000000) (hl : (T.length : Int) = n) (lo : ∀ v, 0 ≤ v → v < n → 0 ≤ rd T v ∧ rd T v ≤ v) (id2 : ∀ v, 0 ≤ v → v < n → rd T (rd T v) = rd T v) :
    ∃ P, Evl (fun k => compassref04_Numbered.f k T) P ∧ (P.length : Int) = n ∧ ∀ u v, 0 ≤ u → u < n → 0 ≤ v → v < n → (rd P u = rd P v ↔ rd T u = rd T v) := by
  have loop : ∀ (q : Nat) (v c : Int) (O : List Int), 0 ≤ v → v + q = n → 0 ≤ c → c ≤ v → (O.length : Int) = n → (∀ u, 0 ≤ u → u < v → rd O u = rd O (rd T u)) → (∀ u, 0 ≤ u → u < v → rd T u = u → rd O u < c) → (∀ u u', 0 ≤ u → u < u' → u' < v → rd T u = u → rd T u' = u' → rd O u < rd O u') →
      ∃ P, Evl (fun k => compassref04_Numbered.l0 k T O c v) P ∧ (P.length : Int) = n ∧ (∀ u, 0 ≤ u → u < n → rd P u = rd P (rd T u)) ∧ (∀ u u', 0 ≤ u → u < u' → u' < n → rd T u = u → rd T u' = u' → rd P u < rd P u') := by
    intro q
    induction q with
    | zero =>
      intro v c O v0 hv c0 cv hO h1 h2 h3
      obtain rfl : v = n := by omega
      exact ⟨O, Evl.here fun k => by rw [compassref04_Numbered.l0, if_neg (by omega)], hO, h1, h3⟩
    | succ q ih =>
      intro v c O v0 hv c0 cv hO h1 h2 h3
      have wv := w1 (i := v) (by omega) (by omega)
      have wc := w1 (i := c) (by omega) (by omega)
      have lv := lo v v0 (by omega)
      have rs : ∀ y, ∀ u, 0 ≤ u → rd (O.set v.toNat y) u = if u = v then y else rd O u := fun y u u0 => rd_set _ _ _ _ v0 (by omega) u0
      by_cases e : rd T v = v
      · obtain ⟨P, H, r⟩ := ih (v + 1) (c + 1) (O.set v.toNat c) (by omega) (by omega) (by omega) (by omega) (by rw [List.length_set]; exact hO) (fun u a b => by
            have lu := lo u a (by omega)
            rw [rs c u a, rs c _ lu.1]
            by_cases q : u = v
            · rw [if_pos q, q, e, if_pos rfl]
            · rw [if_neg q, if_neg (by omega)]; exact h1 u a (by omega))
          (fun u a b g => by
            rw [rs c u a]
            split
            · omega
            · have := h2 u a (by omega) g; omega)
          (fun u u' a b d g g' => by
            rw [rs c u a, rs c u' (by omega)]
            by_cases q : u' = v
            · rw [if_pos q, if_neg (by omega)]; exact h2 u a (by omega) g
            · rw [if_neg q, if_neg (by omega)]; exact h3 u u' a b (by omega) g g')
        exact ⟨P, H.step fun k => by rw [compassref04_Numbered.l0, if_pos (by omega), if_pos v0, if_pos e, if_pos (by omega), wv, wc], r⟩
      · obtain ⟨P, H, r⟩ := ih (v + 1) c (O.set v.toNat (rd O (rd T v))) (by omega) (by omega) c0 (by omega) (by rw [List.length_set]; exact hO) (fun u a b => by
            have lu := lo u a (by omega)
            rw [rs _ u a, rs _ _ lu.1]
            by_cases q : u = v
            · rw [if_pos q, q, if_neg (by omega)]
            · rw [if_neg q, if_neg (by omega)]; exact h1 u a (by omega))
          (fun u a b g => by
            have nv : u ≠ v := fun q => e (by rw [q] at g; exact g)
            rw [rs _ u a, if_neg nv]; exact h2 u a (by omega) g)
          (fun u u' a b d g g' => by
            have q : u' ≠ v := fun q => e (by rw [q] at g'; exact g')
            rw [rs _ u a, rs _ u' (by omega), if_neg q, if_neg (by omega)]; exact h3 u u' a b (by omega) g g')
        exact ⟨P, H.step fun k => by rw [compassref04_Numbered.l0, if_pos (by omega), if_pos v0, if_neg e, if_pos lv.1, if_pos (by omega), if_pos (by omega), wv], r⟩
  obtain ⟨P, H, hP, h1, h3⟩ := loop n.toNat 0 0 (List.replicate n.toNat 0) (Int.le_refl 0) (by omega) (Int.le_refl 0) (Int.le_refl 0) (by rw [List.length_replicate]; omega) (fun u a b => by omega) (fun u a b => by omega) (fun u u' a b d => by omega)
  refine ⟨P, H.congr fun k => ?_, hP, fun u v u0 u1 v0 v1 => ⟨fun h => ?_, fun h => by rw [h1 u u0 u1, h1 v v0 v1, h]⟩⟩
  · have e : T.length = n.toNat := by omega
    show (if 0 ≤ (T.length : Int) then (if ((T.length : Int) : Int).toNat ≤ 35184372088832 then (compassref04_Numbered.l0 k T (List.replicate ((T.length : Int) : Int).toNat 0) 0 0) else none) else none) = _
    rw [if_pos (by omega), if_pos (by omega), Int.toNat_natCast, e]
  · rw [h1 u u0 u1, h1 v v0 v1] at h
    have lu := lo u u0 u1
    have lv := lo v v0 v1
    by_cases a : rd T u < rd T v
    · have := h3 _ _ lu.1 a (by omega) (id2 u u0 u1) (id2 v v0 v1); omega
    · by_cases b : rd T v < rd T u
      · have := h3 _ _ lv.1 b (by omega) (id2 v v0 v1) (id2 u u0 u1); omega
      · omega

/-- The document's Parts of a right graph. -/
theorem parts04_f (n : Int) (E : List S98) (hR : Right n E) : ∃ P, Evl (fun k => compassref04_Parts.f k n E) (P, 0) ∧ (P.length : Int) = n ∧ ∀ u v, 0 ≤ u → u < n → 0 ≤ v → v < n → (rd P u = rd P v ↔ Conn E u v) := by
  have n0 := hR.n0
  have n1 := hR.n1
  obtain ⟨c, a, -, C2, -, -, hz⟩ := check_f n E
  obtain rfl := hz hR
  obtain ⟨L0, l0, i0, R0⟩ := init_l0 n E n0 (by omega) n.toNat 0 (List.replicate n.toNat 0) (Int.le_refl 0) (by omega) (by rw [List.length_replicate]; omega) (fun u a b => by omega)
  have h0 : Lab n E L0 := ⟨l0, fun v a b => by rw [i0 v a b]; omega, fun v a b => by rw [i0 v a b]; exact Conn.refl E v⟩
  obtain ⟨T, hT, C, R⟩ := rounds_l1 n E hR n.toNat 0 L0 (Int.le_refl 0) (by omega) h0
  have all : ∀ v m, LeastOf n E v m → AllM n E v m T := fun v m H => by
    rcases (C v m H).2 with A | A
    · exact A
    · have a1 : cntM n m T ≤ n.toNat := by
        have := List.countP_le_length (p := fun v => decide (rd T v = m)) (l := rng n.toNat)
        rw [len_rng] at this
        exact this
      have a2 : 0 < cntM n m L0 := List.countP_pos_iff.mpr ⟨m, (mem_rng _ _).mpr ⟨H.m0, by have := H.m1; omega⟩, decide_eq_true (i0 m H.m0 H.m1)⟩
      omega
  have same : ∀ u v, 0 ≤ u → u < n → 0 ≤ v → v < n → (rd T u = rd T v ↔ Conn E u v) := fun u v u0 u1 v0 v1 => by
    constructor
    · intro e
      have a := hT.cn u u0 u1
      have b := hT.cn v v0 v1
      rw [e] at a
      exact a.symm.trans b
    · intro c
      obtain ⟨m, H⟩ := least_of n E v v0 v1
      rw [all v m H u u0 u1 c, all v m H v v0 v1 (Conn.refl E v)]
  obtain ⟨P, HP, hP, hs⟩ := numbered_f n T n0 (by omega) hT.len hT.lo (fun v v0 v1 => by
    have lv := hT.lo v v0 v1
    exact (same _ v lv.1 (by omega) v0 v1).mpr (hT.cn v v0 v1))
  refine ⟨P, ?_, hP, fun u v u0 u1 v0 v1 => (hs u v u0 u1 v0 v1).trans (same u v u0 u1 v0 v1)⟩
  have J := R0 _ (R _ (Evl.bind HP (h := fun k t => some (t, (0 : Int))) Evl.pure))
  refine (Evl.bind C2 (h := fun k bt356 => (if bt356.1 = 0 then (if 0 ≤ n then (if (n : Int).toNat ≤ 35184372088832 then (compassref04_Parts.l0 k (List.replicate (n : Int).toNat 0) 0 n E) else (none)) else (none)) else (some (([] : List Int), bt356.1)))) ?_).congr fun k => rfl
  exact J.congr fun k => by rw [if_pos rfl, if_pos n0, if_pos (by omega)]
end Go.Proofs.Ytkdoihcjhccliaa.G
