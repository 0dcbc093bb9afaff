/- Edges apart: the program's look takes just what the document's does; and then there is no round. -/
import Derived.Test.YtkdoihcjhccliaaQ47
import Derived.Test.YtkdoihcjhccliaaQ48
import Derived.Test.YtkdoihcjhccliaaRounds
namespace Go.Proofs.Ytkdoihcjhccliaa.G
open Go.RowKit Go.Proofs.Ytkdoihcjhccliaa.Q Go.Proofs.YtkdoihcjhccliaaW.PrintWords Go.Proofs.YtkdoihcjhccliaaW.PrintLast
set_option linter.unusedVariables false

/-- Edges on a side and off it, and none leaves it. -/
structure Aprt (n : Int) (E : List S98) (B : List Bool) : Prop where
  len : (B.length : Int) = n
  no : ∀ i : Int, 0 ≤ i → i < (E.length : Int) → rdOf false B (rd_T98 E i).f0 = true → rdOf false B (rd_T98 E i).f1 = true
  on : ∃ i : Int, 0 ≤ i ∧ i < (E.length : Int) ∧ rdOf false B (rd_T98 E i).f1 = true
  off : ∃ i : Int, 0 ≤ i ∧ i < (E.length : Int) ∧ rdOf false B (rd_T98 E i).f0 = false

/-- What was seen on the first edges. -/
structure Seen (E : List S98) (B : List Bool) (i : Nat) (on off : Bool) : Prop where
  no : ∀ j : Int, 0 ≤ j → j < (i : Int) → rdOf false B (rd_T98 E j).f0 = true → rdOf false B (rd_T98 E j).f1 = true
  on : on = true ↔ ∃ j : Int, 0 ≤ j ∧ j < (i : Int) ∧ rdOf false B (rd_T98 E j).f1 = true
  off : off = true ↔ ∃ j : Int, 0 ≤ j ∧ j < (i : Int) ∧ rdOf false B (rd_T98 E j).f0 = false

theorem Seen.next {E : List S98} {B : List Bool} {i : Nat} {on off : Bool} (h : Seen E B i on off) (c : rdOf false B (rd_T98 E i).f0 = true → rdOf false B (rd_T98 E i).f1 = true) : Seen E B (i + 1) (on || rdOf false B (rd_T98 E i).f1) (off || !(rdOf false B (rd_T98 E i).f0)) := by
  refine ⟨fun j j0 j1 hj => ?_, ?_, ?_⟩
  · by_cases q : j = i
    · rw [q] at hj ⊢; exact c hj
    · exact h.no j j0 (by omega) hj
  · rw [Bool.or_eq_true, h.on]
    constructor
    · rintro (⟨j, a, b, e⟩ | e)
      · exact ⟨j, a, by omega, e⟩
      · exact ⟨i, by omega, by omega, e⟩
    · rintro ⟨j, a, b, e⟩
      by_cases q : j = i
      · rw [q] at e; exact Or.inr e
      · exact Or.inl ⟨j, a, by omega, e⟩
  · rw [Bool.or_eq_true, h.off, Bool.not_eq_true']
    constructor
    · rintro (⟨j, a, b, e⟩ | e)
      · exact ⟨j, a, by omega, e⟩
      · exact ⟨i, by omega, by omega, e⟩
    · rintro ⟨j, a, b, e⟩
      by_cases q : j = i
      · rw [q] at e; exact Or.inr e
      · exact Or.inl ⟨j, a, by omega, e⟩

theorem apart_l0 {n : Int} {E : List S98} (R : Right n E) {B : List Bool} (hB : (B.length : Int) = n) (d : Nat) : ∀ (i : Nat) (on off : Bool) (x y : Int), i + d = E.length → Seen E B i on off → (0 ≤ x ∧ x ≤ i ∧ (on = true ↔ x ≠ 0)) → (0 ≤ y ∧ y ≤ i ∧ (off = true ↔ y ≠ 0)) →
    ∃ e : Int, Evl (fun k => proof_Apart_1.l0 k on off E E.length i B) e ∧ Evl (fun k => compassref11_Apart.l0 k B x y i n E) e ∧ (e = 0 ↔ Aprt n E B) := by
  have m1 := R.m1
  induction d with
  | zero =>
    intro i on off x y hi S hx hy
    have e : (i : Int) = (E.length : Int) := by omega
    have two : ∀ r : Int, (on = true ∧ off = true → r = 0) → (¬ (on = true ∧ off = true) → r = 221) → (r = 0 ↔ Aprt n E B) := fun r h1 h2 => by
      by_cases q : on = true ∧ off = true
      · rw [h1 q]
        refine ⟨fun _ => ⟨hB, fun j a b => S.no j a (by omega), ?_, ?_⟩, fun _ => rfl⟩
        · obtain ⟨j, a, b, c⟩ := S.on.1 q.1; exact ⟨j, a, by omega, c⟩
        · obtain ⟨j, a, b, c⟩ := S.off.1 q.2; exact ⟨j, a, by omega, c⟩
      · rw [h2 q]
        refine ⟨fun h => (by cases h), fun h => absurd ⟨S.on.2 ?_, S.off.2 ?_⟩ q⟩
        · obtain ⟨j, a, b, c⟩ := h.on; exact ⟨j, a, by omega, c⟩
        · obtain ⟨j, a, b, c⟩ := h.off; exact ⟨j, a, by omega, c⟩
    by_cases h1 : on = true
    · by_cases h2 : off = true
      · exact ⟨0, Evl.here fun k => by rw [proof_Apart_1.l0, if_neg (by omega), if_pos h1, if_pos h2], Evl.here fun k => by rw [compassref11_Apart.l0, if_neg (by omega), if_neg (hx.2.2.1 h1), if_neg (hy.2.2.1 h2)], two 0 (fun _ => rfl) fun h => absurd ⟨h1, h2⟩ h⟩
      · have y0 : y = 0 := Classical.byContradiction fun h => h2 (hy.2.2.2 h)
        exact ⟨221, Evl.here fun k => by rw [proof_Apart_1.l0, if_neg (by omega), if_pos h1, if_neg h2], Evl.here fun k => by rw [compassref11_Apart.l0, if_neg (by omega), if_neg (hx.2.2.1 h1), if_pos y0], two 221 (fun h => absurd h.2 h2) fun _ => rfl⟩
    · have x0 : x = 0 := Classical.byContradiction fun h => h1 (hx.2.2.2 h)
      exact ⟨221, Evl.here fun k => by rw [proof_Apart_1.l0, if_neg (by omega), if_neg h1], Evl.here fun k => by rw [compassref11_Apart.l0, if_neg (by omega), if_pos x0], two 221 (fun h => absurd h.1 h1) fun _ => rfl⟩
  | succ d ih =>
    intro i on off x y hi S hx hy
    have g : (i : Int) < (E.length : Int) := by omega
    have w : wrap64 ((i : Int) + 1) = ((i + 1 : Nat) : Int) := by rw [w1 (by omega) (by omega)]; rfl
    have wx : wrap64 (x + 1) = x + 1 := w1 (by omega) (by omega)
    have wy : wrap64 (y + 1) = y + 1 := w1 (by omega) (by omega)
    have e := R.e i (by omega) g
    have a0 := e.a0
    have a1 : (rd_T98 E i).f0 < (B.length : Int) := by rw [hB]; exact e.a1
    have b0 := e.b0
    have b1 : (rd_T98 E i).f1 < (B.length : Int) := by rw [hB]; exact e.b1
    by_cases c : rdOf false B (rd_T98 E i).f0 = true → rdOf false B (rd_T98 E i).f1 = true
    · have S' := S.next c
      have go : ∀ x' y' : Int, (0 ≤ x' ∧ x' ≤ (i + 1 : Nat) ∧ ((on || rdOf false B (rd_T98 E i).f1) = true ↔ x' ≠ 0)) → (0 ≤ y' ∧ y' ≤ (i + 1 : Nat) ∧ ((off || !(rdOf false B (rd_T98 E i).f0)) = true ↔ y' ≠ 0)) →
          (∀ r, Evl (fun k => compassref11_Apart.l0 k B x' y' ((i + 1 : Nat) : Int) n E) r → Evl (fun k => compassref11_Apart.l0 k B x y i n E) r) → (∀ r, Evl (fun k => proof_Apart_1.l0 k (on || rdOf false B (rd_T98 E i).f1) (off || !(rdOf false B (rd_T98 E i).f0)) E E.length ((i + 1 : Nat) : Int) B) r → Evl (fun k => proof_Apart_1.l0 k on off E E.length i B) r) →
          ∃ e : Int, Evl (fun k => proof_Apart_1.l0 k on off E E.length i B) e ∧ Evl (fun k => compassref11_Apart.l0 k B x y i n E) e ∧ (e = 0 ↔ Aprt n E B) := fun x' y' hx' hy' h1 h2 => by
        obtain ⟨r, e1, e2, e3⟩ := ih (i + 1) _ _ x' y' (by omega) S' hx' hy'
        exact ⟨r, h2 r e1, h1 r e2, e3⟩
      have pr : ∀ r, Evl (fun k => proof_Apart_1.l0 k (on || rdOf false B (rd_T98 E i).f1) (off || !(rdOf false B (rd_T98 E i).f0)) E E.length ((i + 1 : Nat) : Int) B) r → Evl (fun k => proof_Apart_1.l0 k on off E E.length i B) r := fun r H => H.step fun k => by
        rw [proof_Apart_1.l0, if_pos g, if_pos (by omega), if_pos g, if_pos a0, if_pos a1, w]
        by_cases p : rdOf false B (rd_T98 E i).f0 = true
        · have q := c p
          rw [if_pos p, if_pos b0, if_pos b1, if_pos q, p, q]
          cases on <;> cases off <;> simp
        · have p' : rdOf false B (rd_T98 E i).f0 = false := by simpa using p
          rw [if_neg p, if_pos b0, if_pos b1, p']
          cases on <;> cases off <;> simp
      by_cases p : rdOf false B (rd_T98 E i).f0 = true
      · have q := c p
        refine go (x + 1) y ⟨by omega, by push_cast; omega, by rw [q]; simp; omega⟩ ⟨hy.1, by push_cast; omega, by rw [p]; simpa using hy.2.2⟩ (fun r H => ?_) pr
        refine Evl.step (h := fun k => compassref11_Apart.j1 k B x y i true true false n E) (Evl.step (h := fun k => compassref11_Apart.j2 k B x y i true true true n E) (H.step fun k => by rw [compassref11_Apart.j2, if_pos rfl, if_pos rfl, if_pos rfl, wx, w]) fun k => by rw [compassref11_Apart.j1, if_neg (by simp), if_pos rfl]) fun k => by rw [compassref11_Apart.l0, if_pos g, if_pos (by omega), if_pos a0, if_pos a1, if_pos b0, if_pos b1, if_pos p, p, q, Bool.not_true]
      · have p' : rdOf false B (rd_T98 E i).f0 = false := by simpa using p
        by_cases q : rdOf false B (rd_T98 E i).f1 = true
        · refine go (x + 1) (y + 1) ⟨by omega, by push_cast; omega, by rw [q]; simp; omega⟩ ⟨by omega, by push_cast; omega, by rw [p']; simp; omega⟩ (fun r H => ?_) pr
          refine Evl.step (h := fun k => compassref11_Apart.j1 k B x y i false true false n E) (Evl.step (h := fun k => compassref11_Apart.j2 k B x y i false true true n E) (H.step fun k => by rw [compassref11_Apart.j2, if_pos rfl, if_neg (by simp), wx, wy, w]) fun k => by rw [compassref11_Apart.j1, if_neg (by simp), if_neg (by simp)]) fun k => by rw [compassref11_Apart.l0, if_pos g, if_pos (by omega), if_pos a0, if_pos a1, if_pos b0, if_pos b1, if_neg p, p', q]
        · have q' : rdOf false B (rd_T98 E i).f1 = false := by simpa using q
          refine go x (y + 1) ⟨hx.1, by push_cast; omega, by rw [q']; simpa using hx.2.2⟩ ⟨by omega, by push_cast; omega, by rw [p']; simp; omega⟩ (fun r H => ?_) pr
          refine Evl.step (h := fun k => compassref11_Apart.j1 k B x y i false false false n E) (Evl.step (h := fun k => compassref11_Apart.j2 k B x y i false false false n E) (H.step fun k => by rw [compassref11_Apart.j2, if_neg (by simp), if_neg (by simp), wy, w]) fun k => by rw [compassref11_Apart.j1, if_neg (by simp), if_neg (by simp)]) fun k => by rw [compassref11_Apart.l0, if_pos g, if_pos (by omega), if_pos a0, if_pos a1, if_pos b0, if_pos b1, if_neg p, p', q']
    · have p : rdOf false B (rd_T98 E i).f0 = true := Classical.byContradiction fun h => c fun z => absurd z h
      have q : ¬ rdOf false B (rd_T98 E i).f1 = true := fun h => c fun _ => h
      have q' : rdOf false B (rd_T98 E i).f1 = false := by simpa using q
      refine ⟨221, Evl.here fun k => by rw [proof_Apart_1.l0, if_pos g, if_pos (by omega), if_pos g, if_pos a0, if_pos a1, if_pos p, if_pos b0, if_pos b1, if_neg q], ?_, fun h => (by cases h), fun h => absurd (h.no i (by omega) g) c⟩
      refine Evl.step (h := fun k => compassref11_Apart.j1 k B x y i true false true n E) (Evl.here fun k => by rw [compassref11_Apart.j1, if_pos rfl]) fun k => by rw [compassref11_Apart.l0, if_pos g, if_pos (by omega), if_pos a0, if_pos a1, if_pos b0, if_pos b1, if_pos p, p, q', Bool.not_false]

theorem apart_f (n : Int) (E : List S98) (B : List Bool) : ∃ e : Int, Evl (fun k => proof_Apart.f k n E B) e ∧ Evl (fun k => compassref11_Apart.f k n E B) e ∧ (e = 0 → Right n E ∧ Aprt n E B) ∧ (Right n E → Aprt n E B → e = 0) := by
  obtain ⟨c, a, g1, g2, g3, g4, g5⟩ := check_f n E
  have hr := right_f g1
  by_cases hc : c = 0
  · subst hc
    obtain ⟨rfl, R⟩ := g3 rfl
    by_cases h : (B.length : Int) = n
    · obtain ⟨e, e1, e2, e3⟩ := apart_l0 R h E.length 0 false false 0 0 (by omega) ⟨fun j a b => by omega, ⟨fun h => (by cases h), fun ⟨j, a, b, _⟩ => by omega⟩, ⟨fun h => (by cases h), fun ⟨j, a, b, _⟩ => by omega⟩⟩ ⟨by omega, by omega, by simp⟩ ⟨by omega, by omega, by simp⟩
      exact ⟨e, (Evl.bind (h := fun k t528 => if t528 = 0 then (if (B.length : Int) = n then (proof_Apart_1.l0 k false false E (E.length : Int) 0 B) else (some 221)) else (some t528)) hr (e1.congr fun k => by rw [if_pos rfl, if_pos h]; rfl)).congr fun k => rfl,
        (Evl.bind (h := fun k bt540 => if bt540.1 = 0 then (if (B.length : Int) = n then (compassref11_Apart.l0 k B 0 0 0 n E) else (some 221)) else (some bt540.1)) g2 (e2.congr fun k => by rw [if_pos rfl, if_pos h]; rfl)).congr fun k => rfl, fun q => ⟨R, e3.1 q⟩, fun _ q => e3.2 q⟩
    · exact ⟨221, (Evl.bind (h := fun k t528 => if t528 = 0 then (if (B.length : Int) = n then (proof_Apart_1.l0 k false false E (E.length : Int) 0 B) else (some 221)) else (some t528)) hr (Evl.pure.congr fun k => by rw [if_pos rfl, if_neg h])).congr fun k => rfl,
        (Evl.bind (h := fun k bt540 => if bt540.1 = 0 then (if (B.length : Int) = n then (compassref11_Apart.l0 k B 0 0 0 n E) else (some 221)) else (some bt540.1)) g2 (Evl.pure.congr fun k => by rw [if_pos rfl, if_neg h])).congr fun k => rfl, fun q => (by cases q), fun _ q => absurd q.len h⟩
  · exact ⟨c, (Evl.bind (h := fun k u => if u = 0 then _ else some u) hr (Evl.pure.congr fun k => by rw [if_neg hc])).congr fun k => rfl, (Evl.bind (h := fun k u => if u.1 = 0 then _ else some u.1) g2 (Evl.pure.congr fun k => by rw [if_neg hc])).congr fun k => rfl, fun h => absurd h hc, fun R => absurd (g5 R) hc⟩

/-- Where edges are apart there is no round that hangs together. -/
theorem esum_le {E : List S98} {A : List Int} {B : List Bool} (h0 : ∀ i : Int, 0 ≤ i → i < (E.length : Int) → 1 ≤ rd A i) (no : ∀ i : Int, 0 ≤ i → i < (E.length : Int) → rdOf false B (rd_T98 E i).f0 = true → rdOf false B (rd_T98 E i).f1 = true) : ∀ i : Nat, i ≤ E.length →
    esum (ind B) E A i ≤ 0 ∧ (esum (ind B) E A i = 0 → ∀ j : Int, 0 ≤ j → j < (i : Int) → (rdOf false B (rd_T98 E j).f0 = true ↔ rdOf false B (rd_T98 E j).f1 = true)) := by
  intro i
  induction i with
  | zero => intro _; exact ⟨Int.le_refl _, fun _ j a b => by omega⟩
  | succ i ih =>
    intro hi
    obtain ⟨a, b⟩ := ih (by omega)
    have h := h0 i (by omega) (by omega)
    have c := no i (by omega) (by omega)
    simp only [esum, ind]
    by_cases p : rdOf false B (rd_T98 E i).f0 = true
    · have q := c p
      rw [if_pos p, if_pos q]
      refine ⟨by omega, fun z j j0 j1 => ?_⟩
      by_cases t : j = i
      · rw [t]; exact ⟨fun _ => q, fun _ => p⟩
      · exact b (by omega) j j0 (by omega)
    · rw [if_neg p]
      by_cases q : rdOf false B (rd_T98 E i).f1 = true
      · rw [if_pos q]; exact ⟨by omega, fun z => by omega⟩
      · rw [if_neg q]
        refine ⟨by omega, fun z j j0 j1 => ?_⟩
        by_cases t : j = i
        · rw [t]; exact ⟨fun z => absurd z p, fun z => absurd z q⟩
        · exact b (by omega) j j0 (by omega)
theorem no_round {n : Int} {E : List S98} (R : Right n E) {A : List Int} {B : List Bool} (M : Rnd n E A) (H : Hang E) (P : Aprt n E B) : False := by
  have n0 := R.n0
  have z : wsum (ind B) E A E.length n.toNat = 0 := by
    have : ∀ v : Nat, v ≤ n.toNat → wsum (ind B) E A E.length v = 0 := by
      intro v
      induction v with
      | zero => intro _; rfl
      | succ v ih => intro hv; rw [wsum, ih (by omega), M.out v (by omega) (by omega), Int.mul_zero]; rfl
    exact this n.toNat (Nat.le_refl _)
  rw [wsum_esum R (ind B) A E.length (Nat.le_refl _)] at z
  have cl := (esum_le (A := A) (fun i a b => (M.ones i a b).1) P.no E.length (Nat.le_refl _)).2 z
  obtain ⟨i, i0, i1, hi⟩ := P.on
  obtain ⟨j, j0, j1, hj⟩ := P.off
  have a := (H i i0 i1 (fun v => rdOf false B v = true) cl).1 ((cl i i0 i1).2 hi)
  have b := (H j j0 j1 (fun v => rdOf false B v = true) cl).2 a
  rw [hj] at b
  cases b
theorem round_least {n : Int} {E : List S98} (R : Right n E) {A O P : List Int} (M : Rnd n E A) (N : Rnd n E O) (t : Slack E A P) : cost E A E.length ≤ cost E O E.length := by
  refine cost_least R (P := P) (fun v a b => by rw [M.out v a b, N.out v a b]) fun i i0 i1 => ⟨fun h => ?_, fun h => ?_⟩
  · rw [(t i i0 i1).2 h]; exact (N.ones i i0 i1).1
  · have := (t i i0 i1).1; omega
end Go.Proofs.Ytkdoihcjhccliaa.G
