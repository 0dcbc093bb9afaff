/- Supplies, potentials, costs: the program's looks and the document's, and weak duality. -/
import Derived.Test.YtkdoihcjhccliaaQ10
import Derived.Test.YtkdoihcjhccliaaQ27
import Derived.Test.YtkdoihcjhccliaaQ28
import Derived.Test.YtkdoihcjhccliaaQ9
import Derived.Test.YtkdoihcjhccliaaFlows
import Derived.Test.YtkdoihcjhccliaaDual
namespace Go.Proofs.Ytkdoihcjhccliaa.G
open Go.RowKit Go.Proofs.Ytkdoihcjhccliaa.Q Go.Proofs.YtkdoihcjhccliaaW.PrintWords Go.Proofs.YtkdoihcjhccliaaW.PrintLast
set_option linter.unusedVariables false

def ssum (S : List Int) : Nat → Int
  | 0 => 0
  | i + 1 => ssum S i + rd S i
/-- Right supplies. -/
structure Sup (n : Int) (S : List Int) : Prop where
  len : (S.length : Int) = n
  lab : ∀ v : Int, 0 ≤ v → v < n → -1048576 ≤ rd S v ∧ rd S v ≤ 1048576
  all : ssum S n.toNat = 0
theorem ssum_le {S : List Int} {m : Nat} (h : ∀ v : Int, 0 ≤ v → v < (m : Int) → -1048576 ≤ rd S v ∧ rd S v ≤ 1048576) : ∀ i : Nat, i ≤ m → -(i * 1048576 : Int) ≤ ssum S i ∧ ssum S i ≤ (i * 1048576 : Int) := by
  intro i
  induction i with
  | zero => intro _; simp [ssum]
  | succ i ih =>
    intro hi
    have a := ih (by omega)
    have b := h (i : Int) (by omega) (by omega)
    simp only [ssum]; push_cast; omega

theorem supplied_l0 {n : Int} (E : List S98) (n1 : n ≤ 1024) {S : List Int} (hS : (S.length : Int) = n) (d : Nat) : ∀ i : Nat, ((i + d : Nat) : Int) = n →
    (∀ v : Int, 0 ≤ v → v < (i : Int) → -1048576 ≤ rd S v ∧ rd S v ≤ 1048576) →
    ∃ x : Int, Evl (fun k => proof_supplied.l0 k (ssum S i) S S.length i) x ∧ Evl (fun k => compassref11_Supplies.l0 k S (ssum S i) i n E) x ∧ (x = 0 ∨ x = 130) ∧ (x = 0 ↔ Sup n S) := by
  induction d with
  | zero =>
    intro i hi hP
    have e : n.toNat = i := by omega
    by_cases c : ssum S i = 0
    · exact ⟨0, Evl.here fun k => by rw [proof_supplied.l0, if_neg (by omega), if_pos c], Evl.here fun k => by rw [compassref11_Supplies.l0, if_neg (by omega), if_pos c], Or.inl rfl, fun _ => ⟨hS, fun v a b => hP v a (by omega), by rw [e]; exact c⟩, fun _ => rfl⟩
    · exact ⟨130, Evl.here fun k => by rw [proof_supplied.l0, if_neg (by omega), if_neg c], Evl.here fun k => by rw [compassref11_Supplies.l0, if_neg (by omega), if_neg c], Or.inr rfl, fun h => (by cases h), fun h => absurd (by have := h.all; rwa [e] at this) c⟩
  | succ d ih =>
    intro i hi hP
    have w : wrap64 ((i : Int) + 1) = ((i + 1 : Nat) : Int) := by rw [w1 (by omega) (by omega)]; rfl
    have b := ssum_le (m := i) hP i (Nat.le_refl _)
    by_cases c1 : rd S i ≥ -1048576
    · by_cases c2 : rd S i ≤ 1048576
      · obtain ⟨x, e1, e2, e3, e4⟩ := ih (i + 1) (by omega) (fun v v0 v1 => by
          by_cases q : v = i
          · rw [q]; exact ⟨c1, c2⟩
          · exact hP v v0 (by omega))
        have z : wrap64 (ssum S i + rd S i) = ssum S (i + 1) := by rw [wr (by omega) (by omega)]; rfl
        refine ⟨x, e1.step fun k => ?_, e2.step fun k => ?_, e3, e4⟩
        · rw [proof_supplied.l0, if_pos (by omega), if_pos (by omega), if_pos (by omega), if_pos c1, if_pos c2, z, w]
        · rw [compassref11_Supplies.l0, if_pos (by omega), if_pos (by omega), if_pos (by omega), if_neg (by omega), if_neg (by omega), z, w]
      · exact ⟨130, Evl.here fun k => by rw [proof_supplied.l0, if_pos (by omega), if_pos (by omega), if_pos (by omega), if_pos c1, if_neg c2], Evl.here fun k => by rw [compassref11_Supplies.l0, if_pos (by omega), if_pos (by omega), if_pos (by omega), if_neg (by omega), if_pos (by omega)], Or.inr rfl, fun h => (by cases h), fun h => absurd (h.lab i (by omega) (by omega)).2 c2⟩
    · exact ⟨130, Evl.here fun k => by rw [proof_supplied.l0, if_pos (by omega), if_pos (by omega), if_pos (by omega), if_neg c1], Evl.here fun k => by rw [compassref11_Supplies.l0, if_pos (by omega), if_pos (by omega), if_pos (by omega), if_pos (by omega)], Or.inr rfl, fun h => (by cases h), fun h => absurd (h.lab i (by omega) (by omega)).1 c1⟩
theorem supplied_f {n : Int} {E : List S98} (R : Right n E) {a : Int} (g : Evl (fun k => compassref03_Check.f k n E) (0, a)) (S : List Int) :
    ∃ x : Int, Evl (fun k => proof_supplied.f k n E S) x ∧ Evl (fun k => compassref11_Supplies.f k n E S) x ∧ (x = 0 ∨ x = 130) ∧ (x = 0 ↔ Sup n S) := by
  have n0 := R.n0
  by_cases h : (S.length : Int) = n
  · obtain ⟨x, e1, e2, e3, e4⟩ := supplied_l0 E R.n1 h n.toNat 0 (by omega) (fun v a b => by omega)
    refine ⟨x, e1.congr fun k => by rw [proof_supplied.f, if_pos h]; rfl, ?_, e3, e4⟩
    exact (Evl.bind (h := fun k bt => if bt.1 = 0 then (if (S.length : Int) = n then (compassref11_Supplies.l0 k S 0 0 n E) else (some 130)) else (some bt.1)) g (e2.congr fun k => by rw [if_pos rfl, if_pos h]; rfl)).congr fun k => rfl
  · exact ⟨130, Evl.pure.congr fun k => by rw [proof_supplied.f, if_neg h], (Evl.bind (h := fun k bt => if bt.1 = 0 then (if (S.length : Int) = n then (compassref11_Supplies.l0 k S 0 0 n E) else (some 130)) else (some bt.1)) g (Evl.pure.congr fun k => by rw [if_pos rfl, if_neg h])).congr fun k => rfl, Or.inr rfl, fun h => (by cases h), fun q => absurd q.len h⟩
theorem supplies_bad {n : Int} {E : List S98} {c a : Int} (hc : c ≠ 0) (g : Evl (fun k => compassref03_Check.f k n E) (c, a)) (S : List Int) : Evl (fun k => compassref11_Supplies.f k n E S) c :=
  (Evl.bind (h := fun k bt => if bt.1 = 0 then (if (S.length : Int) = n then (compassref11_Supplies.l0 k S 0 0 n E) else (some 130)) else (some bt.1)) g (Evl.pure.congr fun k => by rw [if_neg hc])).congr fun k => rfl

/-- Potentials. -/
def Pots (n : Int) (P : List Int) : Prop := (P.length : Int) = n ∧ ∀ v : Int, 0 ≤ v → v < n → -4398046511104 ≤ rd P v ∧ rd P v ≤ 4398046511104
theorem pots_f {n : Int} (E : List S98) (n0 : 0 ≤ n) (n1 : n ≤ 1024) (P : List Int) : ∃ b : Bool, Evl (fun k => compassref11_Pots.f k n E P) b ∧ (b = true ↔ Pots n P) := by
  by_cases h : (P.length : Int) = n
  · have loop : ∀ (d i : Nat), ((i + d : Nat) : Int) = n → (∀ v : Int, 0 ≤ v → v < (i : Int) → -4398046511104 ≤ rd P v ∧ rd P v ≤ 4398046511104) → ∃ b : Bool, Evl (fun k => compassref11_Pots.l0 k P i n E) b ∧ (b = true ↔ Pots n P) := by
      intro d
      induction d with
      | zero =>
        intro i hi hP
        exact ⟨true, Evl.here fun k => by rw [compassref11_Pots.l0, if_neg (by omega)], fun _ => ⟨h, fun v a b => hP v a (by omega)⟩, fun _ => rfl⟩
      | succ d ih =>
        intro i hi hP
        have w : wrap64 ((i : Int) + 1) = ((i + 1 : Nat) : Int) := by rw [w1 (by omega) (by omega)]; rfl
        by_cases c1 : rd P i < -4398046511104
        · exact ⟨false, Evl.here fun k => by rw [compassref11_Pots.l0, if_pos (by omega), if_pos (by omega), if_pos (by omega), if_pos c1], fun h => (by cases h), fun h => absurd (h.2 i (by omega) (by omega)).1 (by omega)⟩
        · by_cases c2 : rd P i > 4398046511104
          · exact ⟨false, Evl.here fun k => by rw [compassref11_Pots.l0, if_pos (by omega), if_pos (by omega), if_pos (by omega), if_neg c1, if_pos c2], fun h => (by cases h), fun h => absurd (h.2 i (by omega) (by omega)).2 (by omega)⟩
          · obtain ⟨b, e1, e2⟩ := ih (i + 1) (by omega) (fun v v0 v1 => by
              by_cases q : v = i
              · rw [q]; exact ⟨by omega, by omega⟩
              · exact hP v v0 (by omega))
            exact ⟨b, e1.step fun k => by rw [compassref11_Pots.l0, if_pos (by omega), if_pos (by omega), if_pos (by omega), if_neg c1, if_neg c2, w], e2⟩
    obtain ⟨b, e1, e2⟩ := loop n.toNat 0 (by omega) (fun v a b => by omega)
    exact ⟨b, e1.congr fun k => by rw [compassref11_Pots.f, if_pos h]; rfl, e2⟩
  · exact ⟨false, Evl.pure.congr fun k => by rw [compassref11_Pots.f, if_neg h], fun h => (by cases h), fun q => absurd q.1 h⟩

/-- An edge's cost, some times, by potentials. -/
def red (P : List Int) (q : Int) (e : S98) : Int := q * e.f3 + rd P e.f0 - rd P e.f1
theorem red_f {n : Int} {e : S98} {P : List Int} (h : Pots n P) (r : RightE n e) : compassref11_Reduced.f e.f0 e.f1 e.f2 e.f3 P = some (red P 1 e) := by
  obtain ⟨hl, hp⟩ := h
  obtain ⟨a0, a1, b0, b1, c0, c1, d0, d1⟩ := r
  have p0 := hp e.f0 a0 a1
  have p1 := hp e.f1 b0 b1
  unfold compassref11_Reduced.f red
  rw [if_pos a0, if_pos (by omega), if_pos b0, if_pos (by omega), wr (x := e.f3 + rd P e.f0) (by omega) (by omega), wr (by omega) (by omega), Int.one_mul]
theorem reduced_l1 {n : Int} {E : List S98} (R : Right n E) {P : List Int} (h : Pots n P) {q : Int} (q0 : 0 ≤ q) (q1 : q ≤ 1024) (d : Nat) : ∀ (i : Nat) (O : List Int), i + d = E.length → O.length = i →
    (∀ j : Int, 0 ≤ j → j < (i : Int) → rd O j = red P q (rd_T98 E j)) →
    ∃ O' : List Int, Evl (fun k => proof_reduced.l1 k P q O E E.length i) (0, O') ∧ O'.length = E.length ∧ ∀ j : Int, 0 ≤ j → j < (E.length : Int) → rd O' j = red P q (rd_T98 E j) := by
  have hm := R.m1
  induction d with
  | zero =>
    intro i O hi hO hP
    exact ⟨O, Evl.here fun k => by rw [proof_reduced.l1, if_neg (by omega)], by omega, fun j a b => hP j a (by omega)⟩
  | succ d ih =>
    intro i O hi hO hP
    have g2 : (i : Int) < (E.length : Int) := by omega
    have w : wrap64 ((i : Int) + 1) = ((i + 1 : Nat) : Int) := by rw [w1 (by omega) (by omega)]; rfl
    obtain ⟨hl, hp⟩ := h
    obtain ⟨a0, a1, b0, b1, c0, c1, d0, d1⟩ := R.e i (by omega) g2
    have p0 := hp _ a0 a1
    have p1 := hp _ b0 b1
    have m0 : -1073741824 ≤ q * (rd_T98 E i).f3 := by
      have a := Int.mul_le_mul_of_nonneg_left d0 q0
      omega
    have m1 : q * (rd_T98 E i).f3 ≤ 1073741824 := by
      have a := Int.mul_le_mul_of_nonneg_left d1 q0
      omega
    have z : wrap64 ((wrap64 ((wrap64 (q * ((rd_T98 E i).f3))) + (rd P ((rd_T98 E i).f0)))) - (rd P ((rd_T98 E i).f1))) = red P q (rd_T98 E i) := by
      rw [wr (x := q * (rd_T98 E i).f3) (by omega) (by omega), wr (x := q * (rd_T98 E i).f3 + rd P (rd_T98 E i).f0) (by omega) (by omega), wr (by omega) (by omega)]; rfl
    obtain ⟨O', e1, e2, e3⟩ := ih (i + 1) (O ++ [red P q (rd_T98 E i)]) (by omega) (by simp [hO]) (fun j j0 j1 => by
      rw [rd_append _ _ _ j0]
      by_cases c : j < (O.length : Int)
      · rw [if_pos c]; exact hP j j0 (by omega)
      · rw [if_neg c, show j - (O.length : Int) = 0 by omega, show j = (i : Int) by omega]; rfl)
    refine ⟨O', e1.step fun k => ?_, e2, e3⟩
    rw [proof_reduced.l1, if_pos g2, if_pos (by omega), if_pos g2, if_pos a0, if_pos (by omega), if_pos b0, if_pos (by omega), if_pos (by omega), z, w]
theorem reduced_f {n : Int} {E : List S98} (R : Right n E) (P : List Int) {q : Int} (q0 : 0 ≤ q) (q1 : q ≤ 1024) : ∃ r : Int × List Int, Evl (fun k => proof_reduced.f k n E P q) r ∧
    (Pots n P → r.1 = 0 ∧ r.2.length = E.length ∧ ∀ j : Int, 0 ≤ j → j < (E.length : Int) → rd r.2 j = red P q (rd_T98 E j)) ∧ (¬ Pots n P → r = (221, [])) := by
  have n0 := R.n0
  have n1 := R.n1
  have m1 := R.m1
  by_cases h : (P.length : Int) = n
  · have loop : ∀ (d i : Nat), ((i + d : Nat) : Int) = n → (∀ v : Int, 0 ≤ v → v < (i : Int) → -4398046511104 ≤ rd P v ∧ rd P v ≤ 4398046511104) → ∃ r : Int × List Int, Evl (fun k => proof_reduced.l0 k P q P P.length i n E) r ∧
        (Pots n P → r.1 = 0 ∧ r.2.length = E.length ∧ ∀ j : Int, 0 ≤ j → j < (E.length : Int) → rd r.2 j = red P q (rd_T98 E j)) ∧ (¬ Pots n P → r = (221, [])) := by
      intro d
      induction d with
      | zero =>
        intro i hi hP
        have hh : Pots n P := ⟨h, fun v a b => hP v a (by omega)⟩
        obtain ⟨O', e1, e2, e3⟩ := reduced_l1 R hh q0 q1 E.length 0 [] (by omega) rfl (fun j a b => by omega)
        exact ⟨(0, O'), e1.step fun k => by rw [proof_reduced.l0, if_neg (by omega), if_pos (by omega), if_pos (by omega)]; rfl, fun _ => ⟨rfl, e2, e3⟩, fun c => absurd hh c⟩
      | succ d ih =>
        intro i hi hP
        have w : wrap64 ((i : Int) + 1) = ((i + 1 : Nat) : Int) := by rw [w1 (by omega) (by omega)]; rfl
        by_cases c1 : rd P i ≥ -4398046511104
        · by_cases c2 : rd P i ≤ 4398046511104
          · obtain ⟨r, e1, e2⟩ := ih (i + 1) (by omega) (fun v v0 v1 => by
              by_cases q : v = i
              · rw [q]; exact ⟨by omega, by omega⟩
              · exact hP v v0 (by omega))
            exact ⟨r, e1.step fun k => by rw [proof_reduced.l0, if_pos (by omega), if_pos (by omega), if_pos (by omega), if_pos c1, if_pos c2, w], e2⟩
          · exact ⟨(221, []), Evl.here fun k => by rw [proof_reduced.l0, if_pos (by omega), if_pos (by omega), if_pos (by omega), if_pos c1, if_neg c2], fun h => absurd (h.2 i (by omega) (by omega)).2 c2, fun _ => rfl⟩
        · exact ⟨(221, []), Evl.here fun k => by rw [proof_reduced.l0, if_pos (by omega), if_pos (by omega), if_pos (by omega), if_neg c1], fun h => absurd (h.2 i (by omega) (by omega)).1 c1, fun _ => rfl⟩
    obtain ⟨r, e1, e2⟩ := loop n.toNat 0 (by omega) (fun v a b => by omega)
    exact ⟨r, e1.congr fun k => by rw [proof_reduced.f, if_pos h]; rfl, e2⟩
  · exact ⟨(221, []), Evl.pure.congr fun k => by rw [proof_reduced.f, if_neg h], fun q => absurd q.1 h, fun _ => rfl⟩

/-- What amounts on the first edges cost, as the program adds. -/
def totw (E : List S98) (A : List Int) : Nat → Int
  | 0 => 0
  | i + 1 => wrap64 (totw E A i + wrap64 ((rd_T98 E i).f3 * rd A i))
/-- What they cost. -/
def cost (E : List S98) (A : List Int) : Nat → Int
  | 0 => 0
  | i + 1 => cost E A i + (rd_T98 E i).f3 * rd A i
theorem cost_one {n : Int} {e : S98} (r : RightE n e) {a : Int} (a0 : 0 ≤ a) (a1 : a ≤ 1048576) : -1099511627776 ≤ e.f3 * a ∧ e.f3 * a ≤ 1099511627776 := by
  have x := Int.mul_le_mul_of_nonneg_right r.d0 a0
  have y := Int.mul_le_mul_of_nonneg_right r.d1 a0
  omega
theorem totw_cost {n : Int} {E : List S98} (R : Right n E) {A : List Int} (h : Labs E.length A) : ∀ i : Nat, i ≤ E.length → totw E A i = cost E A i ∧ -(i * 1099511627776 : Int) ≤ cost E A i ∧ cost E A i ≤ (i * 1099511627776 : Int) := by
  have m1 := R.m1
  intro i
  induction i with
  | zero => intro _; simp [totw, cost]
  | succ i ih =>
    intro hi
    obtain ⟨a, b, c⟩ := ih (by omega)
    have l := h i (by omega) (by omega)
    have m := cost_one (R.e i (by omega) (by omega)) l.1 l.2
    simp only [totw, cost]
    rw [a, wr (x := (rd_T98 E i).f3 * rd A i) (by omega) (by omega), wr (by omega) (by omega)]
    push_cast
    exact ⟨rfl, by omega, by omega⟩
theorem total_f {n : Int} {E : List S98} (hm : (E.length : Int) ≤ 4096) {A : List Int} (hA : A.length = E.length) : Evl (fun k => compassref11_Total.f k n E A) (totw E A E.length) := by
  have loop : ∀ (d i : Nat), i + d = E.length → Evl (fun k => compassref11_Total.l0 k A (totw E A i) i n E) (totw E A E.length) := by
    intro d
    induction d with
    | zero => intro i hi; exact Evl.here fun k => by rw [compassref11_Total.l0, if_neg (by omega), show i = E.length by omega]
    | succ d ih =>
      intro i hi
      have w : wrap64 ((i : Int) + 1) = ((i + 1 : Nat) : Int) := by rw [w1 (by omega) (by omega)]; rfl
      exact (ih (i + 1) (by omega)).step fun k => by rw [compassref11_Total.l0, if_pos (by omega), if_pos (by omega), if_pos (by omega), w]; rfl
  exact (loop E.length 0 (by omega)).congr fun k => rfl

/-- Where what goes out of each node is alike, the weights at the nodes count alike. -/
theorem wsum_same (p : Int → Int) (E : List S98) (A O : List Int) (i : Nat) (v : Nat) (h : ∀ u : Int, 0 ≤ u → u < v → net E A u i = net E O u i) : wsum p E A i v = wsum p E O i v := by
  induction v with
  | zero => rfl
  | succ v ih => rw [wsum, wsum, ih fun u a b => h u a (by omega), h v (by omega) (by omega)]
/-- By the potentials no change of amounts that fits costs less. -/
theorem cost_dual {E : List S98} {A O P : List Int} (hA : ∀ i : Int, 0 ≤ i → i < (E.length : Int) → (red P 1 (rd_T98 E i) > 0 → rd A i ≤ rd O i) ∧ (red P 1 (rd_T98 E i) < 0 → rd O i ≤ rd A i)) : ∀ i : Nat, i ≤ E.length → cost E A i + esum (rd P) E A i ≤ cost E O i + esum (rd P) E O i := by
  intro i
  induction i with
  | zero => intro _; exact Int.le_refl _
  | succ i ih =>
    intro hi
    have a := ih (by omega)
    have b := hA i (by omega) (by omega)
    have one : ∀ x : Int, (rd_T98 E i).f3 * x + (rd P (rd_T98 E i).f0 * x - rd P (rd_T98 E i).f1 * x) = red P 1 (rd_T98 E i) * x := fun x => by
      unfold red
      rw [Int.one_mul, Int.sub_mul, Int.add_mul]; omega
    have key : red P 1 (rd_T98 E i) * rd A i ≤ red P 1 (rd_T98 E i) * rd O i := by
      rcases Int.lt_trichotomy (red P 1 (rd_T98 E i)) 0 with c | c | c
      · exact Int.mul_le_mul_of_nonpos_left (Int.le_of_lt c) (b.2 c)
      · rw [c, Int.zero_mul, Int.zero_mul]; exact Int.le_refl _
      · exact Int.mul_le_mul_of_nonneg_left (b.1 c) (Int.le_of_lt c)
    rw [← one, ← one] at key
    simp only [cost, esum]
    omega
theorem cost_least {n : Int} {E : List S98} (R : Right n E) {A O P : List Int} (hn : ∀ v : Int, 0 ≤ v → v < n → net E A v E.length = net E O v E.length) (hA : ∀ i : Int, 0 ≤ i → i < (E.length : Int) → (red P 1 (rd_T98 E i) > 0 → rd A i ≤ rd O i) ∧ (red P 1 (rd_T98 E i) < 0 → rd O i ≤ rd A i)) : cost E A E.length ≤ cost E O E.length := by
  have n0 := R.n0
  have a := cost_dual hA E.length (Nat.le_refl _)
  rw [← wsum_esum R (rd P) A E.length (Nat.le_refl _), ← wsum_esum R (rd P) O E.length (Nat.le_refl _), wsum_same (rd P) E A O E.length n.toNat (fun u u0 u1 => hn u u0 (by omega))] at a
  omega
end Go.Proofs.Ytkdoihcjhccliaa.G
