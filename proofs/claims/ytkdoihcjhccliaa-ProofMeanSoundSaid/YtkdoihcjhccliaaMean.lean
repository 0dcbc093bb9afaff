/- Means: the program's look at a circle takes just what the document's does. -/
import Derived.Test.YtkdoihcjhccliaaQ16
import Derived.Test.YtkdoihcjhccliaaQ17
import Derived.Test.YtkdoihcjhccliaaQ18
import Derived.Test.YtkdoihcjhccliaaQ32
import Derived.Test.YtkdoihcjhccliaaQ34
import Derived.Test.YtkdoihcjhccliaaQ35
import Derived.Test.YtkdoihcjhccliaaPlans
namespace Go.Proofs.Ytkdoihcjhccliaa.G
open Go.RowKit Go.Proofs.Ytkdoihcjhccliaa.Q Go.Proofs.YtkdoihcjhccliaaW.PrintWords Go.Proofs.YtkdoihcjhccliaaW.PrintLast
set_option linter.unusedVariables false

def I64 (a : Int) : Prop := -9223372036854775808 ≤ a ∧ a ≤ 9223372036854775807
theorem wu64 (n : Int) : IntKind.u64.wrap n = n % 18446744073709551616 := by simp [IntKind.wrap, IntKind.bits, IntKind.signed]
theorem rsize_nat {a : Int} (h : I64 a) : safeint_size.f a = some ((a.natAbs : Nat) : Int) := by
  unfold I64 at h
  unfold safeint_size.f
  by_cases c : a < 0
  · rw [if_pos c]; simp only [wu64]; congr 1; omega
  · rw [if_neg c]; simp only [wu64]; congr 1; omega
theorem rgcd_l0 : ∀ (y x k : Nat), y < k → safeint_Gcd.l0 k (x : Int) (y : Int) = some ((Nat.gcd x y : Nat) : Int) := by
  intro y
  induction y using Nat.strongRecOn with
  | ind y ih =>
    intro x k hk
    obtain ⟨k, rfl⟩ : ∃ m, k = m + 1 := ⟨k - 1, by omega⟩
    simp only [safeint_Gcd.l0]
    by_cases h0 : y = 0
    · subst h0; simp
    · rw [if_neg (by omega)]
      have hlt : x % y < y := Nat.mod_lt _ (by omega)
      rw [show Int.tmod (x : Int) (y : Int) = ((x % y : Nat) : Int) from (Int.ofNat_tmod x y).symm, ih (x % y) hlt y k (by omega)]
      congr 2
      rw [Nat.gcd_comm y, ← Nat.gcd_rec, Nat.gcd_comm]
theorem rgcd_f {a b : Int} (ha : I64 a) (hb : I64 b) (k : Nat) (hk : b.natAbs < k) :
    safeint_Gcd.f k a b = some ((Nat.gcd a.natAbs b.natAbs : Nat) : Int) := by
  unfold safeint_Gcd.f
  rw [rsize_nat ha, Option.bind_some, rsize_nat hb, Option.bind_some]
  exact rgcd_l0 _ _ _ hk

/-- What the program lays down for n/d. -/
def lowest (u v : Nat) (minus : Bool) : Int × Int × Int :=
  if 9223372036854775807 < v ∨ (9223372036854775807 < u ∧ minus = false) then (0, 0, 10) else (if minus then -(u : Int) else u, v, 0)
theorem j0_low (u v : Nat) (minus : Bool) (k : Nat) (hu : u ≤ 9223372036854775808) (hv : v ≤ 9223372036854775808) : safeint_NewRatio.j0 (k + 2) u v minus = some (lowest u v minus) := by
  have e1 : minus = true → u ≤ 9223372036854775808 → wrap64 (IntKind.u64.wrap (-(u : Int))) = -(u : Int) := fun _ h => by rw [wu64]; unfold wrap64; omega
  have e2 : u ≤ 9223372036854775807 → wrap64 (u : Int) = u := fun h => by unfold wrap64; omega
  have e3 : v ≤ 9223372036854775807 → wrap64 (v : Int) = v := fun h => by unfold wrap64; omega
  unfold lowest
  rw [safeint_NewRatio.j0]
  by_cases c1 : (v : Int) > 9223372036854775807
  · rw [if_pos c1, if_pos (Or.inl (by omega)), safeint_NewRatio.j1, if_pos rfl]
  · rw [if_neg c1]
    by_cases c2 : (u : Int) > 9223372036854775807
    · rw [if_pos c2]
      cases minus with
      | true =>
        have hue : u = 9223372036854775808 := by omega
        rw [if_pos rfl, if_pos rfl, safeint_NewRatio.j1, if_neg (by rw [hue]; decide), if_pos rfl, e1 rfl hu, e3 (by omega), if_neg (by simp; omega)]
      | false => rw [if_neg (by decide), safeint_NewRatio.j1, if_pos (by decide), if_pos (Or.inr ⟨by omega, rfl⟩)]
    · rw [if_neg c2, safeint_NewRatio.j1, if_neg (by decide), if_neg (show ¬ (9223372036854775807 < v ∨ 9223372036854775807 < u ∧ minus = false) from by omega)]
      cases minus with
      | true => rw [if_pos rfl, if_pos rfl, e1 rfl hu, e3 (by omega)]
      | false => rw [if_neg (by decide), if_neg (by decide), e2 (by omega), e3 (by omega)]
/-- The sign of n/d. -/
def minusOf (n d : Int) : Bool := if ((decide (n < 0)) != (decide (d < 0))) = true then (n != 0) else false
theorem natAbs_le {n : Int} (h : I64 n) : n.natAbs ≤ 9223372036854775808 := by unfold I64 at h; omega
theorem ratio_f {n d : Int} (hn : I64 n) (hd : I64 d) (h0 : d ≠ 0) (k : Nat) (hk : d.natAbs + 3 < k) :
    safeint_NewRatio.f k n d = some (lowest (n.natAbs / Nat.gcd n.natAbs d.natAbs) (d.natAbs / Nat.gcd n.natAbs d.natAbs) (minusOf n d)) := by
  have hg : Nat.gcd n.natAbs d.natAbs ≠ 0 := fun h => by have := Nat.eq_zero_of_gcd_eq_zero_right h; omega
  have q : ∀ x : Nat, x ≤ 9223372036854775808 → x / Nat.gcd n.natAbs d.natAbs ≤ 9223372036854775808 := fun x hx => Nat.le_trans (Nat.div_le_self _ _) hx
  have w : ∀ x : Nat, x ≤ 9223372036854775808 → IntKind.u64.wrap (Int.tdiv (x : Int) ((Nat.gcd n.natAbs d.natAbs : Nat) : Int)) = ((x / Nat.gcd n.natAbs d.natAbs : Nat) : Int) := fun x hx => by
    rw [show Int.tdiv (x : Int) ((Nat.gcd n.natAbs d.natAbs : Nat) : Int) = ((x / Nat.gcd n.natAbs d.natAbs : Nat) : Int) from (Int.ofNat_tdiv ..).symm, wu64]
    have := q x hx
    generalize x / Nat.gcd n.natAbs d.natAbs = y at *
    exact Int.emod_eq_of_lt (by omega) (by omega)
  unfold safeint_NewRatio.f minusOf
  rw [if_neg h0, rgcd_f hn hd k (by omega), Option.bind_some, rsize_nat hn, Option.bind_some, if_neg (by omega), rsize_nat hd, Option.bind_some, w _ (natAbs_le hn), w _ (natAbs_le hd)]
  obtain ⟨k, rfl⟩ : ∃ m, k = m + 2 := ⟨k - 2, by omega⟩
  split
  · exact j0_low _ _ _ k (q _ (natAbs_le hn)) (q _ (natAbs_le hd))
  · exact j0_low _ _ _ k (q _ (natAbs_le hn)) (q _ (natAbs_le hd))


/-- A small fraction in lowest terms. -/
theorem ratio_small {s n : Int} (h0 : -4611686018427387904 ≤ s) (h1 : s ≤ 4611686018427387904) (n0 : 0 < n) (n1 : n ≤ 1048576) : ∃ p q : Int, Evl (fun k => safeint_NewRatio.f k s n) (p, q, 0) ∧ 0 < q ∧ q ≤ n ∧ p * n = s * q ∧ -4611686018427387904 ≤ p ∧ p ≤ 4611686018427387904 ∧ Evl (fun k => safeint_Gcd.f k p q) 1 := by
  have hs : I64 s := ⟨by omega, by omega⟩
  have hn : I64 n := ⟨by omega, by omega⟩
  obtain ⟨g, hg⟩ : ∃ g, Nat.gcd s.natAbs n.natAbs = g := ⟨_, rfl⟩
  have gp : 0 < g := by rw [← hg]; exact Nat.gcd_pos_of_pos_right _ (by omega)
  obtain ⟨u, hu⟩ : g ∣ s.natAbs := by rw [← hg]; exact Nat.gcd_dvd_left _ _
  obtain ⟨v, hv⟩ : g ∣ n.natAbs := by rw [← hg]; exact Nat.gcd_dvd_right _ _
  have du : s.natAbs / g = u := by rw [hu]; exact Nat.mul_div_cancel_left _ gp
  have dv : n.natAbs / g = v := by rw [hv]; exact Nat.mul_div_cancel_left _ gp
  have ule : u ≤ s.natAbs := by rw [← du]; exact Nat.div_le_self _ _
  have vle : v ≤ n.natAbs := by rw [← dv]; exact Nat.div_le_self _ _
  have vp : 0 < v := by
    rcases Nat.eq_zero_or_pos v with h | h
    · rw [h, Nat.mul_zero] at hv; omega
    · exact h
  have cop : Nat.gcd u v = 1 := by
    have := Nat.coprime_div_gcd_div_gcd (m := s.natAbs) (n := n.natAbs) (by rw [hg]; exact gp)
    rw [hg, du, dv] at this; exact this
  have hr : Evl (fun k => safeint_NewRatio.f k s n) (lowest u v (minusOf s n)) := ⟨n.natAbs + 4, fun k hk => by show safeint_NewRatio.f k s n = _; rw [ratio_f hs hn (by omega) k (by omega), hg, du, dv]⟩
  have low : lowest u v (minusOf s n) = (if minusOf s n then -(u : Int) else u, (v : Int), 0) := by
    unfold lowest; rw [if_neg (by omega)]
  rw [low] at hr
  have hn' : n = (g : Int) * v := by have : (n.natAbs : Int) = ((g * v : Nat) : Int) := by rw [hv]
                                     rw [Int.natCast_mul] at this; omega
  have hs' : (s.natAbs : Int) = (g : Int) * u := by rw [hu, Int.natCast_mul]
  have hm : minusOf s n = decide (s < 0) := by
    unfold minusOf
    rw [decide_eq_false (show ¬ n < 0 by omega)]
    by_cases c : s < 0
    · rw [decide_eq_true c, if_pos (by decide)]; exact bne_iff_ne.mpr (by omega)
    · rw [decide_eq_false c, if_neg (by decide)]
  refine ⟨if minusOf s n then -(u : Int) else u, v, hr, by omega, by omega, ?_, ?_, ?_, ?_⟩
  · rw [hm]
    by_cases c : s < 0
    · rw [decide_eq_true c, if_pos rfl, hn', show s = -((g : Int) * u) by omega]; simp only [Int.neg_mul]; congr 1; rw [← Int.mul_assoc, Int.mul_comm (u : Int) g]
    · rw [decide_eq_false c, if_neg (by decide), hn', show s = (g : Int) * u by omega, ← Int.mul_assoc, Int.mul_comm (u : Int) g]
  · split <;> omega
  · split <;> omega
  · refine ⟨v + 1, fun k hk => ?_⟩
    show safeint_Gcd.f k _ _ = _
    rw [rgcd_f (by unfold I64; split <;> omega) (by unfold I64; omega) k (by omega)]
    have : (if minusOf s n = true then -(u : Int) else u).natAbs = u := by split <;> omega
    rw [this, show ((v : Int)).natAbs = v by omega, cop]; rfl

theorem tmod_next {k len : Int} (h0 : 0 ≤ k) (h1 : k < len) : Int.tmod (k + 1) len = if k + 1 < len then k + 1 else 0 := by
  rw [Int.tmod_eq_emod_of_nonneg (by omega)]
  by_cases h : k + 1 < len
  · rw [if_pos h, Int.emod_eq_of_lt (by omega) h]
  · rw [if_neg h, show k + 1 = len by omega, Int.emod_self]
/-- The next place of a ring. -/
def nx (len k : Int) : Int := if k + 1 < len then k + 1 else 0
theorem nx_in {len k : Int} (h0 : 0 ≤ k) (h1 : k < len) : 0 ≤ nx len k ∧ nx len k < len := by unfold nx; split <;> omega
/-- What is asked of one place of a ring. -/
structure Link (E : List S98) (l : List Int) (k : Int) : Prop where
  a0 : 0 ≤ rd l k
  a1 : rd l k < (E.length : Int)
  b0 : 0 ≤ rd l (nx l.length k)
  b1 : rd l (nx l.length k) < (E.length : Int)
  on : (rd_T98 E (rd l k)).f1 = (rd_T98 E (rd l (nx l.length k))).f0
/-- These edges make a circle. -/
structure Ring (E : List S98) (l : List Int) : Prop where
  pos : 0 < (l.length : Int)
  ok : ∀ k : Int, 0 ≤ k → k < (l.length : Int) → Link E l k
  once : ∀ j k : Int, 0 ≤ j → j < k → k < (l.length : Int) → (rd_T98 E (rd l j)).f1 ≠ (rd_T98 E (rd l k)).f1
/-- What the first edges of a ring cost. -/
def csum (E : List S98) (l : List Int) : Nat → Int
  | 0 => 0
  | k + 1 => csum E l k + (rd_T98 E (rd l k)).f3
theorem csum_le {n : Int} {E : List S98} (R : Right n E) {l : List Int} {m : Nat} (h : ∀ k : Int, 0 ≤ k → k < (m : Int) → 0 ≤ rd l k ∧ rd l k < (E.length : Int)) : ∀ k : Nat, k ≤ m → -(k * 1048576 : Int) ≤ csum E l k ∧ csum E l k ≤ (k * 1048576 : Int) := by
  intro k
  induction k with
  | zero => intro _; simp [csum]
  | succ k ih =>
    intro hk
    have a := ih (by omega)
    obtain ⟨x0, x1⟩ := h k (by omega) (by omega)
    have e := R.e _ x0 x1
    have d0 := e.d0
    have d1 := e.d1
    simp only [csum]; push_cast; omega

/-- What follows the program's rounds over the circle. -/
def mean_tail (k : Nat) (n : Int) (E : List S98) (P : List Int) (len c : Int) : Option (Int × Int × Int) := (proof_reduced.f k n E P len).bind fun bt250 => (if bt250.1 = 0 then (proof_Mean_1.l1 k len c bt250.2 (bt250.2.length : Int) 0 0 0) else (some (bt250.1, 0, 0)))

theorem ring_loop {n : Int} {E : List S98} (R : Right n E) {l P : List Int} (pos : 0 < (l.length : Int)) (hl : (l.length : Int) ≤ 4096) (d : Nat) : ∀ (k : Nat) (B : List Bool), k + d = l.length → (B.length : Int) = n →
    (∀ v : Int, 0 ≤ v → v < n → (rdOf false B v = true ↔ ∃ j : Int, 0 ≤ j ∧ j < (k : Int) ∧ (rd_T98 E (rd l j)).f1 = v)) → (∀ j : Int, 0 ≤ j → j < (k : Int) → Link E l j) → (∀ i j : Int, 0 ≤ i → i < j → j < (k : Int) → (rd_T98 E (rd l i)).f1 ≠ (rd_T98 E (rd l j)).f1) →
    ∃ b : Bool, Evl (fun q => compassref04_Circle.l0 q l B k n E) b ∧ (b = true ↔ Ring E l) ∧ (b = false → Evl (fun q => proof_Mean_1.l0 q l.length B (csum E l k) l l.length k n E l P 0 0) (221, 0, 0)) ∧
      (b = true → ∀ r, Evl (fun q => mean_tail q n E P l.length (csum E l l.length)) r → Evl (fun q => proof_Mean_1.l0 q l.length B (csum E l k) l l.length k n E l P 0 0) r) := by
  induction d with
  | zero =>
    intro k B hk hB hb hL hO
    have e : k = l.length := by omega
    subst e
    refine ⟨true, Evl.here fun q => by rw [compassref04_Circle.l0, if_neg (by omega)], ⟨fun _ => ⟨pos, fun j a b => hL j a b, fun i j a b c => hO i j a b c⟩, fun _ => rfl⟩, fun h => (by cases h), fun _ r H => H.step fun q => ?_⟩
    rw [proof_Mean_1.l0, if_neg (by omega)]; rfl
  | succ d ih =>
    intro k B hk hB hb hL hO
    have g : (k : Int) < (l.length : Int) := by omega
    have w : wrap64 ((k : Int) + 1) = ((k + 1 : Nat) : Int) := by rw [w1 (by omega) (by omega)]; rfl
    have wt : Int.tmod (wrap64 ((k : Int) + 1)) (l.length : Int) = nx l.length k := by rw [w1 (by omega) (by omega), tmod_next (by omega) g]; rfl
    obtain ⟨x0, x1⟩ := nx_in (len := (l.length : Int)) (k := (k : Int)) (by omega) g
    -- the program, up to the test that falls
    have no : ¬ Ring E l → (∀ q, compassref04_Circle.l0 (q + 2) l B k n E = some false) → (∀ q, proof_Mean_1.l0 (q + 1) l.length B (csum E l k) l l.length k n E l P 0 0 = some (221, 0, 0)) →
        ∃ b : Bool, Evl (fun q => compassref04_Circle.l0 q l B k n E) b ∧ (b = true ↔ Ring E l) ∧ (b = false → Evl (fun q => proof_Mean_1.l0 q l.length B (csum E l k) l l.length k n E l P 0 0) (221, 0, 0)) ∧
          (b = true → ∀ r, Evl (fun q => mean_tail q n E P l.length (csum E l l.length)) r → Evl (fun q => proof_Mean_1.l0 q l.length B (csum E l k) l l.length k n E l P 0 0) r) := fun hn h1 h2 =>
      ⟨false, Evl.step (h := fun q => compassref04_Circle.l0 (q + 1) l B k n E) (Evl.here fun q => h1 q) fun q => rfl, ⟨fun h => (by cases h), fun h => absurd h hn⟩, fun _ => Evl.here fun q => h2 q, fun h => (by cases h)⟩
    by_cases c1 : rd l k ≥ 0
    · by_cases c2 : rd l k < (E.length : Int)
      · by_cases c3 : rd l (nx l.length k) ≥ 0
        · by_cases c4 : rd l (nx l.length k) < (E.length : Int)
          · have e := R.e _ c1 c2
            have t0 := e.b0
            have t1 : (rd_T98 E (rd l k)).f1 < (B.length : Int) := by rw [hB]; exact e.b1
            by_cases c5 : (rd_T98 E (rd l k)).f1 = (rd_T98 E (rd l (nx l.length k))).f0
            · by_cases c6 : rdOf false B (rd_T98 E (rd l k)).f1 = true
              · refine no (fun h => ?_) (fun q => ?_) (fun q => ?_)
                · obtain ⟨j, j0, j1, ej⟩ := (hb _ t0 e.b1).1 c6
                  exact h.once j k j0 j1 g ej
                · rw [compassref04_Circle.l0, if_pos g, if_pos (by omega), if_neg (by omega), decide_eq_false (by omega), compassref04_Circle.j2, if_neg (by simp), if_neg (by omega), wt, if_pos x0, if_pos x1, if_neg (by omega), if_neg (by omega), if_pos (by omega), if_pos g, if_pos c1, if_pos c2, if_pos c3, if_pos c4, if_pos c5, if_pos t0, if_pos t1, if_pos c6]
                · rw [proof_Mean_1.l0, if_pos g, if_pos (by omega), if_pos g, if_neg (by omega), wt, if_pos x0, if_pos x1, if_pos c1, if_pos c2, if_pos c3, if_pos c4, if_pos c1, if_pos c3, if_pos c5, if_pos t0, if_pos t1, if_pos c6]
              · have rv : ∀ v : Int, 0 ≤ v → v < n → (rdOf false (B.set (rd_T98 E (rd l k)).f1.toNat true) v = true ↔ ∃ j : Int, 0 ≤ j ∧ j < ((k + 1 : Nat) : Int) ∧ (rd_T98 E (rd l j)).f1 = v) := fun v v0 v1 => by
                  rw [rdOf_set _ _ _ _ _ t0 t1 v0]
                  by_cases q : v = (rd_T98 E (rd l k)).f1
                  · rw [if_pos q]; exact ⟨fun _ => ⟨k, by omega, by omega, q.symm⟩, fun _ => rfl⟩
                  · rw [if_neg q, hb v v0 v1]
                    constructor
                    · rintro ⟨j, a, b, c⟩; exact ⟨j, a, by omega, c⟩
                    · rintro ⟨j, a, b, c⟩
                      by_cases t : j = k
                      · rw [t] at c; exact absurd c.symm q
                      · exact ⟨j, a, by omega, c⟩
                have link : Link E l k := ⟨c1, c2, c3, c4, c5⟩
                obtain ⟨b, e1, e2, e3, e4⟩ := ih (k + 1) (B.set (rd_T98 E (rd l k)).f1.toNat true) (by omega) (by rw [List.length_set]; exact hB) rv (fun j a b => by
                  by_cases t : j = k
                  · rw [t]; exact link
                  · exact hL j a (by omega)) (fun i j a b c => by
                  by_cases t : j = k
                  · rw [t]; intro h
                    exact c6 ((hb _ t0 e.b1).2 ⟨i, a, by omega, h⟩)
                  · exact hO i j a b (by omega))
                have cl := csum_le R (l := l) (m := k) (fun j a b => ⟨(hL j a b).a0, (hL j a b).a1⟩) k (Nat.le_refl _)
                have d0 := e.d0
                have d1 := e.d1
                have wc : wrap64 (csum E l k + (rd_T98 E (rd l k)).f3) = csum E l (k + 1) := by rw [wr (by omega) (by omega)]; rfl
                have ps : ∀ q, proof_Mean_1.l0 (q + 1) l.length B (csum E l k) l l.length k n E l P 0 0 = proof_Mean_1.l0 q l.length (B.set (rd_T98 E (rd l k)).f1.toNat true) (csum E l (k + 1)) l l.length ((k + 1 : Nat) : Int) n E l P 0 0 := fun q => by
                  rw [proof_Mean_1.l0, if_pos g, if_pos (by omega), if_pos g, if_neg (by omega), wt, if_pos x0, if_pos x1, if_pos c1, if_pos c2, if_pos c3, if_pos c4, if_pos c1, if_pos c3, if_pos c5, if_pos t0, if_pos t1, if_neg c6, wc, w]
                refine ⟨b, Evl.step (h := fun q => compassref04_Circle.j2 q l B k false n E) (e1.step fun q => ?_) fun q => ?_, e2, fun h => (e3 h).step fun q => ps q, fun h r H => (e4 h r H).step fun q => ps q⟩
                · rw [compassref04_Circle.j2, if_neg (by simp), if_neg (by omega), wt, if_pos x0, if_pos x1, if_neg (by omega), if_neg (by omega), if_pos (by omega), if_pos g, if_pos c1, if_pos c2, if_pos c3, if_pos c4, if_pos c5, if_pos t0, if_pos t1, if_neg c6, w]
                · rw [compassref04_Circle.l0, if_pos g, if_pos (by omega), if_neg (by omega), decide_eq_false (by omega)]
            · refine no (fun h => c5 (h.ok k (by omega) g).on) (fun q => ?_) (fun q => ?_)
              · rw [compassref04_Circle.l0, if_pos g, if_pos (by omega), if_neg (by omega), decide_eq_false (by omega), compassref04_Circle.j2, if_neg (by simp), if_neg (by omega), wt, if_pos x0, if_pos x1, if_neg (by omega), if_neg (by omega), if_pos (by omega), if_pos g, if_pos c1, if_pos c2, if_pos c3, if_pos c4, if_neg c5]
              · rw [proof_Mean_1.l0, if_pos g, if_pos (by omega), if_pos g, if_neg (by omega), wt, if_pos x0, if_pos x1, if_pos c1, if_pos c2, if_pos c3, if_pos c4, if_pos c1, if_pos c3, if_neg c5]
          · refine no (fun h => c4 (h.ok k (by omega) g).b1) (fun q => ?_) (fun q => ?_)
            · rw [compassref04_Circle.l0, if_pos g, if_pos (by omega), if_neg (by omega), decide_eq_false (by omega), compassref04_Circle.j2, if_neg (by simp), if_neg (by omega), wt, if_pos x0, if_pos x1, if_neg (by omega), if_pos (by omega)]
            · rw [proof_Mean_1.l0, if_pos g, if_pos (by omega), if_pos g, if_neg (by omega), wt, if_pos x0, if_pos x1, if_pos c1, if_pos c2, if_pos c3, if_neg c4]
        · refine no (fun h => c3 (h.ok k (by omega) g).b0) (fun q => ?_) (fun q => ?_)
          · rw [compassref04_Circle.l0, if_pos g, if_pos (by omega), if_neg (by omega), decide_eq_false (by omega), compassref04_Circle.j2, if_neg (by simp), if_neg (by omega), wt, if_pos x0, if_pos x1, if_pos (by omega)]
          · rw [proof_Mean_1.l0, if_pos g, if_pos (by omega), if_pos g, if_neg (by omega), wt, if_pos x0, if_pos x1, if_pos c1, if_pos c2, if_neg c3]
      · refine no (fun h => c2 (h.ok k (by omega) g).a1) (fun q => ?_) (fun q => ?_)
        · rw [compassref04_Circle.l0, if_pos g, if_pos (by omega), if_neg (by omega), decide_eq_true (by omega), compassref04_Circle.j2, if_pos rfl]
        · rw [proof_Mean_1.l0, if_pos g, if_pos (by omega), if_pos g, if_neg (by omega), wt, if_pos x0, if_pos x1, if_pos c1, if_neg c2]
    · refine no (fun h => c1 (h.ok k (by omega) g).a0) (fun q => ?_) (fun q => ?_)
      · rw [compassref04_Circle.l0, if_pos g, if_pos (by omega), if_pos (by omega), compassref04_Circle.j2, if_pos rfl]
      · rw [proof_Mean_1.l0, if_pos g, if_pos (by omega), if_pos g, if_neg (by omega), wt, if_pos x0, if_pos x1, if_neg c1]
end Go.Proofs.Ytkdoihcjhccliaa.G
