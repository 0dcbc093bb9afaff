/- Fractions are held against each other exactly. -/
/- By the potentials no circle has a lesser mean. -/
/- The law ProofMeanSound. -/
import Derived.Test.YtkdoihcjhccliaaQ51
import Derived.Test.YtkdoihcjhccliaaQ52
import Derived.Test.YtkdoihcjhccliaaMean
import Derived.Test.YtkdoihcjhccliaaAcyc
import Derived.Test.YtkdoihcjhccliaaQ53
import Derived.Test.YtkdoihcjhccliaaAwake
namespace Go.Proofs.Ytkdoihcjhccliaa.G
open Go.RowKit Go.Proofs.Ytkdoihcjhccliaa.Q Go.Proofs.YtkdoihcjhccliaaW.PrintWords Go.Proofs.YtkdoihcjhccliaaW.PrintLast
set_option linter.unusedVariables false
def sgn (a b : Int) : Int := if a < b then -1 else if a = b then 0 else 1
theorem mul_natAbs_lt {a b : Int} (ha : I64 a) (hb : I64 b) : (a * b).natAbs ≤ 85070591730234615865843651857942052864 := by
  rw [Int.natAbs_mul]
  have h1 : a.natAbs ≤ 9223372036854775808 := by unfold I64 at ha; omega
  have h2 : b.natAbs ≤ 9223372036854775808 := by unfold I64 at hb; omega
  exact Nat.mul_le_mul h1 h2
theorem mul64_f (x y : Int) (hx0 : 0 ≤ x) (hx : x < 18446744073709551616) (hy0 : 0 ≤ y) (hy : y < 18446744073709551616) :
    bits_Mul64.f x y = some (x * y / 18446744073709551616, x * y % 18446744073709551616) := by
  have hT : ∀ z : Int, Go.bits .and .u64 (IntKind.u64.wrap z) 4294967295 = (z % 18446744073709551616) % 4294967296 := fun z => by
    rw [wu64]; exact and_low32 _ (by omega) (by omega)
  unfold bits_Mul64.f
  rw [and_low32 x hx0 hx, and_low32 y hy0 hy, hT]
  simp only [wu64]
  rw [mul64_arith x y hx0 hx hy0 hy]
theorem mulMM (a b : Int) : (a + 18446744073709551616) * (b + 18446744073709551616) = a * b + 18446744073709551616 * (a + b + 18446744073709551616) := by grind
theorem mulM1 (a b : Int) : (a + 18446744073709551616) * b = a * b + 18446744073709551616 * b := by grind
theorem mulM2 (a b : Int) : a * (b + 18446744073709551616) = a * b + 18446744073709551616 * a := by grind
theorem fin1 (P s : Int) (h0 : -85070591730234615865843651857942052864 ≤ P) (h1 : P ≤ 85070591730234615865843651857942052864) :
    (P + 18446744073709551616 * s) / 18446744073709551616 = P / 18446744073709551616 + s ∧ (P + 18446744073709551616 * s) % 18446744073709551616 = P % 18446744073709551616 := by omega
theorem fin2 (q a b : Int) (h0 : -4611686018427387904 ≤ q) (h1 : q ≤ 4611686018427387904) :
    wrap64 (wrap64 (wrap64 (q + (a + b + 18446744073709551616)) - b) - a) = q ∧ wrap64 (wrap64 (q + b) - b) = q ∧ wrap64 (wrap64 (q + a) - a) = q ∧ wrap64 q = q := by unfold wrap64; omega
theorem product_f (a b : Int) (ha : I64 a) (hb : I64 b) : safeint_Product.f a b = some (a * b / 18446744073709551616, a * b % 18446744073709551616) := by
  have hP := mul_natAbs_lt ha hb
  have h0 : -85070591730234615865843651857942052864 ≤ a * b := by clear ha hb; omega
  have h1 : a * b ≤ 85070591730234615865843651857942052864 := by clear ha hb h0; omega
  clear hP
  unfold I64 at *
  unfold safeint_Product.f
  have ea : IntKind.u64.wrap a = if a < 0 then a + 18446744073709551616 else a := by rw [wu64]; split <;> omega
  have eb : IntKind.u64.wrap b = if b < 0 then b + 18446744073709551616 else b := by rw [wu64]; split <;> omega
  have bq : -4611686018427387904 ≤ a * b / 18446744073709551616 ∧ a * b / 18446744073709551616 ≤ 4611686018427387904 := by clear ea eb ha hb; omega
  have f2 := fin2 (a * b / 18446744073709551616) a b bq.1 bq.2
  rw [mul64_f _ _ (by rw [wu64]; omega) (by rw [wu64]; omega) (by rw [wu64]; omega) (by rw [wu64]; omega)]
  rw [Option.bind_some, ea, eb]
  by_cases h2 : a < 0
  · by_cases h3 : b < 0
    · rw [if_pos h2, if_pos h3, if_pos h2, if_pos h3, mulMM, (fin1 _ _ h0 h1).1, (fin1 _ _ h0 h1).2, f2.1]
    · rw [if_pos h2, if_neg h3, if_pos h2, if_neg h3, mulM1, (fin1 _ _ h0 h1).1, (fin1 _ _ h0 h1).2, f2.2.1]
  · by_cases h3 : b < 0
    · rw [if_neg h2, if_pos h3, if_neg h2, if_pos h3, mulM2, (fin1 _ _ h0 h1).1, (fin1 _ _ h0 h1).2, f2.2.2.1]
    · rw [if_neg h2, if_neg h3, if_neg h2, if_neg h3, f2.2.2.2]
theorem wcompare_f (P R : Int) (k : Nat) : safeint_Compare.f (k + 1) (P / 18446744073709551616) (P % 18446744073709551616) (R / 18446744073709551616) (R % 18446744073709551616) = some (sgn P R) := by
  have key : ∀ b : Bool, (b = true ↔ P < R) → safeint_Compare.j0 (k + 1) b (P / 18446744073709551616) (P % 18446744073709551616) (R / 18446744073709551616) (R % 18446744073709551616) = some (sgn P R) := by
    intro b hb
    rw [safeint_Compare.j0]
    unfold sgn
    by_cases h : P < R
    · rw [if_pos (hb.mpr h), if_pos h]
    · rw [if_neg (fun c => h (hb.mp c)), if_neg h]
      by_cases h2 : P = R
      · rw [if_pos h2, if_pos (by simp [h2])]
      · rw [if_neg h2, if_neg (by simp only [Bool.and_eq_true, beq_iff_eq]; omega)]
  unfold safeint_Compare.f
  split
  · exact key _ (by constructor <;> intro h <;> first | rfl | omega)
  · split
    · exact key _ (by rw [decide_eq_true_iff]; omega)
    · exact key _ (by constructor <;> intro h <;> first | (exact absurd h (by decide)) | omega)
def ordVal (a b c d : Int) : Int := if ((decide (b < 0)) != (decide (d < 0))) = true then sgn (c * b) (a * d) else sgn (a * d) (c * b)
def ordSaid (a b c d : Int) : Int × Int := if b = 0 ∨ d = 0 then (0, 11) else (ordVal a b c d, 0)
theorem sgn_neg (x y : Int) : wrap64 (-(sgn x y)) = sgn y x := by
  unfold sgn
  rcases Int.lt_trichotomy x y with h | h | h
  · rw [if_pos h, if_neg (by omega), if_neg (by omega)]; unfold wrap64; decide
  · rw [if_neg (by omega), if_pos h, if_neg (by omega), if_pos h.symm]; unfold wrap64; decide
  · rw [if_neg (by omega), if_neg (by omega), if_pos h]; unfold wrap64; decide
theorem order_f {a b c d : Int} (ha : I64 a) (hb : I64 b) (hc : I64 c) (hd : I64 d) (k : Nat) : safeint_Order.f (k + 2) a b c d = some (ordSaid a b c d) := by
  have key : ∀ z : Bool, (z = true ↔ (b = 0 ∨ d = 0)) → safeint_Order.j0 (k + 2) a b c d z = some (ordSaid a b c d) := by
    intro z hz
    rw [safeint_Order.j0]
    unfold ordSaid
    by_cases h : b = 0 ∨ d = 0
    · rw [if_pos (hz.mpr h), if_pos h]
    · rw [if_neg (fun c => h (hz.mp c)), if_neg h, product_f a d ha hd, Option.bind_some, product_f c b hc hb, Option.bind_some, wcompare_f, Option.bind_some, sgn_neg]
      unfold ordVal
      split <;> rfl
  unfold safeint_Order.f
  by_cases h : b = 0
  · rw [if_pos h]; exact key _ (by simp [h])
  · rw [if_neg h]; exact key _ (by simp [h])
end Go.Proofs.Ytkdoihcjhccliaa.G
namespace Go.Proofs.Ytkdoihcjhccliaa.G
open Go.RowKit Go.Proofs.Ytkdoihcjhccliaa.Q Go.Proofs.YtkdoihcjhccliaaW.PrintWords Go.Proofs.YtkdoihcjhccliaaW.PrintLast
set_option linter.unusedVariables false
/-- Around a circle the potentials fall out. -/
theorem ring_tel {E : List S98} {l P : List Int} (h : Ring E l) {len c : Int} (F : Fine E P len c) : ∀ k : Nat, (k : Int) < (l.length : Int) → ((k : Int) + 1) * c ≤ len * csum E l (k + 1) + rd P (rd_T98 E (rd l 0)).f0 - rd P (rd_T98 E (rd l k)).f1 := by
  intro k
  induction k with
  | zero =>
    intro hk
    have L := h.ok 0 (Int.le_refl 0) hk
    have f := F _ L.a0 L.a1
    unfold red at f
    simp only [csum]
    rw [show (((0 : Nat) : Int) + 1) * c = c by omega, show ((0 : Nat) : Int) = 0 from rfl, Int.zero_add]
    omega
  | succ k ih =>
    intro hk
    have i := ih (by omega)
    have L0 := h.ok k (by omega) (by omega)
    have L := h.ok ((k + 1 : Nat) : Int) (by omega) hk
    have on := L0.on
    rw [nx, if_pos (by omega)] at on
    have f := F _ L.a0 L.a1
    unfold red at f
    rw [csum, Int.mul_add, show (((k + 1 : Nat) : Int) + 1) * c = ((k : Int) + 1) * c + c by rw [Int.add_mul (((k + 1 : Nat) : Int)), Int.one_mul]; push_cast; rfl]
    rw [show rd l ((k : Int) + 1) = rd l ((k + 1 : Nat) : Int) from rfl] at on
    rw [on] at i
    omega
theorem ring_mean {E : List S98} {l P : List Int} (h : Ring E l) {len c : Int} (F : Fine E P len c) : (l.length : Int) * c ≤ len * csum E l l.length := by
  have pos := h.pos
  obtain ⟨m, hm⟩ : ∃ m : Nat, l.length = m + 1 := ⟨l.length - 1, by omega⟩
  have t := ring_tel h F m (by omega)
  have L := (h.ok (m : Int) (by omega) (by omega)).on
  rw [nx, if_neg (by omega)] at L
  rw [L] at t
  rw [hm]
  push_cast
  omega
/-- The mean that is proved is no greater than another circle's. -/
theorem mean_less {E : List S98} {l l' P : List Int} {p q : Int} (H : Ring E l) (H' : Ring E l') (F : Fine E P l.length (csum E l l.length)) (pq : p * (l.length : Int) = csum E l l.length * q) (q0 : 0 < q) : p * (l'.length : Int) ≤ csum E l' l'.length * q := by
  have pos := H.pos
  have m := ring_mean H' F
  have a := Int.mul_le_mul_of_nonneg_right m (Int.le_of_lt q0)
  -- (len' * cost) * q = p * len' * len
  have b : (l'.length : Int) * csum E l l.length * q = p * (l'.length : Int) * (l.length : Int) := by
    rw [Int.mul_assoc, ← pq, ← Int.mul_assoc, Int.mul_comm (l'.length : Int) p]
  have c : (l.length : Int) * csum E l' l'.length * q = csum E l' l'.length * q * (l.length : Int) := by
    rw [Int.mul_assoc, Int.mul_comm]
  rw [b, c] at a
  exact Int.le_of_mul_le_mul_right a pos
end Go.Proofs.Ytkdoihcjhccliaa.G
namespace Go.Proofs.Ytkdoihcjhccliaa.Pure
open Go.Proofs.Ytkdoihcjhccliaa.G Go.Proofs.Ytkdoihcjhccliaa.Q Go.RowKit Go.Proofs.YtkdoihcjhccliaaW.PrintWords Go.Proofs.YtkdoihcjhccliaaW.PrintLast
theorem ProofMeanSound (n : Int) (E : List S98) (l P l' O : List Int) : ∃ K, compasslaw11_ProofMeanSound.f K n E l P l' O = some true := by
  obtain ⟨p, q, e, s, c, h1, -, z1, z2, -⟩ := mean_f n E l P
  obtain ⟨x, h3, -, y2, -⟩ := acyclic_f n E O
  obtain ⟨a, b, -, g2, g3, g4, g5⟩ := check_f n E
  refine Evl.at (r := true) ?_
  refine (Evl.bind (h := fun k t584 => if t584 = true then ((proof_Mean.f k n E l P).bind fun bt585 => ((proof_Acyclic.f k n E O).bind fun t589 => ((compassref03_Check.f k n E).bind fun bt590 => (if bt590.1 = 0 then ((compassref04_Circle.f k n E l').bind fun t592 => (compasslaw11_ProofMeanSound.j0 k bt585.2.2 t589 t592 n E l' O bt585.1 bt585.2.1)) else (compasslaw11_ProofMeanSound.j0 k bt585.2.2 t589 false n E l' O bt585.1 bt585.2.1))))) else (some false)) awake_f ?_).congr fun k => rfl
  refine (Evl.bind (h := fun k bt585 => (proof_Acyclic.f k n E O).bind fun t589 => ((compassref03_Check.f k n E).bind fun bt590 => (if bt590.1 = 0 then ((compassref04_Circle.f k n E l').bind fun t592 => (compasslaw11_ProofMeanSound.j0 k bt585.2.2 t589 t592 n E l' O bt585.1 bt585.2.1)) else (compasslaw11_ProofMeanSound.j0 k bt585.2.2 t589 false n E l' O bt585.1 bt585.2.1)))) h1 ?_).congr fun k => by rw [if_pos rfl]
  refine Evl.bind (h := fun k t589 => (compassref03_Check.f k n E).bind fun bt590 => (if bt590.1 = 0 then ((compassref04_Circle.f k n E l').bind fun t592 => (compasslaw11_ProofMeanSound.j0 k e t589 t592 n E l' O p q)) else (compasslaw11_ProofMeanSound.j0 k e t589 false n E l' O p q))) h3 ?_
  refine Evl.bind (h := fun k bt590 => if bt590.1 = 0 then ((compassref04_Circle.f k n E l').bind fun t592 => (compasslaw11_ProofMeanSound.j0 k e x t592 n E l' O p q)) else (compasslaw11_ProofMeanSound.j0 k e x false n E l' O p q)) g2 ?_
  -- what follows, told by whether there is a circle
  have rest : ∀ t : Bool, (t = true → Right n E ∧ Ring E l') → Evl (fun k => compasslaw11_ProofMeanSound.j0 k e x t n E l' O p q) true := by
    intro t ht
    have no1 : x = 0 → e ≠ 0 := fun hx he => by
      obtain ⟨R, T⟩ := y2 hx
      exact no_ring R T (z2 he).2.1
    have no2 : x = 0 → t ≠ true := fun hx h => by
      obtain ⟨R, T⟩ := y2 hx
      exact no_ring R T (ht h).2
    have fin : Evl (fun k => compasslaw11_ProofMeanSound.j1 k e t false n E l' O p q) true := by
      by_cases he : e = 0
      · by_cases h : t = true
        · obtain ⟨R, H'⟩ := ht h
          obtain ⟨-, H, hp, F, hs, hc, q0, qc, pq, p0, p1, -⟩ := z2 he
          have ln := H'.le_nodes R
          have n1 := R.n1
          have rng : ∀ k : Int, 0 ≤ k → k < (l'.length : Int) → 0 ≤ rd l' k ∧ rd l' k < (E.length : Int) := fun k a b => ⟨(H'.ok k a b).a0, (H'.ok k a b).a1⟩
          have cl := csum_le R (l := l') rng l'.length (Nat.le_refl _)
          have pos' := H'.pos
          have pos := H.pos
          have lm := H.le_nodes R
          have ord : Evl (fun k => safeint_Order.f k p q (csum E l' l'.length) (l'.length : Int)) (ordSaid p q (csum E l' l'.length) (l'.length : Int)) := ⟨2, fun k hk => by
            obtain ⟨m, rfl⟩ : ∃ m, k = m + 2 := ⟨k - 2, by omega⟩
            exact order_f ⟨by omega, by omega⟩ ⟨by omega, by omega⟩ ⟨by omega, by omega⟩ ⟨by omega, by omega⟩ m⟩
          have less := mean_less H H' F (p := p) (q := q) (by rw [hs, hc] at pq; exact pq) q0
          have said : ordSaid p q (csum E l' l'.length) (l'.length : Int) = (sgn (p * (l'.length : Int)) (csum E l' l'.length * q), 0) := by
            unfold ordSaid ordVal
            rw [if_neg (by omega), decide_eq_false (by omega), decide_eq_false (by omega), if_neg (by decide)]
          rw [said] at ord
          refine Evl.step (h := fun k => compasslaw11_ProofMeanSound.j2 k e false n E l' O p q) (Evl.step (h := fun k => (compassref08_Cost.f k n E l').bind fun t593 => ((safeint_Order.f k p q t593 (l'.length : Int)).bind fun bt594 => (if bt594.2 = 0 then (some (decide (bt594.1 ≤ 0))) else (some false)))) (Evl.bind (h := fun k t593 => (safeint_Order.f k p q t593 (l'.length : Int)).bind fun bt594 => (if bt594.2 = 0 then (some (decide (bt594.1 ≤ 0))) else (some false))) (G.cost_f R (by omega) rng) (Evl.bind (h := fun k bt594 => if bt594.2 = 0 then (some (decide (bt594.1 ≤ 0))) else (some false)) ord (Evl.pure.congr fun k => ?_))) fun k => ?_) fun k => ?_
          · rw [if_pos rfl, decide_eq_true]
            unfold sgn
            split
            · omega
            · split <;> omega
          · rw [compasslaw11_ProofMeanSound.j2, if_neg (by simp)]
          · rw [compasslaw11_ProofMeanSound.j1, if_neg (by simp), if_pos he, h, Bool.not_true]
        · have h' : t = false := by simpa using h
          exact Evl.step (h := fun k => compasslaw11_ProofMeanSound.j2 k e true n E l' O p q) (Evl.here fun k => by rw [compasslaw11_ProofMeanSound.j2, if_pos rfl, if_pos he]) fun k => by rw [compasslaw11_ProofMeanSound.j1, if_neg (by simp), if_pos he, h', Bool.not_false]
      · obtain ⟨p0, q0⟩ := z1 he
        exact Evl.step (h := fun k => compasslaw11_ProofMeanSound.j2 k e true n E l' O p q) (Evl.here fun k => by rw [compasslaw11_ProofMeanSound.j2, if_pos rfl, if_neg he, p0, q0]; rfl) fun k => by rw [compasslaw11_ProofMeanSound.j1, if_neg (by simp), if_neg he]
    by_cases hx : x = 0
    · have h' : t = false := by have := no2 hx; simpa using this
      exact fin.step fun k => by rw [compasslaw11_ProofMeanSound.j0, if_pos hx, if_neg (no1 hx), h']
    · exact fin.step fun k => by rw [compasslaw11_ProofMeanSound.j0, if_neg hx]
  by_cases ha : a = 0
  · obtain ⟨-, R⟩ := g3 ha
    obtain ⟨cb, c1, c2⟩ := circle_f R l'
    exact (Evl.bind (h := fun k t592 => compasslaw11_ProofMeanSound.j0 k e x t592 n E l' O p q) c1 (rest cb fun h => ⟨R, c2.1 h⟩)).congr fun k => by rw [if_pos ha]
  · exact (rest false fun h => (by cases h)).congr fun k => by rw [if_neg ha]
end Go.Proofs.Ytkdoihcjhccliaa.Pure
