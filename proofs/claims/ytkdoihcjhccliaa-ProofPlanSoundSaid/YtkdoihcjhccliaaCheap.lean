/- Plans: the program's looks take just what the document's do. -/
import Derived.Test.YtkdoihcjhccliaaQ13
import Derived.Test.YtkdoihcjhccliaaQ29
import Derived.Test.YtkdoihcjhccliaaQ30
import Derived.Test.YtkdoihcjhccliaaQ31
import Derived.Test.YtkdoihcjhccliaaPlans
namespace Go.Proofs.Ytkdoihcjhccliaa.G
open Go.RowKit Go.Proofs.Ytkdoihcjhccliaa.Q Go.Proofs.YtkdoihcjhccliaaW.PrintWords Go.Proofs.YtkdoihcjhccliaaW.PrintLast
set_option linter.unusedVariables false

/-- Potentials prove the amounts cheapest. -/
def Tight (E : List S98) (A P : List Int) : Prop := ∀ i : Int, 0 ≤ i → i < (E.length : Int) → (red P 1 (rd_T98 E i) > 0 → rd A i = 0) ∧ (red P 1 (rd_T98 E i) < 0 → rd A i = (rd_T98 E i).f2)
/-- Amounts that fit and meet the supplies. -/
structure Meets (n : Int) (E : List S98) (S A : List Int) : Prop where
  len : A.length = E.length
  fit : Amts E A
  out : ∀ v : Int, 0 ≤ v → v < n → net E A v E.length = rd S v

theorem cheap_l2 {E : List S98} {S A P : List Int} (hm : (E.length : Int) ≤ 4096) (hA : A.length = E.length) (d : Nat) : ∀ i : Nat, i + d = E.length → Evl (fun k => proof_Cheapest_1.l2 k E E.length i S A P (totw E A i)) (0, totw E A E.length) := by
  induction d with
  | zero => intro i hi; exact Evl.here fun k => by rw [proof_Cheapest_1.l2, if_neg (by omega), show i = E.length by omega]
  | succ d ih =>
    intro i hi
    have w : wrap64 ((i : Int) + 1) = ((i + 1 : Nat) : Int) := by rw [w1 (by omega) (by omega)]; rfl
    exact (ih (i + 1) (by omega)).step fun k => by rw [proof_Cheapest_1.l2, if_pos (by omega), if_pos (by omega), if_pos (by omega), if_pos (by omega), w]; rfl
theorem cheap_l1 {n : Int} {E : List S98} {S A P C : List Int} (hm : (E.length : Int) ≤ 4096) (hA : A.length = E.length) (fit : Amts E A) (hC : C.length = E.length) (hr : ∀ j : Int, 0 ≤ j → j < (E.length : Int) → rd C j = red P 1 (rd_T98 E j)) (d : Nat) : ∀ i : Nat, i + d = E.length →
    (∀ j : Int, 0 ≤ j → j < (i : Int) → (red P 1 (rd_T98 E j) > 0 → rd A j = 0) ∧ (red P 1 (rd_T98 E j) < 0 → rd A j = (rd_T98 E j).f2)) →
    ∃ r : Int × Int, Evl (fun k => proof_Cheapest_1.l1 k C C.length i n E S A P 0) r ∧ (Tight E A P → r = (0, totw E A E.length)) ∧ (¬ Tight E A P → r = (221, 0)) := by
  induction d with
  | zero =>
    intro i hi hP
    have t : Tight E A P := fun j a b => hP j a (by omega)
    exact ⟨_, (cheap_l2 (S := S) (P := P) hm hA E.length 0 (by omega)).step fun k => by rw [proof_Cheapest_1.l1, if_neg (by omega)]; rfl, fun _ => rfl, fun h => absurd t h⟩
  | succ d ih =>
    intro i hi hP
    have w : wrap64 ((i : Int) + 1) = ((i + 1 : Nat) : Int) := by rw [w1 (by omega) (by omega)]; rfl
    have g : (i : Int) < (E.length : Int) := by omega
    have hi2 := hr i (by omega) g
    have a := fit i (by omega) g
    by_cases ok : (red P 1 (rd_T98 E i) > 0 → rd A i = 0) ∧ (red P 1 (rd_T98 E i) < 0 → rd A i = (rd_T98 E i).f2)
    · obtain ⟨r, e1, e2, e3⟩ := ih (i + 1) (by omega) (fun j j0 j1 => by
        by_cases q : j = i
        · rw [q]; exact ok
        · exact hP j j0 (by omega))
      refine ⟨r, e1.step fun k => ?_, e2, e3⟩
      rw [proof_Cheapest_1.l1, if_pos (by omega), if_pos (by omega), if_pos (by omega), w, hi2]
      by_cases c1 : red P 1 (rd_T98 E i) ≤ 0
      · rw [if_pos c1]
        by_cases c2 : red P 1 (rd_T98 E i) ≥ 0
        · rw [if_pos c2]
        · rw [if_neg c2, if_pos (by omega), if_pos g, if_pos (ok.2 (by omega))]
      · rw [if_neg c1, if_pos (by omega), if_pos (ok.1 (by omega)), if_pos (by omega)]
    · refine ⟨(221, 0), Evl.here fun k => ?_, fun h => absurd (h i (by omega) g) ok, fun _ => rfl⟩
      rw [proof_Cheapest_1.l1, if_pos (by omega), if_pos (by omega), if_pos (by omega), w, hi2]
      by_cases c1 : red P 1 (rd_T98 E i) ≤ 0
      · rw [if_pos c1]
        by_cases c2 : red P 1 (rd_T98 E i) ≥ 0
        · exact absurd ⟨fun h => by omega, fun h => by omega⟩ ok
        · rw [if_neg c2, if_pos (by omega), if_pos g, if_neg (fun h => ok ⟨fun q => by omega, fun _ => h⟩)]
      · rw [if_neg c1, if_pos (by omega), if_neg (fun h => ok ⟨fun _ => h, fun q => by omega⟩)]
theorem cheap_l0 {n : Int} {E : List S98} (R : Right n E) {S A P O : List Int} (hS : (S.length : Int) = n) (hA : A.length = E.length) (fit : Amts E A) (hO : (O.length : Int) = n) (ho : ∀ v : Int, 0 ≤ v → v < n → rd O v = net E A v E.length) (d : Nat) : ∀ i : Nat, ((i + d : Nat) : Int) = n →
    (∀ v : Int, 0 ≤ v → v < (i : Int) → rd O v = rd S v) →
    ∃ r : Int × Int, Evl (fun k => proof_Cheapest_1.l0 k O O.length i n E S A P 0) r ∧ (Meets n E S A ∧ Pots n P ∧ Tight E A P → r = (0, totw E A E.length)) ∧ (¬ (Meets n E S A ∧ Pots n P ∧ Tight E A P) → r = (221, 0)) := by
  have n1 := R.n1
  induction d with
  | zero =>
    intro i hi hP
    have M : Meets n E S A := ⟨hA, fit, fun v v0 v1 => by rw [← ho v v0 v1]; exact hP v v0 (by omega)⟩
    obtain ⟨cr, e1, e2, e3⟩ := reduced_f R P (q := 1) (by omega) (by omega)
    have go : ∀ {r : Int × Int}, Evl (fun k => if cr.1 = 0 then (proof_Cheapest_1.l1 k cr.2 (cr.2.length : Int) 0 n E S A P 0) else (some (cr.1, 0))) r → Evl (fun k => proof_Cheapest_1.l0 k O O.length i n E S A P 0) r := fun h =>
      (Evl.bind (h := fun k bt170 => if bt170.1 = 0 then (proof_Cheapest_1.l1 k bt170.2 (bt170.2.length : Int) 0 n E S A P 0) else (some (bt170.1, 0))) e1 h).step fun k => by rw [proof_Cheapest_1.l0, if_neg (by omega)]
    by_cases hp : Pots n P
    · obtain ⟨k1, k2, k3⟩ := e2 hp
      obtain ⟨r, f1, f2, f3⟩ := cheap_l1 (n := n) (S := S) R.m1 hA fit k2 k3 E.length 0 (by omega) (fun j a b => by omega)
      exact ⟨r, go (f1.congr fun k => by rw [if_pos k1]; rfl), fun h => f2 h.2.2, fun h => f3 fun t => h ⟨M, hp, t⟩⟩
    · have k1 := e3 hp
      exact ⟨(221, 0), go (Evl.pure.congr fun k => by rw [k1, if_neg (by decide)]), fun h => absurd h.2.1 hp, fun _ => rfl⟩
  | succ d ih =>
    intro i hi hP
    have w : wrap64 ((i : Int) + 1) = ((i + 1 : Nat) : Int) := by rw [w1 (by omega) (by omega)]; rfl
    by_cases c : rd O i = rd S i
    · obtain ⟨r, e1, e2, e3⟩ := ih (i + 1) (by omega) (fun v v0 v1 => by
        by_cases q : v = i
        · rw [q]; exact c
        · exact hP v v0 (by omega))
      exact ⟨r, e1.step fun k => by rw [proof_Cheapest_1.l0, if_pos (by omega), if_pos (by omega), if_pos (by omega), if_pos (by omega), if_pos c, w], e2, e3⟩
    · exact ⟨(221, 0), Evl.here fun k => by rw [proof_Cheapest_1.l0, if_pos (by omega), if_pos (by omega), if_pos (by omega), if_pos (by omega), if_neg c], fun h => absurd (by rw [ho i (by omega) (by omega)]; exact h.1.out i (by omega) (by omega)) c, fun _ => rfl⟩

/-- The document's last rounds. -/
theorem cheap_d0 {n : Int} {E : List S98} (R : Right n E) {A P : List Int} (hA : A.length = E.length) (fit : Amts E A) (hp : Pots n P) (d : Nat) : ∀ i : Nat, i + d = E.length →
    (∀ j : Int, 0 ≤ j → j < (i : Int) → (red P 1 (rd_T98 E j) > 0 → rd A j = 0) ∧ (red P 1 (rd_T98 E j) < 0 → rd A j = (rd_T98 E j).f2)) →
    ∃ r : Int × Int, Evl (fun k => compassref11_Cheapest.l0 k A P i n E) r ∧ (Tight E A P → r = (totw E A E.length, 0)) ∧ (¬ Tight E A P → r = (0, 221)) := by
  have hm := R.m1
  induction d with
  | zero =>
    intro i hi hP
    have t : Tight E A P := fun j a b => hP j a (by omega)
    exact ⟨_, (Evl.bind (h := fun k t386 => some (t386, (0 : Int))) (total_f (n := n) hm hA) Evl.pure).step fun k => by rw [compassref11_Cheapest.l0, if_neg (by omega)], fun _ => rfl, fun h => absurd t h⟩
  | succ d ih =>
    intro i hi hP
    have w : wrap64 ((i : Int) + 1) = ((i + 1 : Nat) : Int) := by rw [w1 (by omega) (by omega)]; rfl
    have g : (i : Int) < (E.length : Int) := by omega
    have hr := red_f hp (R.e i (by omega) g)
    have a := fit i (by omega) g
    by_cases ok : (red P 1 (rd_T98 E i) > 0 → rd A i = 0) ∧ (red P 1 (rd_T98 E i) < 0 → rd A i = (rd_T98 E i).f2)
    · obtain ⟨r, e1, e2, e3⟩ := ih (i + 1) (by omega) (fun j j0 j1 => by
        by_cases q : j = i
        · rw [q]; exact ok
        · exact hP j j0 (by omega))
      refine ⟨r, e1.step fun k => ?_, e2, e3⟩
      rw [compassref11_Cheapest.l0, if_pos (by omega), if_pos (by omega), if_pos g, hr, Option.bind_some, w]
      by_cases c1 : red P 1 (rd_T98 E i) > 0
      · have := ok.1 c1
        rw [if_pos c1, if_neg (by omega), if_neg (by omega)]
      · rw [if_neg c1]
        by_cases c2 : red P 1 (rd_T98 E i) < 0
        · have := ok.2 c2
          rw [if_pos c2, if_neg (by omega)]
        · rw [if_neg c2]
    · refine ⟨(0, 221), Evl.here fun k => ?_, fun h => absurd (h i (by omega) g) ok, fun _ => rfl⟩
      rw [compassref11_Cheapest.l0, if_pos (by omega), if_pos (by omega), if_pos g, hr, Option.bind_some, w]
      by_cases c1 : red P 1 (rd_T98 E i) > 0
      · have : rd A i ≠ 0 := fun h => ok ⟨fun _ => h, fun q => by omega⟩
        rw [if_pos c1, if_pos (by omega)]
      · rw [if_neg c1]
        by_cases c2 : red P 1 (rd_T98 E i) < 0
        · have : rd A i ≠ (rd_T98 E i).f2 := fun h => ok ⟨fun q => by omega, fun _ => h⟩
          rw [if_pos c2, if_pos (by omega)]
        · exact absurd ⟨fun h => by omega, fun h => by omega⟩ ok

theorem cheap_f (n : Int) (E : List S98) (S A P : List Int) : ∃ v e : Int, Evl (fun k => proof_Cheapest.f k n E S A P) (v, e) ∧ Evl (fun k => compassref11_Cheapest.f k n E S A P) (v, e) ∧
    (e ≠ 0 → v = 0) ∧ (e = 0 → Right n E ∧ Sup n S ∧ Meets n E S A ∧ Pots n P ∧ Tight E A P ∧ v = cost E A E.length) ∧ (Right n E → Sup n S → Meets n E S A → Pots n P → Tight E A P → e = 0) := by
  obtain ⟨c, a, g1, g2, g3, g4, g5⟩ := check_f n E
  have hr := right_f g1
  have prog : ∀ {r : Int × Int}, Evl (fun k => proof_Cheapest_1.f k n E S A P 0) r → Evl (fun k => proof_Cheapest.f k n E S A P) (r.2, r.1) := fun h => (Evl.bind (h := fun k t => some (t.2, t.1)) h Evl.pure).congr fun k => rfl
  by_cases hc : c = 0
  · subst hc
    obtain ⟨rfl, R⟩ := g3 rfl
    have n0 := R.n0
    obtain ⟨x, s1, s2, s3, s4⟩ := supplied_f R g2 S
    have start : ∀ {r : Int × Int}, Evl (fun k => if x = 0 then ((proof_carried.f k n E A).bind fun bt164 => (if bt164.1 = 0 then (proof_Cheapest_1.l0 k bt164.2 (bt164.2.length : Int) 0 n E S A P 0) else (some (bt164.1, 0)))) else (some (x, 0))) r → Evl (fun k => proof_Cheapest_1.f k n E S A P 0) r := fun h =>
      (Evl.bind (h := fun k u => if u = 0 then _ else some (u, (0 : Int))) hr ((Evl.bind (h := fun k t163 => if t163 = 0 then ((proof_carried.f k n E A).bind fun bt164 => (if bt164.1 = 0 then (proof_Cheapest_1.l0 k bt164.2 (bt164.2.length : Int) 0 n E S A P 0) else (some (bt164.1, 0)))) else (some (t163, 0))) s1 h).congr fun k => by rw [if_pos rfl])).congr fun k => rfl
    have dstart : ∀ {r : Int × Int}, Evl (fun k => if x = 0 then ((compassref11_Fits.f k n E A S).bind fun t377 => (if t377 = true then ((compassref11_Pots.f k n E P).bind fun t378 => (compassref11_Cheapest.j0 k A P (!t378) n E)) else (compassref11_Cheapest.j0 k A P true n E))) else (some (0, x))) r → Evl (fun k => compassref11_Cheapest.f k n E S A P) r := fun h =>
      (Evl.bind (h := fun k t376 => if t376 = 0 then ((compassref11_Fits.f k n E A S).bind fun t377 => (if t377 = true then ((compassref11_Pots.f k n E P).bind fun t378 => (compassref11_Cheapest.j0 k A P (!t378) n E)) else (compassref11_Cheapest.j0 k A P true n E))) else (some (0, t376))) s2 h).congr fun k => rfl
    by_cases hx : x = 0
    · have U := s4.1 hx
      obtain ⟨cr, e1, e2, e3⟩ := carried_f R (A := A)
      obtain ⟨fb, f1, f2⟩ := fits_f R (A := A) (S := S) U.len
      obtain ⟨pb, p1, p2⟩ := pots_f E n0 R.n1 P
      have no : Evl (fun k => compassref11_Cheapest.j0 k A P true n E) (0, 221) := Evl.here fun k => by rw [compassref11_Cheapest.j0, if_pos rfl]
      have doc : ∃ r : Int × Int, Evl (fun k => compassref11_Cheapest.f k n E S A P) r ∧ (Meets n E S A ∧ Pots n P ∧ Tight E A P → r = (totw E A E.length, 0)) ∧ (¬ (Meets n E S A ∧ Pots n P ∧ Tight E A P) → r = (0, 221)) := by
        by_cases q1 : fb = true
        · have M := f2.1 q1
          have dgo : ∀ {r : Int × Int}, Evl (fun k => compassref11_Cheapest.j0 k A P (!pb) n E) r → Evl (fun k => compassref11_Cheapest.f k n E S A P) r := fun h => dstart ((Evl.bind (h := fun k t377 => if t377 = true then ((compassref11_Pots.f k n E P).bind fun t378 => (compassref11_Cheapest.j0 k A P (!t378) n E)) else (compassref11_Cheapest.j0 k A P true n E)) f1 ((Evl.bind (h := fun k t378 => compassref11_Cheapest.j0 k A P (!t378) n E) p1 h).congr fun k => by rw [if_pos q1])).congr fun k => by rw [if_pos hx])
          by_cases q2 : pb = true
          · have hp := p2.1 q2
            obtain ⟨r, d1, d2, d3⟩ := cheap_d0 R M.1.1 M.1.2 hp E.length 0 (by omega) (fun j a b => by omega)
            exact ⟨r, dgo (d1.step fun k => by rw [q2, Bool.not_true, compassref11_Cheapest.j0, if_neg (by simp)]; rfl), fun h => d2 h.2.2, fun h => d3 fun t => h ⟨⟨M.1.1, M.1.2, M.2⟩, hp, t⟩⟩
          · have q2' : pb = false := by simpa using q2
            exact ⟨(0, 221), dgo (no.congr fun k => by rw [q2', Bool.not_false]), fun h => absurd (p2.2 h.2.1) q2, fun _ => rfl⟩
        · exact ⟨(0, 221), dstart ((Evl.bind (h := fun k t377 => if t377 = true then ((compassref11_Pots.f k n E P).bind fun t378 => (compassref11_Cheapest.j0 k A P (!t378) n E)) else (compassref11_Cheapest.j0 k A P true n E)) f1 (no.congr fun k => by rw [if_neg q1])).congr fun k => by rw [if_pos hx]), fun h => absurd (f2.2 ⟨⟨h.1.len, h.1.fit⟩, h.1.out⟩) q1, fun _ => rfl⟩
      have pr : ∃ r : Int × Int, Evl (fun k => proof_Cheapest_1.f k n E S A P 0) r ∧ (Meets n E S A ∧ Pots n P ∧ Tight E A P → r = (0, totw E A E.length)) ∧ (¬ (Meets n E S A ∧ Pots n P ∧ Tight E A P) → r = (221, 0)) := by
        have go : ∀ {r : Int × Int}, Evl (fun k => if cr.1 = 0 then (proof_Cheapest_1.l0 k cr.2 (cr.2.length : Int) 0 n E S A P 0) else (some (cr.1, 0))) r → Evl (fun k => proof_Cheapest_1.f k n E S A P 0) r := fun h => start ((Evl.bind (h := fun k bt164 => if bt164.1 = 0 then (proof_Cheapest_1.l0 k bt164.2 (bt164.2.length : Int) 0 n E S A P 0) else (some (bt164.1, 0))) e1 h).congr fun k => by rw [if_pos hx])
        by_cases qa : A.length = E.length ∧ Amts E A
        · obtain ⟨k1, k2, k3⟩ := e2 qa
          obtain ⟨r, m1, m2, m3⟩ := cheap_l0 R (S := S) (P := P) U.len qa.1 qa.2 k2 k3 n.toNat 0 (by omega) (fun v a b => by omega)
          exact ⟨r, go (m1.congr fun k => by rw [if_pos k1]; rfl), m2, m3⟩
        · have k1 := e3 qa
          exact ⟨(221, 0), go (Evl.pure.congr fun k => by rw [k1, if_neg (by decide)]), fun h => absurd ⟨h.1.len, h.1.fit⟩ qa, fun _ => rfl⟩
      obtain ⟨r1, d1, d2, d3⟩ := doc
      obtain ⟨r2, p1', p2', p3'⟩ := pr
      by_cases F : Meets n E S A ∧ Pots n P ∧ Tight E A P
      · have q1 := d2 F
        have q2 := p2' F
        subst q1 q2
        exact ⟨_, _, prog p1', d1, fun h => absurd rfl h, fun _ => ⟨R, U, F.1, F.2.1, F.2.2, (totw_cost R (F.1.fit.labs R) E.length (Nat.le_refl _)).1⟩, fun _ _ _ _ _ => rfl⟩
      · have q1 := d3 F
        have q2 := p3' F
        subst q1 q2
        exact ⟨_, _, prog p1', d1, fun _ => rfl, fun h => (by cases h), fun _ _ h1 h2 h3 => absurd ⟨h1, h2, h3⟩ F⟩
    · exact ⟨0, x, prog (r := (x, 0)) (start (Evl.pure.congr fun k => by rw [if_neg hx])), dstart (Evl.pure.congr fun k => by rw [if_neg hx]), fun _ => rfl, fun h => absurd h hx, fun _ h => absurd (s4.2 h) hx⟩
  · refine ⟨0, c, prog (r := (c, 0)) ((Evl.bind (h := fun k u => if u = 0 then _ else some (u, (0 : Int))) hr (Evl.pure.congr fun k => by rw [if_neg hc])).congr fun k => rfl), (Evl.bind (h := fun k u => if u = 0 then _ else some ((0 : Int), u)) (supplies_bad hc g2 S) (Evl.pure.congr fun k => by rw [if_neg hc])).congr fun k => rfl, fun _ => rfl, fun h => absurd h hc, fun R => absurd (g5 R) hc⟩

/-- What is supplied on a side. -/
def bsum (B : List Bool) (S : List Int) : Nat → Int
  | 0 => 0
  | i + 1 => bsum B S i + (if rdOf false B i = true then rd S i else 0)
theorem bsum_le {B : List Bool} {S : List Int} {m : Nat} (h : ∀ v : Int, 0 ≤ v → v < (m : Int) → -1048576 ≤ rd S v ∧ rd S v ≤ 1048576) : ∀ i : Nat, i ≤ m → -(i * 1048576 : Int) ≤ bsum B S i ∧ bsum B S i ≤ (i * 1048576 : Int) := by
  intro i
  induction i with
  | zero => intro _; simp [bsum]
  | succ i ih =>
    intro hi
    have a := ih (by omega)
    have b := h (i : Int) (by omega) (by omega)
    simp only [bsum]; push_cast
    split <;> omega
theorem noplan_f (n : Int) (E : List S98) (S : List Int) (B : List Bool) : ∃ e : Int, Evl (fun k => proof_NoPlan.f k n E S B) e ∧ Evl (fun k => compassref11_NoPlan.f k n E S B) e ∧
    (e = 0 → Right n E ∧ Sup n S ∧ (B.length : Int) = n ∧ cut E B E.length < bsum B S n.toNat) ∧ (Right n E → Sup n S → (B.length : Int) = n → cut E B E.length < bsum B S n.toNat → e = 0) := by
  obtain ⟨c, a, g1, g2, g3, g4, g5⟩ := check_f n E
  have hr := right_f g1
  by_cases hc : c = 0
  · subst hc
    obtain ⟨rfl, R⟩ := g3 rfl
    have n0 := R.n0
    have n1 := R.n1
    have m1 := R.m1
    obtain ⟨x, s1, s2, s3, s4⟩ := supplied_f R g2 S
    have start : ∀ {r : Int}, Evl (fun k => if x = 0 then ((proof_across.f k n E B).bind fun bt392 => (if bt392.1 = 0 then (proof_NoPlan_1.l0 k bt392.2 B (B.length : Int) 0 S) else (some bt392.1))) else (some x)) r → Evl (fun k => proof_NoPlan.f k n E S B) r := fun h =>
      (Evl.bind (h := fun k u => if u = 0 then _ else some u) hr ((Evl.bind (h := fun k t391 => if t391 = 0 then ((proof_across.f k n E B).bind fun bt392 => (if bt392.1 = 0 then (proof_NoPlan_1.l0 k bt392.2 B (B.length : Int) 0 S) else (some bt392.1))) else (some t391)) s1 h).congr fun k => by rw [if_pos rfl])).congr fun k => rfl
    have dstart : ∀ {r : Int}, Evl (fun k => if x = 0 then (if (B.length : Int) = n then (compassref11_NoPlan.l0 k S B 0 0 n E) else (some 221)) else (some x)) r → Evl (fun k => compassref11_NoPlan.f k n E S B) r := fun h =>
      (Evl.bind (h := fun k t397 => if t397 = 0 then (if (B.length : Int) = n then (compassref11_NoPlan.l0 k S B 0 0 n E) else (some 221)) else (some t397)) s2 h).congr fun k => rfl
    by_cases hx : x = 0
    · have U := s4.1 hx
      have ul := U.len
      by_cases hB : (B.length : Int) = n
      · have cb := cut_le R B E.length (Nat.le_refl _)
        have bl := bsum_le (B := B) (S := S) (m := n.toNat) (fun v v0 v1 => U.lab v v0 (by omega))
        have loop : ∀ (d i : Nat), ((i + d : Nat) : Int) = n → Evl (fun k => proof_NoPlan_1.l0 k (cut E B E.length - bsum B S i) B B.length i S) (if cut E B E.length < bsum B S n.toNat then 0 else 221) ∧ Evl (fun k => compassref11_NoPlan.l0 k S B (bsum B S i) i n E) (if cut E B E.length < bsum B S n.toNat then 0 else 221) := by
          intro d
          induction d with
          | zero =>
            intro i hi
            have e : n.toNat = i := by omega
            rw [e]
            constructor
            · exact Evl.here fun k => by
                rw [proof_NoPlan_1.l0, if_neg (by omega)]
                by_cases q : cut E B E.length < bsum B S i
                · rw [if_pos q, if_pos (by omega)]
                · rw [if_neg q, if_neg (by omega)]
            · refine (Evl.bind (h := fun k t400 => if bsum B S i ≤ t400 then some (221 : Int) else some 0) (cut_f R hB) (Evl.pure.congr fun k => ?_)).step fun k => by rw [compassref11_NoPlan.l0, if_neg (by omega)]
              by_cases q : cut E B E.length < bsum B S i
              · rw [if_pos q, if_neg (by omega)]
              · rw [if_neg q, if_pos (by omega)]
          | succ d ih =>
            intro i hi
            have w : wrap64 ((i : Int) + 1) = ((i + 1 : Nat) : Int) := by rw [w1 (by omega) (by omega)]; rfl
            obtain ⟨i1, i2⟩ := ih (i + 1) (by omega)
            have b0 := bl i (by omega)
            have l0 := U.lab i (by omega) (by omega)
            by_cases q : rdOf false B i = true
            · have z : bsum B S (i + 1) = bsum B S i + rd S i := by rw [bsum, if_pos q]
              rw [z] at i1 i2
              constructor
              · exact i1.step fun k => by rw [proof_NoPlan_1.l0, if_pos (by omega), if_pos (by omega), if_pos (by omega), if_pos q, if_pos (by omega), w, wr (by omega) (by omega)]; congr 1; omega
              · exact i2.step fun k => by rw [compassref11_NoPlan.l0, if_pos (by omega), if_pos (by omega), if_pos (by omega), if_pos q, if_pos (by omega), w, wr (by omega) (by omega)]
            · have z : bsum B S (i + 1) = bsum B S i := by rw [bsum, if_neg q]; omega
              rw [z] at i1 i2
              constructor
              · exact i1.step fun k => by rw [proof_NoPlan_1.l0, if_pos (by omega), if_pos (by omega), if_pos (by omega), if_neg q, w]
              · exact i2.step fun k => by rw [compassref11_NoPlan.l0, if_pos (by omega), if_pos (by omega), if_pos (by omega), if_neg q, w]
        obtain ⟨i1, i2⟩ := loop n.toNat 0 (by omega)
        refine ⟨_, start ((Evl.bind (h := fun k bt392 => if bt392.1 = 0 then (proof_NoPlan_1.l0 k bt392.2 B (B.length : Int) 0 S) else (some bt392.1)) (across_f R hB) (i1.congr fun k => by rw [if_pos rfl]; simp [bsum])).congr fun k => by rw [if_pos hx]), dstart (i2.congr fun k => by rw [if_pos hx, if_pos hB]; rfl), fun h => ?_, fun _ _ _ h => if_pos h⟩
        by_cases q : cut E B E.length < bsum B S n.toNat
        · exact ⟨R, U, hB, q⟩
        · rw [if_neg q] at h; cases h
      · exact ⟨221, start ((Evl.bind (h := fun k bt392 => if bt392.1 = 0 then (proof_NoPlan_1.l0 k bt392.2 B (B.length : Int) 0 S) else (some bt392.1)) (across_no hB) (Evl.pure.congr fun k => by rw [if_neg (by decide)])).congr fun k => by rw [if_pos hx]), dstart (Evl.pure.congr fun k => by rw [if_pos hx, if_neg hB]), fun h => (by cases h), fun _ _ h => absurd h hB⟩
    · exact ⟨x, start (Evl.pure.congr fun k => by rw [if_neg hx]), dstart (Evl.pure.congr fun k => by rw [if_neg hx]), fun h => absurd h hx, fun _ h => absurd (s4.2 h) hx⟩
  · exact ⟨c, (Evl.bind (h := fun k u => if u = 0 then _ else some u) hr (Evl.pure.congr fun k => by rw [if_neg hc])).congr fun k => rfl, (Evl.bind (h := fun k u => if u = 0 then _ else some u) (supplies_bad hc g2 S) (Evl.pure.congr fun k => by rw [if_neg hc])).congr fun k => rfl, fun h => absurd h hc, fun R => absurd (g5 R) hc⟩

/-- Where more is supplied on a side than can leave it no amounts meet the supplies. -/
theorem wsum_side {E : List S98} {A S : List Int} (B : List Bool) (i : Nat) (v : Nat) (h : ∀ u : Int, 0 ≤ u → u < v → net E A u i = rd S u) : wsum (ind B) E A i v = bsum B S v := by
  induction v with
  | zero => rfl
  | succ v ih =>
    rw [wsum, bsum, ih fun u a b => h u a (by omega), h v (by omega) (by omega), ind]
    split <;> omega
theorem no_plan {n : Int} {E : List S98} (R : Right n E) {S A : List Int} {B : List Bool} (M : Meets n E S A) : bsum B S n.toNat ≤ cut E B E.length := by
  have n0 := R.n0
  rw [← wsum_side (E := E) (A := A) B E.length n.toNat (fun u a b => M.out u a (by omega)), wsum_esum R (ind B) A E.length (Nat.le_refl _)]
  exact esum_cut R B M.fit E.length (Nat.le_refl _)
theorem plan_least {n : Int} {E : List S98} (R : Right n E) {S A O P : List Int} (M : Meets n E S A) (N : Meets n E S O) (t : Tight E A P) : cost E A E.length ≤ cost E O E.length := by
  refine cost_least R (P := P) (fun v a b => by rw [M.out v a b, N.out v a b]) fun i i0 i1 => ⟨fun h => ?_, fun h => ?_⟩
  · rw [(t i i0 i1).1 h]; exact (N.fit i i0 i1).1
  · rw [(t i i0 i1).2 h]; exact (N.fit i i0 i1).2
end Go.Proofs.Ytkdoihcjhccliaa.G
