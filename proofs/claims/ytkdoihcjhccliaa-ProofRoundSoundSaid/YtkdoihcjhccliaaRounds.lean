/- Rounds: the program's looks take just what the document's do. -/
import Derived.Test.YtkdoihcjhccliaaQ16
import Derived.Test.YtkdoihcjhccliaaQ40
import Derived.Test.YtkdoihcjhccliaaQ41
import Derived.Test.YtkdoihcjhccliaaQ45
import Derived.Test.YtkdoihcjhccliaaQ47
import Derived.Test.YtkdoihcjhccliaaQ48
import Derived.Test.YtkdoihcjhccliaaPlans
import Derived.Test.YtkdoihcjhccliaaTog
namespace Go.Proofs.Ytkdoihcjhccliaa.G
open Go.RowKit Go.Proofs.Ytkdoihcjhccliaa.Q Go.Proofs.YtkdoihcjhccliaaW.PrintWords Go.Proofs.YtkdoihcjhccliaaW.PrintLast
set_option linter.unusedVariables false

/-- No cost is below nothing. -/
def Free (E : List S98) : Prop := ∀ i : Int, 0 ≤ i → i < (E.length : Int) → 0 ≤ (rd_T98 E i).f3
/-- Each edge is walked once or more. -/
def Ones (m : Nat) (A : List Int) : Prop := ∀ i : Int, 0 ≤ i → i < (m : Int) → 1 ≤ rd A i ∧ rd A i ≤ 1048576
theorem Ones.labs {m : Nat} {A : List Int} (h : Ones m A) : Labs m A := fun i a b => ⟨by have := (h i a b).1; omega, (h i a b).2⟩
structure Rnd (n : Int) (E : List S98) (A : List Int) : Prop where
  len : A.length = E.length
  ones : Ones E.length A
  out : ∀ v : Int, 0 ≤ v → v < n → net E A v E.length = 0
/-- Potentials prove the round cheapest. -/
def Slack (E : List S98) (A P : List Int) : Prop := ∀ i : Int, 0 ≤ i → i < (E.length : Int) → 0 ≤ red P 1 (rd_T98 E i) ∧ (red P 1 (rd_T98 E i) > 0 → rd A i = 1)

theorem costs_bad {n : Int} {E : List S98} {c : Int} (hc : c ≠ 0) {a : Int} (g : Evl (fun k => compassref03_Check.f k n E) (c, a)) : Evl (fun k => compassref11_Costs.f k n E) c := by
  refine (Evl.bind (h := fun k bt => compassref11_Costs.l0 k bt.1 0 n E) g ?_).congr fun k => rfl
  refine Evl.step (h := fun k => compassref11_Costs.j1 k c 0 false n E) (Evl.here fun k => by rw [compassref11_Costs.j1, if_neg (by simp)]) fun k => by rw [compassref11_Costs.l0, if_neg hc]
theorem costs_f {n : Int} {E : List S98} (R : Right n E) {a : Int} (g : Evl (fun k => compassref03_Check.f k n E) (0, a)) : ∃ x : Int, Evl (fun k => compassref11_Costs.f k n E) x ∧ (x = 0 ∨ x = 80) ∧ (x = 0 ↔ Free E) := by
  have m1 := R.m1
  have loop : ∀ (d i : Nat), i + d = E.length → (∀ j : Int, 0 ≤ j → j < (i : Int) → 0 ≤ (rd_T98 E j).f3) → ∃ x : Int, Evl (fun k => compassref11_Costs.l0 k 0 i n E) x ∧ (x = 0 ∨ x = 80) ∧ (x = 0 ↔ Free E) := by
    intro d
    induction d with
    | zero =>
      intro i hi hP
      refine ⟨0, Evl.step (h := fun k => compassref11_Costs.j1 k 0 i false n E) (Evl.here fun k => by rw [compassref11_Costs.j1, if_neg (by simp)]) fun k => ?_, Or.inl rfl, fun _ j a b => hP j a (by omega), fun _ => rfl⟩
      rw [compassref11_Costs.l0, if_pos rfl, decide_eq_false (by omega)]
    | succ d ih =>
      intro i hi hP
      have g : (i : Int) < (E.length : Int) := by omega
      have w : wrap64 ((i : Int) + 1) = ((i + 1 : Nat) : Int) := by rw [w1 (by omega) (by omega)]; rfl
      by_cases c : (rd_T98 E i).f3 < 0
      · refine ⟨80, Evl.step (h := fun k => compassref11_Costs.j1 k 0 i true n E) (Evl.step (h := fun k => compassref11_Costs.l0 k 80 (wrap64 ((i : Int) + 1)) n E) (Evl.step (h := fun k => compassref11_Costs.j1 k 80 (wrap64 ((i : Int) + 1)) false n E) (Evl.here fun k => by rw [compassref11_Costs.j1, if_neg (by simp)]) fun k => by rw [compassref11_Costs.l0, if_neg (by decide)]) fun k => by rw [compassref11_Costs.j1, if_pos rfl, if_pos (by omega), if_pos g, if_pos c]) fun k => by rw [compassref11_Costs.l0, if_pos rfl, decide_eq_true g], Or.inr rfl, fun h => (by cases h), fun h => absurd (h i (by omega) g) (by omega)⟩
      · obtain ⟨x, e1, e2, e3⟩ := ih (i + 1) (by omega) (fun j j0 j1 => by
          by_cases q : j = i
          · rw [q]; omega
          · exact hP j j0 (by omega))
        exact ⟨x, Evl.step (h := fun k => compassref11_Costs.j1 k 0 i true n E) (e1.step fun k => by rw [compassref11_Costs.j1, if_pos rfl, if_pos (by omega), if_pos g, if_neg c, w]) fun k => by rw [compassref11_Costs.l0, if_pos rfl, decide_eq_true g], e2, e3⟩
  obtain ⟨x, e1, e2⟩ := loop E.length 0 (by omega) (fun j a b => by omega)
  exact ⟨x, (Evl.bind (h := fun k bt => compassref11_Costs.l0 k bt.1 0 n E) g e1).congr fun k => rfl, e2⟩

/-- Rounds, in the document. -/
theorem rounds_l1b {n : Int} {E : List S98} (R : Right n E) {A : List Int} (hA : A.length = E.length) (hL : Labs E.length A) (d : Nat) : ∀ i : Nat, ((i + d : Nat) : Int) = n →
    ∃ b : Bool, Evl (fun k => compassref11_Rounds.l1 k A i n E) b ∧ (b = true ↔ ∀ v : Int, (i : Int) ≤ v → v < n → net E A v E.length = 0) := by
  have n1 := R.n1
  induction d with
  | zero => intro i hi; exact ⟨true, Evl.here fun k => by rw [compassref11_Rounds.l1, if_neg (by omega)], fun _ v a b => by omega, fun _ => rfl⟩
  | succ d ih =>
    intro i hi
    have w : wrap64 ((i : Int) + 1) = ((i + 1 : Nat) : Int) := by rw [w1 (by omega) (by omega)]; rfl
    obtain ⟨r, h1, h2⟩ := out_f n E A i R.m1 hA
    have hr := h2 hL
    subst hr
    by_cases c : net E A i E.length = 0
    · obtain ⟨b, e1, e2⟩ := ih (i + 1) (by omega)
      refine ⟨b, (Evl.bind (h := fun k t477 => if t477 = 0 then (compassref11_Rounds.l1 k A (wrap64 ((i : Int) + 1)) n E) else some false) h1 (e1.congr fun k => by rw [if_pos c, w])).step fun k => by rw [compassref11_Rounds.l1, if_pos (by omega)], e2.trans ⟨fun h v a b => ?_, fun h v a b => h v (by omega) b⟩⟩
      by_cases q : v = i
      · rw [q]; exact c
      · exact h v (by omega) b
    · exact ⟨false, (Evl.bind (h := fun k t477 => if t477 = 0 then (compassref11_Rounds.l1 k A (wrap64 ((i : Int) + 1)) n E) else some false) h1 (Evl.pure.congr fun k => by rw [if_neg c])).step fun k => by rw [compassref11_Rounds.l1, if_pos (by omega)], fun h => (by cases h), fun h => absurd (h i (by omega) (by omega)) c⟩
theorem rounds_f {n : Int} {E : List S98} (R : Right n E) (A : List Int) : ∃ b : Bool, Evl (fun k => compassref11_Rounds.f k n E A) b ∧ (b = true ↔ Rnd n E A) := by
  have n0 := R.n0
  have m1 := R.m1
  by_cases h : A.length = E.length
  · have loop : ∀ (d i : Nat), i + d = E.length → (∀ j : Int, 0 ≤ j → j < (i : Int) → 1 ≤ rd A j ∧ rd A j ≤ 1048576) → ∃ b : Bool, Evl (fun k => compassref11_Rounds.l0 k A i n E) b ∧ (b = true ↔ Rnd n E A) := by
      intro d
      induction d with
      | zero =>
        intro i hi hP
        have o : Ones E.length A := fun j a b => hP j a (by omega)
        obtain ⟨b, e1, e2⟩ := rounds_l1b R h o.labs n.toNat 0 (by omega)
        exact ⟨b, e1.step fun k => by rw [compassref11_Rounds.l0, if_neg (by omega)]; rfl, e2.trans ⟨fun q => ⟨h, o, fun v a b => q v (by omega) b⟩, fun q v a b => q.out v (by omega) b⟩⟩
      | succ d ih =>
        intro i hi hP
        have w : wrap64 ((i : Int) + 1) = ((i + 1 : Nat) : Int) := by rw [w1 (by omega) (by omega)]; rfl
        by_cases c1 : rd A i < 1
        · exact ⟨false, Evl.here fun k => by rw [compassref11_Rounds.l0, if_pos (by omega), if_pos (by omega), if_pos c1], fun h => (by cases h), fun h => absurd (h.ones i (by omega) (by omega)).1 (by omega)⟩
        · by_cases c2 : rd A i > 1048576
          · exact ⟨false, Evl.here fun k => by rw [compassref11_Rounds.l0, if_pos (by omega), if_pos (by omega), if_neg c1, if_pos c2], fun h => (by cases h), fun h => absurd (h.ones i (by omega) (by omega)).2 (by omega)⟩
          · obtain ⟨b, e1, e2⟩ := ih (i + 1) (by omega) (fun j j0 j1 => by
              by_cases q : j = i
              · rw [q]; exact ⟨by omega, by omega⟩
              · exact hP j j0 (by omega))
            exact ⟨b, e1.step fun k => by rw [compassref11_Rounds.l0, if_pos (by omega), if_pos (by omega), if_neg c1, if_neg c2, w], e2⟩
    obtain ⟨b, e1, e2⟩ := loop E.length 0 (by omega) (fun j a b => by omega)
    exact ⟨b, e1.congr fun k => by rw [compassref11_Rounds.f, if_pos (by omega)]; rfl, e2⟩
  · exact ⟨false, Evl.pure.congr fun k => by rw [compassref11_Rounds.f, if_neg (by omega)], fun z => (by cases z), fun z => absurd z.len h⟩

/-- The document's last rounds. -/
theorem post_d0 {n : Int} {E : List S98} (R : Right n E) {A P : List Int} (hA : A.length = E.length) (o : Ones E.length A) (hp : Pots n P) (d : Nat) : ∀ i : Nat, i + d = E.length →
    (∀ j : Int, 0 ≤ j → j < (i : Int) → 0 ≤ red P 1 (rd_T98 E j) ∧ (red P 1 (rd_T98 E j) > 0 → rd A j = 1)) →
    ∃ r : Int × Int, Evl (fun k => compassref11_Postman.l0 k A P i n E) r ∧ (Slack E A P → r = (totw E A E.length, 0)) ∧ (¬ Slack E A P → r = (0, 221)) := by
  have hm := R.m1
  induction d with
  | zero =>
    intro i hi hP
    have t : Slack E A P := fun j a b => hP j a (by omega)
    exact ⟨_, (Evl.bind (h := fun k t525 => some (t525, (0 : Int))) (total_f (n := n) hm hA) Evl.pure).step fun k => by rw [compassref11_Postman.l0, if_neg (by omega)], fun _ => rfl, fun h => absurd t h⟩
  | succ d ih =>
    intro i hi hP
    have w : wrap64 ((i : Int) + 1) = ((i + 1 : Nat) : Int) := by rw [w1 (by omega) (by omega)]; rfl
    have g : (i : Int) < (E.length : Int) := by omega
    have hr := red_f hp (R.e i (by omega) g)
    have a := o i (by omega) g
    by_cases ok : 0 ≤ red P 1 (rd_T98 E i) ∧ (red P 1 (rd_T98 E i) > 0 → rd A i = 1)
    · obtain ⟨r, e1, e2, e3⟩ := ih (i + 1) (by omega) (fun j j0 j1 => by
        by_cases q : j = i
        · rw [q]; exact ok
        · exact hP j j0 (by omega))
      refine ⟨r, e1.step fun k => ?_, e2, e3⟩
      rw [compassref11_Postman.l0, if_pos (by omega), if_pos (by omega), if_pos g, hr, Option.bind_some, w, if_neg (by omega)]
      by_cases c1 : red P 1 (rd_T98 E i) > 0
      · have := ok.2 c1
        rw [if_pos c1, if_neg (by omega)]
      · rw [if_neg c1]
    · refine ⟨(0, 221), Evl.here fun k => ?_, fun h => absurd (h i (by omega) g) ok, fun _ => rfl⟩
      rw [compassref11_Postman.l0, if_pos (by omega), if_pos (by omega), if_pos g, hr, Option.bind_some, w]
      by_cases c1 : red P 1 (rd_T98 E i) < 0
      · rw [if_pos c1]
      · by_cases c2 : red P 1 (rd_T98 E i) > 0
        · have : rd A i ≠ 1 := fun h => ok ⟨by omega, fun _ => h⟩
          rw [if_neg c1, if_pos c2, if_pos (by omega)]
        · exact absurd ⟨by omega, fun h => by omega⟩ ok

theorem post_l4 {E : List S98} {A P : List Int} (hm : (E.length : Int) ≤ 4096) (hA : A.length = E.length) (d : Nat) : ∀ i : Nat, i + d = E.length → Evl (fun k => proof_Postman_1.l4 k E E.length i A P (totw E A i)) (0, totw E A E.length) := by
  induction d with
  | zero => intro i hi; exact Evl.here fun k => by rw [proof_Postman_1.l4, if_neg (by omega), show i = E.length by omega]
  | succ d ih =>
    intro i hi
    have w : wrap64 ((i : Int) + 1) = ((i + 1 : Nat) : Int) := by rw [w1 (by omega) (by omega)]; rfl
    exact (ih (i + 1) (by omega)).step fun k => by rw [proof_Postman_1.l4, if_pos (by omega), if_pos (by omega), if_pos (by omega), if_pos (by omega), w]; rfl
theorem post_l3 {n : Int} {E : List S98} {A P C : List Int} (hm : (E.length : Int) ≤ 4096) (hA : A.length = E.length) (hC : C.length = E.length) (hr : ∀ j : Int, 0 ≤ j → j < (E.length : Int) → rd C j = red P 1 (rd_T98 E j)) (d : Nat) : ∀ i : Nat, i + d = E.length →
    (∀ j : Int, 0 ≤ j → j < (i : Int) → 0 ≤ red P 1 (rd_T98 E j) ∧ (red P 1 (rd_T98 E j) > 0 → rd A j = 1)) →
    ∃ r : Int × Int, Evl (fun k => proof_Postman_1.l3 k C C.length i n E A P 0) r ∧ (Slack E A P → r = (0, totw E A E.length)) ∧ (¬ Slack E A P → r = (221, 0)) := by
  induction d with
  | zero =>
    intro i hi hP
    have t : Slack E A P := fun j a b => hP j a (by omega)
    exact ⟨_, (post_l4 (P := P) hm hA E.length 0 (by omega)).step fun k => by rw [proof_Postman_1.l3, if_neg (by omega)]; rfl, fun _ => rfl, fun h => absurd t h⟩
  | succ d ih =>
    intro i hi hP
    have w : wrap64 ((i : Int) + 1) = ((i + 1 : Nat) : Int) := by rw [w1 (by omega) (by omega)]; rfl
    have g : (i : Int) < (E.length : Int) := by omega
    have hi2 := hr i (by omega) g
    by_cases ok : 0 ≤ red P 1 (rd_T98 E i) ∧ (red P 1 (rd_T98 E i) > 0 → rd A i = 1)
    · obtain ⟨r, e1, e2, e3⟩ := ih (i + 1) (by omega) (fun j j0 j1 => by
        by_cases q : j = i
        · rw [q]; exact ok
        · exact hP j j0 (by omega))
      refine ⟨r, e1.step fun k => ?_, e2, e3⟩
      rw [proof_Postman_1.l3, if_pos (by omega), if_pos (by omega), if_pos (by omega), w, hi2]
      by_cases c1 : red P 1 (rd_T98 E i) = 0
      · rw [if_pos c1]
      · rw [if_neg c1, if_pos (by omega), if_pos (by omega), if_pos (ok.2 (by omega))]
    · refine ⟨(221, 0), Evl.here fun k => ?_, fun h => absurd (h i (by omega) g) ok, fun _ => rfl⟩
      rw [proof_Postman_1.l3, if_pos (by omega), if_pos (by omega), if_pos (by omega), w, hi2]
      by_cases c1 : red P 1 (rd_T98 E i) = 0
      · exact absurd ⟨by omega, fun h => by omega⟩ ok
      · by_cases c2 : red P 1 (rd_T98 E i) > 0
        · rw [if_neg c1, if_pos c2, if_pos (by omega), if_neg (fun h => ok ⟨by omega, fun _ => h⟩)]
        · rw [if_neg c1, if_neg c2]
theorem post_l2 {n : Int} {E : List S98} (R : Right n E) {A P O : List Int} (hA : A.length = E.length) (o : Ones E.length A) (hO : (O.length : Int) = n) (ho : ∀ v : Int, 0 ≤ v → v < n → rd O v = net E A v E.length) (d : Nat) : ∀ i : Nat, ((i + d : Nat) : Int) = n →
    (∀ v : Int, 0 ≤ v → v < (i : Int) → rd O v = 0) →
    ∃ r : Int × Int, Evl (fun k => proof_Postman_1.l2 k O O.length i n E A P 0) r ∧ (Rnd n E A ∧ Hang E ∧ Pots n P ∧ Slack E A P → r = (0, totw E A E.length)) ∧ (¬ (Rnd n E A ∧ Hang E ∧ Pots n P ∧ Slack E A P) → r = (221, 0)) := by
  have n1 := R.n1
  induction d with
  | zero =>
    intro i hi hP
    have M : Rnd n E A := ⟨hA, o, fun v v0 v1 => by rw [← ho v v0 v1]; exact hP v v0 (by omega)⟩
    obtain ⟨tb, t1, -, t2⟩ := tog_f R
    obtain ⟨cr, e1, e2, e3⟩ := reduced_f R P (q := 1) (by omega) (by omega)
    have go : ∀ {r : Int × Int}, Evl (fun k => if tb = true then ((proof_reduced.f k n E P 1).bind fun bt221 => (if bt221.1 = 0 then (proof_Postman_1.l3 k bt221.2 (bt221.2.length : Int) 0 n E A P 0) else (some (bt221.1, 0)))) else (some (221, 0))) r → Evl (fun k => proof_Postman_1.l2 k O O.length i n E A P 0) r := fun h =>
      (Evl.bind (h := fun k t220 => if t220 = true then ((proof_reduced.f k n E P 1).bind fun bt221 => (if bt221.1 = 0 then (proof_Postman_1.l3 k bt221.2 (bt221.2.length : Int) 0 n E A P 0) else (some (bt221.1, 0)))) else (some (221, 0))) t1 h).step fun k => by rw [proof_Postman_1.l2, if_neg (by omega)]
    by_cases ht : tb = true
    · have go2 : ∀ {r : Int × Int}, Evl (fun k => if cr.1 = 0 then (proof_Postman_1.l3 k cr.2 (cr.2.length : Int) 0 n E A P 0) else (some (cr.1, 0))) r → Evl (fun k => proof_Postman_1.l2 k O O.length i n E A P 0) r := fun h =>
        go ((Evl.bind (h := fun k bt221 => if bt221.1 = 0 then (proof_Postman_1.l3 k bt221.2 (bt221.2.length : Int) 0 n E A P 0) else (some (bt221.1, 0))) e1 h).congr fun k => by rw [if_pos ht])
      by_cases hp : Pots n P
      · obtain ⟨k1, k2, k3⟩ := e2 hp
        obtain ⟨r, f1, f2, f3⟩ := post_l3 (n := n) R.m1 hA k2 k3 E.length 0 (by omega) (fun j a b => by omega)
        exact ⟨r, go2 (f1.congr fun k => by rw [if_pos k1]; rfl), fun h => f2 h.2.2.2, fun h => f3 fun t => h ⟨M, t2.1 ht, hp, t⟩⟩
      · have k1 := e3 hp
        exact ⟨(221, 0), go2 (Evl.pure.congr fun k => by rw [k1, if_neg (by decide)]), fun h => absurd h.2.2.1 hp, fun _ => rfl⟩
    · exact ⟨(221, 0), go (Evl.pure.congr fun k => by rw [if_neg ht]), fun h => absurd (t2.2 h.2.1) ht, fun _ => rfl⟩
  | succ d ih =>
    intro i hi hP
    have w : wrap64 ((i : Int) + 1) = ((i + 1 : Nat) : Int) := by rw [w1 (by omega) (by omega)]; rfl
    by_cases c : rd O i = 0
    · obtain ⟨r, e1, e2, e3⟩ := ih (i + 1) (by omega) (fun v v0 v1 => by
        by_cases q : v = i
        · rw [q]; exact c
        · exact hP v v0 (by omega))
      exact ⟨r, e1.step fun k => by rw [proof_Postman_1.l2, if_pos (by omega), if_pos (by omega), if_pos (by omega), if_pos c, w], e2, e3⟩
    · exact ⟨(221, 0), Evl.here fun k => by rw [proof_Postman_1.l2, if_pos (by omega), if_pos (by omega), if_pos (by omega), if_neg c], fun h => absurd (by rw [ho i (by omega) (by omega)]; exact h.1.out i (by omega) (by omega)) c, fun _ => rfl⟩
theorem post_l1 {n : Int} {E : List S98} (R : Right n E) {A P : List Int} (hA : A.length = E.length) (d : Nat) : ∀ (i : Nat) (O : List Int), i + d = E.length → (O.length : Int) = n →
    (∀ j : Int, 0 ≤ j → j < (i : Int) → 1 ≤ rd A j ∧ rd A j ≤ 1048576) → (∀ v : Int, 0 ≤ v → v < n → rd O v = net E A v i) →
    ∃ r : Int × Int, Evl (fun k => proof_Postman_1.l1 k O E E.length i n E A P 0) r ∧ (Rnd n E A ∧ Hang E ∧ Pots n P ∧ Slack E A P → r = (0, totw E A E.length)) ∧ (¬ (Rnd n E A ∧ Hang E ∧ Pots n P ∧ Slack E A P) → r = (221, 0)) := by
  have hm := R.m1
  have n0 := R.n0
  induction d with
  | zero =>
    intro i O hi hO hP hN
    have e : i = E.length := by omega
    subst e
    obtain ⟨r, e1, e2⟩ := post_l2 R (P := P) hA (fun j a b => hP j a b) hO hN n.toNat 0 (by omega) (fun v a b => by omega)
    exact ⟨r, e1.step fun k => by rw [proof_Postman_1.l1, if_neg (by omega)]; rfl, e2⟩
  | succ d ih =>
    intro i O hi hO hP hN
    have g2 : (i : Int) < (E.length : Int) := by omega
    have g : (i : Int) < (A.length : Int) := by omega
    have w : wrap64 ((i : Int) + 1) = ((i + 1 : Nat) : Int) := by rw [w1 (by omega) (by omega)]; rfl
    have e := R.e i (by omega) g2
    have f0 := e.a0
    have f1 : (rd_T98 E i).f0 < (O.length : Int) := by rw [hO]; exact e.a1
    have t0 := e.b0
    have t1' := e.b1
    by_cases a0 : rd A i ≥ 1
    · by_cases a1 : rd A i ≤ 1048576
      · have t1 : (rd_T98 E i).f1 < ((O.set (rd_T98 E i).f0.toNat (wrap64 (rd O (rd_T98 E i).f0 + rd A i))).length : Int) := by rw [List.length_set, hO]; exact t1'
        have t1o : (rd_T98 E i).f1 < (O.length : Int) := by rw [hO]; exact t1'
        have hl : ∀ j : Int, 0 ≤ j → j < ((i + 1 : Nat) : Int) → 1 ≤ rd A j ∧ rd A j ≤ 1048576 := fun j h0 h1 => by
          by_cases q : j = i
          · rw [q]; exact ⟨a0, a1⟩
          · exact hP j h0 (by omega)
        have hlab : Labs i A := fun j h0 h1 => ⟨by have := (hP j h0 h1).1; omega, (hP j h0 h1).2⟩
        have hstep : ∀ v : Int, 0 ≤ v → v < n → rd (((O.set (rd_T98 E i).f0.toNat (wrap64 (rd O (rd_T98 E i).f0 + rd A i)))).set (rd_T98 E i).f1.toNat (wrap64 (rd (O.set (rd_T98 E i).f0.toNat (wrap64 (rd O (rd_T98 E i).f0 + rd A i))) (rd_T98 E i).f1 - rd A i))) v = net E A v (i + 1) := by
          intro v v0 v1
          rw [rd_set _ _ _ _ t0 t1 v0, rd_set _ _ _ _ f0 f1 v0, rd_set _ _ _ _ f0 f1 t0]
          have b0 := net_le (E := E) (v := v) hlab i (Nat.le_refl _)
          have bf := net_le (E := E) (v := (rd_T98 E i).f0) hlab i (Nat.le_refl _)
          have bt := net_le (E := E) (v := (rd_T98 E i).f1) hlab i (Nat.le_refl _)
          have of := hN (rd_T98 E i).f0 f0 (by omega)
          have ot := hN (rd_T98 E i).f1 t0 t1'
          have ov := hN v v0 v1
          simp only [net]
          by_cases q1 : v = (rd_T98 E i).f1
          · rw [if_pos q1, if_pos q1.symm]
            by_cases q0 : (rd_T98 E i).f1 = (rd_T98 E i).f0
            · rw [if_pos q0, if_pos (by omega), of, wr (x := net E A (rd_T98 E i).f0 i + rd A i) (by omega) (by omega), wr (by omega) (by omega), q1, q0]
            · rw [if_neg q0, if_neg (by omega), ot, wr (by omega) (by omega), q1]; omega
          · rw [if_neg q1, if_neg (show ¬ (rd_T98 E i).f1 = v from fun h => q1 h.symm)]
            by_cases q0 : v = (rd_T98 E i).f0
            · rw [if_pos q0, if_pos q0.symm, of, wr (by omega) (by omega), q0]; omega
            · rw [if_neg q0, if_neg (show ¬ (rd_T98 E i).f0 = v from fun h => q0 h.symm), ov]; omega
        obtain ⟨r, h1, h2⟩ := ih (i + 1) _ (by omega) (by rw [List.length_set, List.length_set]; exact hO) hl hstep
        refine ⟨r, h1.step fun k => ?_, h2⟩
        rw [proof_Postman_1.l1, if_pos g2, if_pos (by omega), if_pos g2, if_pos g, if_pos a0, if_pos a1, if_pos f0, if_pos f1, Option.bind_some, if_pos t0, if_pos t1o, w]
      · refine ⟨(221, 0), Evl.here fun k => by rw [proof_Postman_1.l1, if_pos g2, if_pos (by omega), if_pos g2, if_pos g, if_pos a0, if_neg a1], fun h => absurd (h.1.ones i (by omega) g2).2 a1, fun _ => rfl⟩
    · refine ⟨(221, 0), Evl.here fun k => by rw [proof_Postman_1.l1, if_pos g2, if_pos (by omega), if_pos g2, if_pos g, if_neg a0], fun h => absurd (h.1.ones i (by omega) g2).1 a0, fun _ => rfl⟩
theorem post_l0 {n : Int} {E : List S98} (R : Right n E) {A P : List Int} (d : Nat) : ∀ i : Nat, i + d = E.length → (∀ j : Int, 0 ≤ j → j < (i : Int) → 0 ≤ (rd_T98 E j).f3) →
    ∃ r : Int × Int, Evl (fun k => proof_Postman_1.l0 k E E.length i n E A P 0) r ∧ (¬ Free E → r = (80, 0)) ∧ (Free E → Rnd n E A ∧ Hang E ∧ Pots n P ∧ Slack E A P → r = (0, totw E A E.length)) ∧ (Free E → ¬ (Rnd n E A ∧ Hang E ∧ Pots n P ∧ Slack E A P) → r = (221, 0)) := by
  have hm := R.m1
  have n0 := R.n0
  have n1 := R.n1
  induction d with
  | zero =>
    intro i hi hP
    have fr : Free E := fun j a b => hP j a (by omega)
    by_cases h : A.length = E.length
    · obtain ⟨r, e1, e2, e3⟩ := post_l1 R (P := P) h E.length 0 (List.replicate n.toNat 0) (by omega) (by rw [List.length_replicate]; omega) (fun j a b => by omega) (fun v a b => by rw [rd_replicate _ _ _ a (by omega)]; rfl)
      exact ⟨r, e1.step fun k => by rw [proof_Postman_1.l0, if_neg (by omega), if_pos (by omega), if_pos n0, if_pos (by omega)]; rfl, fun h => absurd fr h, fun _ => e2, fun _ => e3⟩
    · exact ⟨(221, 0), Evl.here fun k => by rw [proof_Postman_1.l0, if_neg (by omega), if_neg (by omega)], fun h => absurd fr h, fun _ q => absurd q.1.len h, fun _ _ => rfl⟩
  | succ d ih =>
    intro i hi hP
    have g : (i : Int) < (E.length : Int) := by omega
    have w : wrap64 ((i : Int) + 1) = ((i + 1 : Nat) : Int) := by rw [w1 (by omega) (by omega)]; rfl
    by_cases c : (rd_T98 E i).f3 ≥ 0
    · obtain ⟨r, e1, e2⟩ := ih (i + 1) (by omega) (fun j j0 j1 => by
        by_cases q : j = i
        · rw [q]; exact c
        · exact hP j j0 (by omega))
      exact ⟨r, e1.step fun k => by rw [proof_Postman_1.l0, if_pos g, if_pos (by omega), if_pos g, if_pos c, w], e2⟩
    · exact ⟨(80, 0), Evl.here fun k => by rw [proof_Postman_1.l0, if_pos g, if_pos (by omega), if_pos g, if_neg c], fun _ => rfl, fun h => absurd (h i (by omega) g) c, fun h => absurd (h i (by omega) g) c⟩

theorem post_f (n : Int) (E : List S98) (A P : List Int) : ∃ v e : Int, Evl (fun k => proof_Postman.f k n E A P) (v, e) ∧ Evl (fun k => compassref11_Postman.f k n E A P) (v, e) ∧
    (e ≠ 0 → v = 0) ∧ (e = 0 → Right n E ∧ Free E ∧ Rnd n E A ∧ Hang E ∧ Pots n P ∧ Slack E A P ∧ v = cost E A E.length) ∧ (Right n E → Free E → Rnd n E A → Hang E → Pots n P → Slack E A P → e = 0) := by
  obtain ⟨c, a, g1, g2, g3, g4, g5⟩ := check_f n E
  have hr := right_f g1
  have prog : ∀ {r : Int × Int}, Evl (fun k => proof_Postman_1.f k n E A P 0) r → Evl (fun k => proof_Postman.f k n E A P) (r.2, r.1) := fun h => (Evl.bind (h := fun k t => some (t.2, t.1)) h Evl.pure).congr fun k => rfl
  by_cases hc : c = 0
  · subst hc
    obtain ⟨rfl, R⟩ := g3 rfl
    have n0 := R.n0
    obtain ⟨x, s1, s2, s3⟩ := costs_f R g2
    obtain ⟨r2, p1, pb, p2, p3⟩ := post_l0 R (A := A) (P := P) E.length 0 (by omega) (fun j a b => by omega)
    have pr : Evl (fun k => proof_Postman_1.f k n E A P 0) r2 := (Evl.bind (h := fun k t203 => if t203 = 0 then (proof_Postman_1.l0 k E (E.length : Int) 0 n E A P 0) else (some (t203, (0 : Int)))) hr (p1.congr fun k => by rw [if_pos rfl]; rfl)).congr fun k => rfl
    have dstart : ∀ {r : Int × Int}, Evl (fun k => if x = 0 then ((compassref11_Rounds.f k n E A).bind fun t519 => (if t519 = true then ((compassref11_Together.f k n E).bind fun t520 => (if t520 = true then ((compassref11_Pots.f k n E P).bind fun t521 => (compassref11_Postman.j0 k A P (!t521) n E)) else (compassref11_Postman.j0 k A P true n E))) else (compassref11_Postman.j0 k A P true n E))) else (some (0, x))) r → Evl (fun k => compassref11_Postman.f k n E A P) r := fun h =>
      (Evl.bind (h := fun k t518 => if t518 = 0 then ((compassref11_Rounds.f k n E A).bind fun t519 => (if t519 = true then ((compassref11_Together.f k n E).bind fun t520 => (if t520 = true then ((compassref11_Pots.f k n E P).bind fun t521 => (compassref11_Postman.j0 k A P (!t521) n E)) else (compassref11_Postman.j0 k A P true n E))) else (compassref11_Postman.j0 k A P true n E))) else (some (0, t518))) s1 h).congr fun k => rfl
    by_cases hx : x = 0
    · have fr := s3.1 hx
      obtain ⟨rb, r1, rr⟩ := rounds_f R A
      obtain ⟨tb, -, t1, t2⟩ := tog_f R
      obtain ⟨pt, q1, q2⟩ := pots_f E n0 R.n1 P
      have no : Evl (fun k => compassref11_Postman.j0 k A P true n E) (0, 221) := Evl.here fun k => by rw [compassref11_Postman.j0, if_pos rfl]
      have doc : ∃ r : Int × Int, Evl (fun k => compassref11_Postman.f k n E A P) r ∧ (Rnd n E A ∧ Hang E ∧ Pots n P ∧ Slack E A P → r = (totw E A E.length, 0)) ∧ (¬ (Rnd n E A ∧ Hang E ∧ Pots n P ∧ Slack E A P) → r = (0, 221)) := by
        have go1 : ∀ {r : Int × Int}, Evl (fun k => if rb = true then ((compassref11_Together.f k n E).bind fun t520 => (if t520 = true then ((compassref11_Pots.f k n E P).bind fun t521 => (compassref11_Postman.j0 k A P (!t521) n E)) else (compassref11_Postman.j0 k A P true n E))) else (compassref11_Postman.j0 k A P true n E)) r → Evl (fun k => compassref11_Postman.f k n E A P) r := fun h =>
          dstart ((Evl.bind (h := fun k t519 => if t519 = true then ((compassref11_Together.f k n E).bind fun t520 => (if t520 = true then ((compassref11_Pots.f k n E P).bind fun t521 => (compassref11_Postman.j0 k A P (!t521) n E)) else (compassref11_Postman.j0 k A P true n E))) else (compassref11_Postman.j0 k A P true n E)) r1 h).congr fun k => by rw [if_pos hx])
        by_cases h1 : rb = true
        · have M := rr.1 h1
          have go2 : ∀ {r : Int × Int}, Evl (fun k => if tb = true then ((compassref11_Pots.f k n E P).bind fun t521 => (compassref11_Postman.j0 k A P (!t521) n E)) else (compassref11_Postman.j0 k A P true n E)) r → Evl (fun k => compassref11_Postman.f k n E A P) r := fun h =>
            go1 ((Evl.bind (h := fun k t520 => if t520 = true then ((compassref11_Pots.f k n E P).bind fun t521 => (compassref11_Postman.j0 k A P (!t521) n E)) else (compassref11_Postman.j0 k A P true n E)) t1 h).congr fun k => by rw [if_pos h1])
          by_cases h2 : tb = true
          · have go3 : ∀ {r : Int × Int}, Evl (fun k => compassref11_Postman.j0 k A P (!pt) n E) r → Evl (fun k => compassref11_Postman.f k n E A P) r := fun h =>
              go2 ((Evl.bind (h := fun k t521 => compassref11_Postman.j0 k A P (!t521) n E) q1 h).congr fun k => by rw [if_pos h2])
            by_cases h3 : pt = true
            · have hp := q2.1 h3
              obtain ⟨r, d1, d2, d3⟩ := post_d0 R M.len M.ones hp E.length 0 (by omega) (fun j a b => by omega)
              exact ⟨r, go3 (d1.step fun k => by rw [h3, Bool.not_true, compassref11_Postman.j0, if_neg (by simp)]; rfl), fun h => d2 h.2.2.2, fun h => d3 fun t => h ⟨M, t2.1 h2, hp, t⟩⟩
            · have h3' : pt = false := by simpa using h3
              exact ⟨(0, 221), go3 (no.congr fun k => by rw [h3', Bool.not_false]), fun h => absurd (q2.2 h.2.2.1) h3, fun _ => rfl⟩
          · exact ⟨(0, 221), go2 (no.congr fun k => by rw [if_neg h2]), fun h => absurd (t2.2 h.2.1) h2, fun _ => rfl⟩
        · exact ⟨(0, 221), go1 (no.congr fun k => by rw [if_neg h1]), fun h => absurd (rr.2 h.1) h1, fun _ => rfl⟩
      obtain ⟨r1', d1, d2, d3⟩ := doc
      by_cases F : Rnd n E A ∧ Hang E ∧ Pots n P ∧ Slack E A P
      · have z1 := d2 F
        have z2 := p2 fr F
        subst z1 z2
        exact ⟨_, _, prog pr, d1, fun h => absurd rfl h, fun _ => ⟨R, fr, F.1, F.2.1, F.2.2.1, F.2.2.2, (totw_cost R F.1.ones.labs E.length (Nat.le_refl _)).1⟩, fun _ _ _ _ _ _ => rfl⟩
      · have z1 := d3 F
        have z2 := p3 fr F
        subst z1 z2
        exact ⟨_, _, prog pr, d1, fun _ => rfl, fun h => (by cases h), fun _ _ h1 h2 h3 h4 => absurd ⟨h1, h2, h3, h4⟩ F⟩
    · have h80 : x = 80 := by rcases s2 with h | h; exact absurd h hx; exact h
      have nf : ¬ Free E := fun h => hx (s3.2 h)
      have z2 := pb nf
      subst z2
      subst h80
      exact ⟨0, 80, prog pr, dstart (Evl.pure.congr fun k => by rw [if_neg hx]), fun _ => rfl, fun h => (by cases h), fun _ h => absurd h nf⟩
  · refine ⟨0, c, prog (r := (c, 0)) ((Evl.bind (h := fun k u => if u = 0 then _ else some (u, (0 : Int))) hr (Evl.pure.congr fun k => by rw [if_neg hc])).congr fun k => rfl), (Evl.bind (h := fun k u => if u = 0 then _ else some ((0 : Int), u)) (costs_bad hc g2) (Evl.pure.congr fun k => by rw [if_neg hc])).congr fun k => rfl, fun _ => rfl, fun h => absurd h hc, fun R => absurd (g5 R) hc⟩
end Go.Proofs.Ytkdoihcjhccliaa.G
