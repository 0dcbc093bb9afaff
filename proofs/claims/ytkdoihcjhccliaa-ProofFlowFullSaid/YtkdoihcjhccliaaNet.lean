/- Amounts on the edges of a right graph: what goes out of a node, what leaves a side; the program's looks and the document's. -/
import Derived.Test.YtkdoihcjhccliaaQ20
import Derived.Test.YtkdoihcjhccliaaQ21
import Derived.Test.YtkdoihcjhccliaaQ24
import Derived.Test.YtkdoihcjhccliaaQ25
import Derived.Test.YtkdoihcjhccliaaQ5
import Derived.Test.YtkdoihcjhccliaaQ6
import Derived.Test.YtkdoihcjhccliaaQ7
import Derived.Test.YtkdoihcjhccliaaG
namespace Go.Proofs.Ytkdoihcjhccliaa.G
open Go.RowKit Go.Proofs.Ytkdoihcjhccliaa.Q Go.Proofs.YtkdoihcjhccliaaW.PrintWords Go.Proofs.YtkdoihcjhccliaaW.PrintLast
set_option linter.unusedVariables false

/-- What goes out of a node, less what comes in, on the first edges. -/
def net (E : List S98) (A : List Int) (v : Int) : Nat → Int
  | 0 => 0
  | i + 1 => net E A v i + (if (rd_T98 E i).f0 = v then rd A i else 0) - (if (rd_T98 E i).f1 = v then rd A i else 0)
/-- The capacity of the first edges that leave a side. -/
def cut (E : List S98) (B : List Bool) : Nat → Int
  | 0 => 0
  | i + 1 => cut E B i + (if rdOf false B (rd_T98 E i).f0 = true ∧ rdOf false B (rd_T98 E i).f1 = false then (rd_T98 E i).f2 else 0)
/-- Amounts that fit on the edges. -/
def Amts (E : List S98) (A : List Int) : Prop := ∀ i : Int, 0 ≤ i → i < (E.length : Int) → 0 ≤ rd A i ∧ rd A i ≤ (rd_T98 E i).f2
/-- Amounts that are labels. -/
def Labs (m : Nat) (A : List Int) : Prop := ∀ i : Int, 0 ≤ i → i < (m : Int) → 0 ≤ rd A i ∧ rd A i ≤ 1048576

theorem Amts.labs {n : Int} {E : List S98} {A : List Int} (R : Right n E) (h : Amts E A) : Labs E.length A := fun i h0 h1 => ⟨(h i h0 h1).1, Int.le_trans (h i h0 h1).2 (R.e i h0 h1).c1⟩

theorem net_le {E : List S98} {A : List Int} {v : Int} {m : Nat} (h : Labs m A) : ∀ i : Nat, i ≤ m → -(i * 1048576 : Int) ≤ net E A v i ∧ net E A v i ≤ (i * 1048576 : Int) := by
  intro i
  induction i with
  | zero => intro _; simp [net]
  | succ i ih =>
    intro hi
    have a := ih (by omega)
    have b := h (i : Int) (by omega) (by omega)
    simp only [net]
    push_cast
    split <;> split <;> omega
theorem cut_le {n : Int} {E : List S98} (R : Right n E) (B : List Bool) : ∀ i : Nat, i ≤ E.length → 0 ≤ cut E B i ∧ cut E B i ≤ (i * 1048576 : Int) := by
  intro i
  induction i with
  | zero => intro _; simp [cut]
  | succ i ih =>
    intro hi
    have a := ih (by omega)
    have b := R.e (i : Int) (by omega) (by omega)
    have c0 := b.c0
    have c1 := b.c1
    simp only [cut]
    push_cast
    split <;> omega
theorem wr {x : Int} (h0 : -9000000000000000000 ≤ x) (h : x ≤ 9000000000000000000) : wrap64 x = x := by unfold wrap64; omega

/-- out, in the document: some number; for labels what goes out. -/
theorem out_l0 (n : Int) (E : List S98) (A : List Int) (v : Int) (hm : (E.length : Int) ≤ 4096) (hA : A.length = E.length) (d : Nat) : ∀ (i : Nat) (x : Int), i + d = E.length →
    ∃ r : Int, Evl (fun k => compassref11_Out.l0 k A v x i n E) r ∧ (Labs E.length A → x = net E A v i → r = net E A v E.length) := by
  induction d with
  | zero =>
    intro i x hi
    refine ⟨x, Evl.here fun k => by rw [compassref11_Out.l0, if_neg (by omega)], fun _ h => by rw [h]; congr 1⟩
  | succ d ih =>
    intro i x hi
    have g : (i : Int) < (A.length : Int) := by omega
    have g2 : (i : Int) < (E.length : Int) := by omega
    have w : wrap64 ((i : Int) + 1) = ((i + 1 : Nat) : Int) := by rw [w1 (by omega) (by omega)]; rfl
    have key : ∀ y : Int, (Labs E.length A → x = net E A v i → y = net E A v (i + 1)) → (∀ k, compassref11_Out.l0 (k + 1) A v x i n E = compassref11_Out.l0 k A v y (wrap64 ((i : Int) + 1)) n E) →
        ∃ r : Int, Evl (fun k => compassref11_Out.l0 k A v x i n E) r ∧ (Labs E.length A → x = net E A v i → r = net E A v E.length) := by
      intro y hy he
      obtain ⟨r, h1, h2⟩ := ih (i + 1) y (by omega)
      refine ⟨r, h1.step fun k => ?_, fun hl hx => h2 hl (hy hl hx)⟩
      rw [← w]; exact he k
    by_cases c0 : (rd_T98 E i).f0 = v
    · by_cases c1 : (rd_T98 E i).f1 = v
      · refine key (wrap64 (wrap64 (x + rd A i) - rd A i)) (fun hl hx => ?_) fun k => by rw [compassref11_Out.l0, if_pos g, if_pos (by omega), if_pos g2, if_pos c0, if_pos c1]
        have a := net_le (E := E) (v := v) hl i (by omega)
        have b := hl i (by omega) g2
        rw [hx, wr (x := net E A v i + rd A i) (by omega) (by omega), wr (by omega) (by omega)]
        simp only [net]; rw [if_pos c0, if_pos c1]
      · refine key (wrap64 (x + rd A i)) (fun hl hx => ?_) fun k => by rw [compassref11_Out.l0, if_pos g, if_pos (by omega), if_pos g2, if_pos c0, if_neg c1]
        have a := net_le (E := E) (v := v) hl i (by omega)
        have b := hl i (by omega) g2
        rw [hx, wr (by omega) (by omega)]
        simp only [net]; rw [if_pos c0, if_neg c1]; omega
    · by_cases c1 : (rd_T98 E i).f1 = v
      · refine key (wrap64 (x - rd A i)) (fun hl hx => ?_) fun k => by rw [compassref11_Out.l0, if_pos g, if_pos (by omega), if_pos g2, if_neg c0, if_pos c1]
        have a := net_le (E := E) (v := v) hl i (by omega)
        have b := hl i (by omega) g2
        rw [hx, wr (by omega) (by omega)]
        simp only [net]; rw [if_neg c0, if_pos c1]; omega
      · refine key x (fun hl hx => ?_) fun k => by rw [compassref11_Out.l0, if_pos g, if_pos (by omega), if_pos g2, if_neg c0, if_neg c1]
        rw [hx]; simp only [net]; rw [if_neg c0, if_neg c1]; omega
theorem out_f (n : Int) (E : List S98) (A : List Int) (v : Int) (hm : (E.length : Int) ≤ 4096) (hA : A.length = E.length) : ∃ r : Int, Evl (fun k => compassref11_Out.f k n E A v) r ∧ (Labs E.length A → r = net E A v E.length) := by
  obtain ⟨r, h1, h2⟩ := out_l0 n E A v hm hA E.length 0 0 (by omega)
  exact ⟨r, h1.congr fun k => rfl, fun hl => h2 hl rfl⟩

theorem cut_l0 {n : Int} {E : List S98} (R : Right n E) {B : List Bool} (hB : (B.length : Int) = n) (d : Nat) : ∀ (i : Nat), i + d = E.length →
    Evl (fun k => compassref11_Cut.l0 k B (cut E B i) i n E) (cut E B E.length) ∧ Evl (fun k => proof_across.l0 k B (cut E B i) E E.length i) (0, cut E B E.length) := by
  have hm := R.m1
  induction d with
  | zero =>
    intro i hi
    have e : i = E.length := by omega
    refine ⟨Evl.here fun k => by rw [compassref11_Cut.l0, if_neg (by omega), e], Evl.here fun k => by rw [proof_across.l0, if_neg (by omega), e]⟩
  | succ d ih =>
    intro i hi
    have g2 : (i : Int) < (E.length : Int) := by omega
    have w : wrap64 ((i : Int) + 1) = ((i + 1 : Nat) : Int) := by rw [w1 (by omega) (by omega)]; rfl
    have e := R.e i (by omega) g2
    have f0 := e.a0
    have f1 : (rd_T98 E i).f0 < (B.length : Int) := by rw [hB]; exact e.a1
    have t0 := e.b0
    have t1 : (rd_T98 E i).f1 < (B.length : Int) := by rw [hB]; exact e.b1
    have c0 := e.c0
    have c1 := e.c1
    have b := cut_le R B i (by omega)
    obtain ⟨ih1, ih2⟩ := ih (i + 1) (by omega)
    simp only [cut] at ih1 ih2
    by_cases a0 : rdOf false B (rd_T98 E i).f0 = true
    · by_cases a1 : rdOf false B (rd_T98 E i).f1 = true
      · rw [if_neg (by rw [a1]; simp), Int.add_zero] at ih1 ih2
        exact ⟨ih1.step fun k => by rw [compassref11_Cut.l0, if_pos g2, if_pos (by omega), if_pos f0, if_pos f1, if_pos a0, if_pos t0, if_pos t1, if_pos a1, w],
          ih2.step fun k => by rw [proof_across.l0, if_pos g2, if_pos (by omega), if_pos g2, if_pos f0, if_pos f1, if_pos a0, if_pos t0, if_pos t1, if_pos a1, w]⟩
      · have z : wrap64 (cut E B i + (rd_T98 E i).f2) = cut E B i + (rd_T98 E i).f2 := wr (by omega) (by omega)
        rw [if_pos ⟨a0, by simpa using a1⟩] at ih1 ih2
        exact ⟨ih1.step fun k => by rw [compassref11_Cut.l0, if_pos g2, if_pos (by omega), if_pos f0, if_pos f1, if_pos a0, if_pos t0, if_pos t1, if_neg a1, w, z],
          ih2.step fun k => by rw [proof_across.l0, if_pos g2, if_pos (by omega), if_pos g2, if_pos f0, if_pos f1, if_pos a0, if_pos t0, if_pos t1, if_neg a1, w, z]⟩
    · rw [if_neg (fun h => a0 h.1), Int.add_zero] at ih1 ih2
      exact ⟨ih1.step fun k => by rw [compassref11_Cut.l0, if_pos g2, if_pos (by omega), if_pos f0, if_pos f1, if_neg a0, w],
        ih2.step fun k => by rw [proof_across.l0, if_pos g2, if_pos (by omega), if_pos g2, if_pos f0, if_pos f1, if_neg a0, w]⟩
theorem cut_f {n : Int} {E : List S98} (R : Right n E) {B : List Bool} (hB : (B.length : Int) = n) : Evl (fun k => compassref11_Cut.f k n E B) (cut E B E.length) :=
  (cut_l0 R hB E.length 0 (by omega)).1.congr fun k => rfl
theorem across_f {n : Int} {E : List S98} (R : Right n E) {B : List Bool} (hB : (B.length : Int) = n) : Evl (fun k => proof_across.f k n E B) (0, cut E B E.length) :=
  (cut_l0 R hB E.length 0 (by omega)).2.congr fun k => by rw [proof_across.f, if_pos hB]; rfl
theorem across_no {n : Int} {E : List S98} {B : List Bool} (hB : (B.length : Int) ≠ n) : Evl (fun k => proof_across.f k n E B) (221, 0) :=
  Evl.pure.congr fun k => by rw [proof_across.f, if_neg hB]

/-- carried: where the amounts fit, what goes out of each node. -/
theorem carried_l0 {n : Int} {E : List S98} (R : Right n E) {A : List Int} (hA : A.length = E.length) (d : Nat) : ∀ (i : Nat) (O : List Int), i + d = E.length → (O.length : Int) = n →
    (∀ j : Int, 0 ≤ j → j < (i : Int) → 0 ≤ rd A j ∧ rd A j ≤ (rd_T98 E j).f2) → (∀ v : Int, 0 ≤ v → v < n → rd O v = net E A v i) →
    ∃ r : Int × List Int, Evl (fun k => proof_carried.l0 k A O E E.length i) r ∧ (Amts E A → r.1 = 0 ∧ (r.2.length : Int) = n ∧ ∀ v : Int, 0 ≤ v → v < n → rd r.2 v = net E A v E.length) ∧ (¬ Amts E A → r = (221, [])) := by
  have hm := R.m1
  induction d with
  | zero =>
    intro i O hi hO hP hN
    have e : i = E.length := by omega
    refine ⟨(0, O), Evl.here fun k => by rw [proof_carried.l0, if_neg (by omega)], fun _ => ⟨rfl, hO, fun v a b => by rw [hN v a b, e]⟩, fun h => absurd (fun j a b => hP j a (by omega)) h⟩
  | succ d ih =>
    intro i O hi hO hP hN
    have g2 : (i : Int) < (E.length : Int) := by omega
    have g : (i : Int) < (A.length : Int) := by omega
    have w : wrap64 ((i : Int) + 1) = ((i + 1 : Nat) : Int) := by rw [w1 (by omega) (by omega)]; rfl
    have e := R.e i (by omega) g2
    have f0 := e.a0
    have f1 : (rd_T98 E i).f0 < (O.length : Int) := by rw [hO]; exact e.a1
    have t0 := e.b0
    have t1' := e.b1
    by_cases a0 : rd A i ≥ 0
    · by_cases a1 : rd A i ≤ (rd_T98 E i).f2
      · have t1 : (rd_T98 E i).f1 < ((O.set (rd_T98 E i).f0.toNat (wrap64 (rd O (rd_T98 E i).f0 + rd A i))).length : Int) := by rw [List.length_set, hO]; exact t1'
        have t1o : (rd_T98 E i).f1 < (O.length : Int) := by rw [hO]; exact t1'
        have hl : ∀ j : Int, 0 ≤ j → j < ((i + 1 : Nat) : Int) → 0 ≤ rd A j ∧ rd A j ≤ (rd_T98 E j).f2 := fun j h0 h1 => by
          by_cases q : j = i
          · rw [q]; exact ⟨a0, a1⟩
          · exact hP j h0 (by omega)
        have hlab : Labs i A := fun j h0 h1 => ⟨(hP j h0 h1).1, Int.le_trans (hP j h0 h1).2 (R.e j h0 (by omega)).c1⟩
        have c1 := e.c1
        have hstep : ∀ v : Int, 0 ≤ v → v < n → rd (((O.set (rd_T98 E i).f0.toNat (wrap64 (rd O (rd_T98 E i).f0 + rd A i)))).set (rd_T98 E i).f1.toNat (wrap64 (rd (O.set (rd_T98 E i).f0.toNat (wrap64 (rd O (rd_T98 E i).f0 + rd A i))) (rd_T98 E i).f1 - rd A i))) v = net E A v (i + 1) := by
          intro v v0 v1
          rw [rd_set _ _ _ _ t0 t1 v0, rd_set _ _ _ _ f0 f1 v0, rd_set _ _ _ _ f0 f1 t0]
          have b0 := net_le (E := E) (v := v) hlab i (Nat.le_refl _)
          have bf := net_le (E := E) (v := (rd_T98 E i).f0) hlab i (Nat.le_refl _)
          have bt := net_le (E := E) (v := (rd_T98 E i).f1) hlab i (Nat.le_refl _)
          have of := hN (rd_T98 E i).f0 f0 (by omega)
          have ot := hN (rd_T98 E i).f1 t0 t1'
          have ov := hN v v0 v1
          simp only [net]
          by_cases q1 : v = (rd_T98 E i).f1
          · rw [if_pos q1, if_pos q1.symm]
            by_cases q0 : (rd_T98 E i).f1 = (rd_T98 E i).f0
            · rw [if_pos q0, if_pos (by omega), of, wr (x := net E A (rd_T98 E i).f0 i + rd A i) (by omega) (by omega), wr (by omega) (by omega), q1, q0]
            · rw [if_neg q0, if_neg (by omega), ot, wr (by omega) (by omega), q1]; omega
          · rw [if_neg q1, if_neg (show ¬ (rd_T98 E i).f1 = v from fun h => q1 h.symm)]
            by_cases q0 : v = (rd_T98 E i).f0
            · rw [if_pos q0, if_pos q0.symm, of, wr (by omega) (by omega), q0]; omega
            · rw [if_neg q0, if_neg (show ¬ (rd_T98 E i).f0 = v from fun h => q0 h.symm), ov]; omega
        obtain ⟨r, h1, h2⟩ := ih (i + 1) _ (by omega) (by rw [List.length_set, List.length_set]; exact hO) hl hstep
        refine ⟨r, h1.step fun k => ?_, h2⟩
        rw [proof_carried.l0, if_pos g2, if_pos (by omega), if_pos g2, if_pos g, if_pos a0, if_pos a1, if_pos f0, if_pos f1, Option.bind_some, if_pos t0, if_pos t1o, w]
      · refine ⟨(221, []), Evl.here fun k => by rw [proof_carried.l0, if_pos g2, if_pos (by omega), if_pos g2, if_pos g, if_pos a0, if_neg a1], fun h => absurd (h i (by omega) g2).2 a1, fun _ => rfl⟩
    · refine ⟨(221, []), Evl.here fun k => by rw [proof_carried.l0, if_pos g2, if_pos (by omega), if_pos g2, if_pos g, if_neg a0], fun h => absurd (h i (by omega) g2).1 a0, fun _ => rfl⟩
theorem carried_f {n : Int} {E : List S98} (R : Right n E) {A : List Int} : ∃ r : Int × List Int, Evl (fun k => proof_carried.f k n E A) r ∧
    (A.length = E.length ∧ Amts E A → r.1 = 0 ∧ (r.2.length : Int) = n ∧ ∀ v : Int, 0 ≤ v → v < n → rd r.2 v = net E A v E.length) ∧ (¬ (A.length = E.length ∧ Amts E A) → r = (221, [])) := by
  have n0 := R.n0
  have n1 := R.n1
  by_cases h : A.length = E.length
  · obtain ⟨r, h1, h2, h3⟩ := carried_l0 R h E.length 0 (List.replicate n.toNat 0) (by omega) (by rw [List.length_replicate]; omega) (fun j a b => by omega) (fun v a b => by rw [rd_replicate _ _ _ a (by omega)]; rfl)
    refine ⟨r, h1.congr fun k => ?_, fun q => h2 q.2, fun q => h3 fun z => q ⟨h, z⟩⟩
    rw [proof_carried.f, if_pos (by omega), if_pos n0, if_pos (by omega)]; rfl
  · exact ⟨(221, []), Evl.pure.congr fun k => by rw [proof_carried.f, if_neg (by omega)], fun q => absurd q.1 h, fun _ => rfl⟩

/-- Fits, in the document. -/
theorem fits_l1 {n : Int} {E : List S98} (R : Right n E) {A S : List Int} (hA : A.length = E.length) (hL : Labs E.length A) (hS : (S.length : Int) = n) (d : Nat) : ∀ (i : Nat), ((i + d : Nat) : Int) = n →
    ∃ b : Bool, Evl (fun k => compassref11_Fits.l1 k A S i n E) b ∧ (b = true ↔ ∀ v : Int, (i : Int) ≤ v → v < n → net E A v E.length = rd S v) := by
  have n1 := R.n1
  induction d with
  | zero => intro i hi; exact ⟨true, Evl.here fun k => by rw [compassref11_Fits.l1, if_neg (by omega)], fun _ v a b => by omega, fun _ => rfl⟩
  | succ d ih =>
    intro i hi
    have g : (i : Int) < n := by omega
    have w : wrap64 ((i : Int) + 1) = ((i + 1 : Nat) : Int) := by rw [w1 (by omega) (by omega)]; rfl
    obtain ⟨r, h1, h2⟩ := out_f n E A i R.m1 hA
    have hr := h2 hL
    subst hr
    by_cases c : net E A i E.length = rd S i
    · obtain ⟨b, e1, e2⟩ := ih (i + 1) (by omega)
      refine ⟨b, (Evl.bind (h := fun k t => if 0 ≤ (i : Int) then (if (i : Int) < (S.length : Int) then (if t = rd S i then compassref11_Fits.l1 k A S (wrap64 ((i : Int) + 1)) n E else some false) else none) else none) h1 (e1.congr fun k => by rw [if_pos (by omega), if_pos (by omega), if_pos c, w])).step fun k => by rw [compassref11_Fits.l1, if_pos g], e2.trans ⟨fun h v a b => ?_, fun h v a b => h v (by omega) b⟩⟩
      by_cases q : v = i
      · rw [q]; exact c
      · exact h v (by omega) b
    · refine ⟨false, (Evl.bind (h := fun k t => if 0 ≤ (i : Int) then (if (i : Int) < (S.length : Int) then (if t = rd S i then compassref11_Fits.l1 k A S (wrap64 ((i : Int) + 1)) n E else some false) else none) else none) h1 (Evl.pure.congr fun k => by rw [if_pos (by omega), if_pos (by omega), if_neg c])).step fun k => by rw [compassref11_Fits.l1, if_pos g], fun h => (by cases h), fun h => absurd (h i (by omega) g) c⟩
theorem fits_l0 {n : Int} {E : List S98} (R : Right n E) {A S : List Int} (hA : A.length = E.length) (hS : (S.length : Int) = n) (d : Nat) : ∀ (i : Nat), i + d = E.length →
    (∀ j : Int, 0 ≤ j → j < (i : Int) → 0 ≤ rd A j ∧ rd A j ≤ (rd_T98 E j).f2) →
    ∃ b : Bool, Evl (fun k => compassref11_Fits.l0 k A S i n E) b ∧ (b = true ↔ Amts E A ∧ ∀ v : Int, 0 ≤ v → v < n → net E A v E.length = rd S v) := by
  have hm := R.m1
  have n0 := R.n0
  induction d with
  | zero =>
    intro i hi hP
    have am : Amts E A := fun j a b => hP j a (by omega)
    obtain ⟨b, e1, e2⟩ := fits_l1 R hA (am.labs R) hS n.toNat 0 (by omega)
    refine ⟨b, e1.step fun k => by rw [compassref11_Fits.l0, if_neg (by omega)]; rfl, e2.trans ⟨fun h => ⟨am, fun v a b => h v (by omega) b⟩, fun h v a b => h.2 v (by omega) b⟩⟩
  | succ d ih =>
    intro i hi hP
    have g2 : (i : Int) < (E.length : Int) := by omega
    have g : (i : Int) < (A.length : Int) := by omega
    have w : wrap64 ((i : Int) + 1) = ((i + 1 : Nat) : Int) := by rw [w1 (by omega) (by omega)]; rfl
    by_cases a0 : rd A i < 0
    · exact ⟨false, Evl.here fun k => by rw [compassref11_Fits.l0, if_pos g, if_pos (by omega), if_pos a0], fun h => (by cases h), fun h => absurd (h.1 i (by omega) g2).1 (by omega)⟩
    · by_cases a1 : rd A i > (rd_T98 E i).f2
      · exact ⟨false, Evl.here fun k => by rw [compassref11_Fits.l0, if_pos g, if_pos (by omega), if_neg a0, if_pos g2, if_pos a1], fun h => (by cases h), fun h => absurd (h.1 i (by omega) g2).2 (by omega)⟩
      · obtain ⟨b, e1, e2⟩ := ih (i + 1) (by omega) (fun j h0 h1 => by
          by_cases q : j = i
          · rw [q]; exact ⟨by omega, by omega⟩
          · exact hP j h0 (by omega))
        exact ⟨b, e1.step fun k => by rw [compassref11_Fits.l0, if_pos g, if_pos (by omega), if_neg a0, if_pos g2, if_neg a1, w], e2⟩
theorem fits_f {n : Int} {E : List S98} (R : Right n E) {A S : List Int} (hS : (S.length : Int) = n) :
    ∃ b : Bool, Evl (fun k => compassref11_Fits.f k n E A S) b ∧ (b = true ↔ (A.length = E.length ∧ Amts E A) ∧ ∀ v : Int, 0 ≤ v → v < n → net E A v E.length = rd S v) := by
  by_cases h : A.length = E.length
  · obtain ⟨b, e1, e2⟩ := fits_l0 R h hS E.length 0 (by omega) (fun j a b => by omega)
    exact ⟨b, e1.congr fun k => by rw [compassref11_Fits.f, if_pos (by omega)]; rfl, e2.trans ⟨fun z => ⟨⟨h, z.1⟩, z.2⟩, fun z => ⟨z.1.2, z.2⟩⟩⟩
  · exact ⟨false, Evl.pure.congr fun k => by rw [compassref11_Fits.f, if_neg (by omega)], fun z => (by cases z), fun z => absurd z.1.1 h⟩

/-- Over all nodes what goes out comes in. -/
def tot (E : List S98) (A : List Int) (i : Nat) : Nat → Int
  | 0 => 0
  | v + 1 => tot E A i v + net E A v i
theorem tot_zero (E : List S98) (A : List Int) (v : Nat) : tot E A 0 v = 0 := by
  induction v with
  | zero => rfl
  | succ v ih => simp only [tot, net, ih]; rfl
theorem tot_step (E : List S98) (A : List Int) (i : Nat) (f0 : 0 ≤ (rd_T98 E i).f0) (t0 : 0 ≤ (rd_T98 E i).f1) (v : Nat) : tot E A (i + 1) v = tot E A i v + (if (rd_T98 E i).f0 < v then rd A i else 0) - (if (rd_T98 E i).f1 < v then rd A i else 0) := by
  induction v with
  | zero => simp only [tot]; rw [if_neg (by omega), if_neg (by omega)]; omega
  | succ v ih =>
    simp only [tot, net, ih]
    push_cast
    generalize rd A i = x
    generalize (rd_T98 E i).f0 = p
    generalize (rd_T98 E i).f1 = q
    generalize net E A v i = z
    generalize tot E A i v = y
    (repeat' split) <;> omega
theorem tot_none {n : Int} {E : List S98} (R : Right n E) (A : List Int) : ∀ i : Nat, i ≤ E.length → tot E A i n.toNat = 0 := by
  have n0 := R.n0
  intro i
  induction i with
  | zero => intro _; exact tot_zero E A _
  | succ i ih =>
    intro hi
    have e := R.e i (by omega) (by omega)
    rw [tot_step E A i e.a0 e.b0, ih (by omega), if_pos (by have := e.a1; omega), if_pos (by have := e.b1; omega)]; omega
theorem tot_two (E : List S98) (A : List Int) (i : Nat) (s t : Int) (hst : s ≠ t) (s0 : 0 ≤ s) (t0 : 0 ≤ t) (v : Nat) (hv : ∀ u : Int, 0 ≤ u → u < v → u ≠ s → u ≠ t → net E A u i = 0) : tot E A i v = (if s < v then net E A s i else 0) + (if t < v then net E A t i else 0) := by
  induction v with
  | zero => simp only [tot]; rw [if_neg (by omega), if_neg (by omega)]; rfl
  | succ v ih =>
    rw [tot, ih fun u a b => hv u a (by omega)]
    push_cast
    have hz : (v : Int) ≠ s → (v : Int) ≠ t → net E A v i = 0 := fun a b => hv v (by omega) (by omega) a b
    by_cases a : (v : Int) = s
    · subst a
      generalize net E A v i = z
      generalize net E A t i = y
      (repeat' split) <;> omega
    · by_cases b : (v : Int) = t
      · subst b
        generalize net E A v i = z
        generalize net E A s i = y
        (repeat' split) <;> omega
      · rw [hz a b]
        generalize net E A s i = y
        generalize net E A t i = z
        (repeat' split) <;> omega
end Go.Proofs.Ytkdoihcjhccliaa.G
