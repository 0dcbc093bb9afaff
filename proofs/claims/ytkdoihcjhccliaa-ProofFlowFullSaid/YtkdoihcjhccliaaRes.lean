/- What can still be changed: the residual, changes along its edges, the least room. -/
import Derived.Test.YtkdoihcjhccliaaQ60
import Derived.Test.YtkdoihcjhccliaaQ62
import Derived.Test.YtkdoihcjhccliaaQ63
import Derived.Test.YtkdoihcjhccliaaNet
namespace Go.Proofs.Ytkdoihcjhccliaa.G
open Go.RowKit Go.Proofs.Ytkdoihcjhccliaa.Q Go.Proofs.YtkdoihcjhccliaaW.PrintWords Go.Proofs.YtkdoihcjhccliaaW.PrintLast
set_option linter.unusedVariables false

/-- Where an edge of the residual begins, where it ends, how much may go over it, what it costs. -/
def rf (E : List S98) (i : Int) : Int := if i % 2 = 0 then (rd_T98 E (i / 2)).f0 else (rd_T98 E (i / 2)).f1
def rt (E : List S98) (i : Int) : Int := if i % 2 = 0 then (rd_T98 E (i / 2)).f1 else (rd_T98 E (i / 2)).f0
def rc (E : List S98) (A : List Int) (i : Int) : Int := if i % 2 = 0 then (rd_T98 E (i / 2)).f2 - rd A (i / 2) else rd A (i / 2)
def rk (E : List S98) (i : Int) : Int := if i % 2 = 0 then (rd_T98 E (i / 2)).f3 else -(rd_T98 E (i / 2)).f3
/-- X is the residual of these amounts. -/
structure Resid (E : List S98) (A : List Int) (X : List S98) : Prop where
  len : X.length = 2 * E.length
  el : ∀ i : Int, 0 ≤ i → i < 2 * (E.length : Int) → rd_T98 X i = ⟨rf E i, rt E i, rc E A i, rk E i⟩

theorem rd98_lt (X Y : List S98) (j : Int) (h0 : 0 ≤ j) (h : j < (X.length : Int)) : rd_T98 (X ++ Y) j = rd_T98 X j := by
  unfold rd_T98; rw [getD_append, if_pos (by omega)]
theorem rd98_eq (X : List S98) (e : S98) (j : Int) (h : j = (X.length : Int)) : rd_T98 (X ++ [e]) j = e := by
  subst h; unfold rd_T98; rw [getD_append, if_neg (by omega)]; simp

theorem resid_l0 {n : Int} {E : List S98} (R : Right n E) {A : List Int} (hA : A.length = E.length) (fit : Amts E A) (d : Nat) : ∀ (i : Nat) (X : List S98), i + d = E.length → X.length = 2 * i →
    (∀ j : Int, 0 ≤ j → j < 2 * (i : Int) → rd_T98 X j = ⟨rf E j, rt E j, rc E A j, rk E j⟩) → ∃ Y, Evl (fun k => compassref11_Residual.l0 k A i n E n X) (n, Y) ∧ Resid E A Y := by
  have m1 := R.m1
  induction d with
  | zero =>
    intro i X hi hX h
    refine ⟨X, Evl.here fun k => by rw [compassref11_Residual.l0, if_neg (by omega)], ⟨by omega, fun j h0 h1 => h j h0 (by omega)⟩⟩
  | succ d ih =>
    intro i X hi hX h
    have e := R.e i (by omega) (by omega)
    have a := fit i (by omega) (by omega)
    have c1 := e.c1
    have d0 := e.d0
    have d1 := e.d1
    have ev : (2 * (i : Int)) % 2 = 0 := by omega
    have ed : (2 * (i : Int)) / 2 = i := by omega
    have ov : ¬ (2 * (i : Int) + 1) % 2 = 0 := by omega
    have od : (2 * (i : Int) + 1) / 2 = i := by omega
    have key : ∀ j : Int, 0 ≤ j → j < 2 * ((i + 1 : Nat) : Int) → rd_T98 (X ++ [(⟨(rd_T98 E i).f0, (rd_T98 E i).f1, wrap64 (((rd_T98 E i).f2) - (rd A i)), (rd_T98 E i).f3⟩ : S98)] ++ [(⟨(rd_T98 E i).f1, (rd_T98 E i).f0, rd A i, wrap64 (-((rd_T98 E i).f3))⟩ : S98)]) j = ⟨rf E j, rt E j, rc E A j, rk E j⟩ := by
      intro j h0 h1
      by_cases q : j < 2 * (i : Int)
      · rw [rd98_lt _ _ _ h0 (by simp; omega), rd98_lt _ _ _ h0 (by omega)]; exact h j h0 q
      · by_cases q1 : j = 2 * (i : Int)
        · rw [rd98_lt _ _ _ h0 (by simp; omega), rd98_eq _ _ _ (by omega), q1]
          unfold rf rt rc rk
          rw [if_pos ev, if_pos ev, if_pos ev, if_pos ev, ed, wr (by omega) (by omega)]
        · have q2 : j = 2 * (i : Int) + 1 := by omega
          rw [rd98_eq _ _ _ (by simp; omega), q2]
          unfold rf rt rc rk
          rw [if_neg ov, if_neg ov, if_neg ov, if_neg ov, od, wr (by omega) (by omega)]
    obtain ⟨Y, y1, y2⟩ := ih (i + 1) _ (by omega) (by simp; omega) key
    refine ⟨Y, y1.step fun k => ?_, y2⟩
    rw [compassref11_Residual.l0, if_pos (by omega), if_pos (by omega), if_pos (by omega), if_pos (by omega), Option.bind_some, if_pos (by simp; omega), w1 (by omega) (by omega)]; rfl
theorem resid_f {n : Int} {E : List S98} (R : Right n E) {A : List Int} (hA : A.length = E.length) (fit : Amts E A) : ∃ X, Evl (fun k => compassref11_Residual.f k n E A) (n, X) ∧ Resid E A X :=
  resid_l0 R hA fit E.length 0 [] (by omega) rfl fun j h0 h1 => by omega

/-- Changes along edges of the residual, one behind the other. -/
def put (A : List Int) (i x : Int) : List Int := A.set (i / 2).toNat (if i % 2 = 0 then rd A (i / 2) + x else rd A (i / 2) - x)
def chg (x : Int) : List Int → List Int → List Int
  | A, [] => A
  | A, i :: L => chg x (put A i x) L
/-- The changes fit: each edge once, as far as there is room. -/
structure Fit (E : List S98) (A L : List Int) (x : Int) : Prop where
  x0 : 0 ≤ x
  el : ∀ i ∈ L, 0 ≤ i ∧ i < 2 * (E.length : Int) ∧ x ≤ rc E A i
  one : L.Pairwise fun a b => a / 2 ≠ b / 2

theorem put_rd {E : List S98} {A : List Int} {i x : Int} (hA : A.length = E.length) (h0 : 0 ≤ i) (h1 : i < 2 * (E.length : Int)) (j : Int) (j0 : 0 ≤ j) : rd (put A i x) j = if j = i / 2 then (if i % 2 = 0 then rd A (i / 2) + x else rd A (i / 2) - x) else rd A j :=
  rd_set _ _ _ _ (by omega) (by omega) j0
theorem put_len (A : List Int) (i x : Int) : (put A i x).length = A.length := by unfold put; rw [List.length_set]
theorem put_rc {E : List S98} {A : List Int} {i x : Int} (hA : A.length = E.length) (h0 : 0 ≤ i) (h1 : i < 2 * (E.length : Int)) {j : Int} (j0 : 0 ≤ j) (hj : i / 2 ≠ j / 2) : rc E (put A i x) j = rc E A j := by
  have z : rd (put A i x) (j / 2) = rd A (j / 2) := by rw [put_rd hA h0 h1 _ (by omega), if_neg (fun e => hj e.symm)]
  unfold rc; rw [z]
theorem put_fit {E : List S98} {A : List Int} {i x : Int} (hA : A.length = E.length) (fit : Amts E A) (h0 : 0 ≤ i) (h1 : i < 2 * (E.length : Int)) (x0 : 0 ≤ x) (hx : x ≤ rc E A i) : Amts E (put A i x) := by
  intro j j0 j1
  have a := fit j j0 j1
  rw [put_rd hA h0 h1 j j0]
  unfold rc at hx
  by_cases q : j = i / 2
  · rw [if_pos q]; rw [q] at a ⊢
    split at hx <;> rename_i z
    · rw [if_pos z]; omega
    · rw [if_neg z]; omega
  · rw [if_neg q]; exact a
theorem Fit.tail {E : List S98} {A L : List Int} {i x : Int} (hA : A.length = E.length) (h : Fit E A (i :: L) x) : Fit E (put A i x) L x := by
  obtain ⟨a0, a1, -⟩ := h.el i (List.mem_cons_self ..)
  have p := List.pairwise_cons.mp h.one
  refine ⟨h.x0, fun j hj => ?_, p.2⟩
  obtain ⟨b0, b1, b2⟩ := h.el j (List.mem_cons_of_mem _ hj)
  exact ⟨b0, b1, by rw [put_rc hA a0 a1 b0 (p.1 j hj)]; exact b2⟩
theorem chg_len (x : Int) : ∀ (L A : List Int), (chg x A L).length = A.length
  | [], A => rfl
  | i :: L, A => by rw [chg, chg_len x L, put_len]
theorem chg_fit {E : List S98} {x : Int} : ∀ (L A : List Int), A.length = E.length → Amts E A → Fit E A L x → Amts E (chg x A L)
  | [], A, _, fit, _ => fit
  | i :: L, A, hA, fit, h => by
    obtain ⟨a0, a1, a2⟩ := h.el i (List.mem_cons_self ..)
    exact chg_fit L _ (by rw [put_len]; exact hA) (put_fit hA fit a0 a1 h.x0 a2) (h.tail hA)

theorem net_put {E : List S98} {A : List Int} {i x : Int} (hA : A.length = E.length) (h0 : 0 ≤ i) (h1 : i < 2 * (E.length : Int)) (v : Int) : ∀ m : Nat, m ≤ E.length →
    net E (put A i x) v m = net E A v m + (if i / 2 < (m : Int) then (if rf E i = v then x else 0) - (if rt E i = v then x else 0) else 0) := by
  intro m
  induction m with
  | zero => intro _; rw [if_neg (by omega)]; rfl
  | succ m ih =>
    intro hm
    simp only [net]
    rw [ih (by omega), put_rd hA h0 h1 m (by omega)]
    by_cases q : (m : Int) = i / 2
    · rw [if_pos q, if_neg (show ¬ i / 2 < (m : Int) by omega), if_pos (show i / 2 < ((m + 1 : Nat) : Int) by omega), ← q]
      unfold rf rt
      rw [← q]
      by_cases e : i % 2 = 0
      · rw [if_pos e, if_pos e, if_pos e]
        by_cases u1 : (rd_T98 E m).f0 = v <;> by_cases u2 : (rd_T98 E m).f1 = v <;> simp only [u1, u2, eq_self, if_true, if_false] <;> omega
      · rw [if_neg e, if_neg e, if_neg e]
        by_cases u1 : (rd_T98 E m).f0 = v <;> by_cases u2 : (rd_T98 E m).f1 = v <;> simp only [u1, u2, eq_self, if_true, if_false] <;> omega
    · rw [if_neg q]
      by_cases q1 : i / 2 < (m : Int)
      · rw [if_pos q1, if_pos (show i / 2 < ((m + 1 : Nat) : Int) by omega)]; omega
      · rw [if_neg q1, if_neg (show ¬ i / 2 < ((m + 1 : Nat) : Int) by omega)]; omega
/-- How often edges leave a node, less how often they come to it. -/
def flux (E : List S98) (v : Int) : List Int → Int
  | [] => 0
  | i :: L => flux E v L + (if rf E i = v then 1 else 0) - (if rt E i = v then 1 else 0)
theorem net_chg {E : List S98} {x v : Int} : ∀ (L A : List Int), A.length = E.length → Fit E A L x → net E (chg x A L) v E.length = net E A v E.length + x * flux E v L
  | [], A, _, _ => by rw [chg, flux]; omega
  | i :: L, A, hA, h => by
    obtain ⟨a0, a1, a2⟩ := h.el i (List.mem_cons_self ..)
    rw [chg, net_chg L _ (by rw [put_len]; exact hA) (h.tail hA), net_put hA a0 a1 v _ (Nat.le_refl _), if_pos (by omega), flux, Int.mul_sub, Int.mul_add]
    split <;> split <;> omega

theorem change_l0 {n : Int} {E : List S98} (R : Right n E) {L : List Int} {x : Int} (hL : (L.length : Int) ≤ 1000000) (d : Nat) : ∀ (i : Nat) (A : List Int), i + d = L.length → A.length = E.length → Amts E A → Fit E A (L.drop i) x →
    Evl (fun k => compassref11_change.l0 k L x A i) (chg x A (L.drop i)) := by
  have m1 := R.m1
  induction d with
  | zero =>
    intro i A hi hA fit h
    rw [List.drop_eq_nil_of_le (by omega)]
    exact Evl.here fun k => by rw [compassref11_change.l0, if_neg (by omega)]; rfl
  | succ d ih =>
    intro i A hi hA fit h
    have e : L.drop i = rd L i :: L.drop (i + 1) := by
      rw [List.drop_eq_getElem_cons (by omega)]; unfold rd; rw [List.getD_eq_getElem?_getD, show ((i : Int).toNat) = i by omega, List.getElem?_eq_getElem (by omega)]; rfl
    rw [e] at h ⊢
    obtain ⟨a0, a1, a2⟩ := h.el (rd L i) (List.mem_cons_self ..)
    have t1 := ih (i + 1) (put A (rd L i) x) (by omega) (by rw [put_len]; exact hA) (put_fit hA fit a0 a1 h.x0 a2) (h.tail hA)
    have ft := fit (rd L i / 2) (by omega) (by omega)
    have c1 := (R.e (rd L i / 2) (by omega) (by omega)).c1
    have x0 := h.x0
    refine t1.step fun k => ?_
    rw [compassref11_change.l0, if_pos (by omega), if_pos (by omega), Int.tmod_eq_emod_of_nonneg a0, Int.tdiv_eq_ediv_of_nonneg a0, wr (by omega) (by omega), w1 (by omega) (by omega)]
    unfold rc at a2
    by_cases q : rd L i % 2 = 0
    · rw [if_pos q] at a2
      rw [if_pos q, if_pos (by omega), if_pos (by omega), wr (by omega) (by omega), put, if_pos q]; rfl
    · rw [if_neg q] at a2
      rw [if_neg q, if_pos (by omega), if_pos (by omega), wr (by omega) (by omega), put, if_neg q]; rfl
theorem change_f {n : Int} {E : List S98} (R : Right n E) {L A : List Int} {x : Int} (hL : (L.length : Int) ≤ 1000000) (hA : A.length = E.length) (fit : Amts E A) (h : Fit E A L x) : Evl (fun k => compassref11_change.f k A L x) (chg x A L) := by
  have m1 := R.m1
  exact (change_l0 R hL L.length 0 A (by omega) hA fit h).congr fun k => by rw [compassref11_change.f, Option.bind_some, if_pos (by simp; omega), List.nil_append]; rfl

theorem room_l0 {E : List S98} {A L : List Int} {X : List S98} (n : Int) (hX : Resid E A X) (hL : (L.length : Int) ≤ 1000000) (hel : ∀ i ∈ L, 0 ≤ i ∧ i < 2 * (E.length : Int)) (d : Nat) : ∀ (i : Nat) (x : Int), i + d = L.length →
    ∃ r, Evl (fun k => compassref11_room.l0 k L x i n X) r ∧ r ≤ x ∧ (∀ j ∈ L.drop i, r ≤ rc E A j) ∧ (r = x ∨ ∃ j ∈ L, r = rc E A j) := by
  induction d with
  | zero =>
    intro i x hi
    refine ⟨x, Evl.here fun k => by rw [compassref11_room.l0, if_neg (by omega)], Int.le_refl _, fun j hj => ?_, Or.inl rfl⟩
    rw [List.drop_eq_nil_of_le (by omega)] at hj; cases hj
  | succ d ih =>
    intro i x hi
    have e : L.drop i = rd L i :: L.drop (i + 1) := by
      rw [List.drop_eq_getElem_cons (by omega)]; unfold rd; rw [List.getD_eq_getElem?_getD, show ((i : Int).toNat) = i by omega, List.getElem?_eq_getElem (by omega)]; rfl
    have mem := rd_mem L i (by omega) (by omega)
    obtain ⟨a0, a1⟩ := hel _ mem
    have xe : (rd_T98 X (rd L i)).f2 = rc E A (rd L i) := by rw [hX.el _ a0 a1]
    have hx := hX.len
    have st : ∀ y : Int, (if rc E A (rd L i) < x then rc E A (rd L i) else x) = y → ∀ r, Evl (fun k => compassref11_room.l0 k L y ((i + 1 : Nat) : Int) n X) r → Evl (fun k => compassref11_room.l0 k L x i n X) r := by
      intro y hy r hr
      refine hr.step fun k => ?_
      rw [compassref11_room.l0, if_pos (by omega), if_pos (by omega), if_pos a0, if_pos (by omega), xe, w1 (by omega) (by omega)]
      by_cases q : rc E A (rd L i) < x
      · rw [if_pos q] at hy ⊢; rw [hy]; rfl
      · rw [if_neg q] at hy ⊢; rw [hy]; rfl
    by_cases q : rc E A (rd L i) < x
    · obtain ⟨r, r1, r2, r3, r4⟩ := ih (i + 1) (rc E A (rd L i)) (by omega)
      refine ⟨r, st _ (if_pos q) r r1, by omega, fun j hj => ?_, Or.inr ?_⟩
      · rw [e] at hj
        rcases List.mem_cons.mp hj with rfl | hj
        · exact r2
        · exact r3 j hj
      · rcases r4 with rfl | h
        · exact ⟨_, mem, rfl⟩
        · exact h
    · obtain ⟨r, r1, r2, r3, r4⟩ := ih (i + 1) x (by omega)
      refine ⟨r, st _ (if_neg q) r r1, r2, fun j hj => ?_, r4⟩
      rw [e] at hj
      rcases List.mem_cons.mp hj with rfl | hj
      · omega
      · exact r3 j hj
theorem room_f {E : List S98} {A L : List Int} {X : List S98} (n : Int) (hX : Resid E A X) (hL : (L.length : Int) ≤ 1000000) (h0 : L ≠ []) (hel : ∀ i ∈ L, 0 ≤ i ∧ i < 2 * (E.length : Int)) :
    ∃ r, Evl (fun k => compassref11_room.f k n X L) r ∧ (∀ j ∈ L, r ≤ rc E A j) ∧ ∃ j ∈ L, r = rc E A j := by
  have l0 : 0 < L.length := List.length_pos_iff.mpr h0
  have mem := rd_mem L 0 (by omega) (by omega)
  obtain ⟨a0, a1⟩ := hel _ mem
  have xe : (rd_T98 X (rd L 0)).f2 = rc E A (rd L 0) := by rw [hX.el _ a0 a1]
  have hx := hX.len
  obtain ⟨r, r1, r2, r3, r4⟩ := room_l0 n hX hL hel (L.length - 1) 1 (rc E A (rd L 0)) (by omega)
  refine ⟨r, r1.congr fun k => ?_, fun j hj => ?_, ?_⟩
  · rw [compassref11_room.f, if_pos (by omega), if_pos a0, if_pos (by omega), xe]; rfl
  · cases L with
    | nil => exact absurd rfl h0
    | cons a L =>
      rcases List.mem_cons.mp hj with rfl | hj
      · exact r2
      · exact r3 j hj
  · rcases r4 with rfl | h
    · exact ⟨_, mem, rfl⟩
    · exact h
end Go.Proofs.Ytkdoihcjhccliaa.G
