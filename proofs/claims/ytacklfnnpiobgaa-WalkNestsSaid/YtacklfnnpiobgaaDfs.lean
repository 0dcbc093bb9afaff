/- Going into the depth: what one visit does, as a relation, and what holds of the times all along. -/
import Derived.Test.YtacklfnnpiobgaaQ0
import Derived.Test.YtacklfnnpiobgaaNegs
namespace Go.Proofs.Ytacklfnnpiobgaa.G
open Go.RowKit Go.Proofs.Ytacklfnnpiobgaa.Q Go.Proofs.YtacklfnnpiobgaaW.PrintWords Go.Proofs.YtacklfnnpiobgaaW.PrintLast
set_option linter.unusedVariables false

/-- A node that can be come to along the edges. -/
inductive Rch (E : List S41) (s : Int) : Int → Prop
  | refl : Rch E s s
  | step {i : Int} : 0 ≤ i → i < (E.length : Int) → Rch E s (rd_T41 E i).f0 → Rch E s (rd_T41 E i).f1
theorem Rch.trans {E : List S41} {s t v : Int} (a : Rch E s t) (b : Rch E t v) : Rch E s v := by
  induction b with
  | refl => exact a
  | step i0 i1 _ ih => exact Rch.step i0 i1 ih

/-- What is left of the visit of v behind i edges, from the times P, Q, c to those behind it. -/
inductive Rest (E : List S41) : Nat → Int → List Int → List Int → Int → List Int → List Int → Int → Prop
  | leave {v P Q c} : Rest E E.length v P Q c P (Q.set v.toNat c) (c + 1)
  | skip {i : Nat} {v P Q c P' Q' c'} : i < E.length → ¬ ((rd_T41 E i).f0 = v ∧ rd P (rd_T41 E i).f1 < 0) → Rest E (i + 1) v P Q c P' Q' c' → Rest E i v P Q c P' Q' c'
  | go {i : Nat} {v P Q c P1 Q1 c1 P' Q' c'} : i < E.length → (rd_T41 E i).f0 = v → rd P (rd_T41 E i).f1 < 0 → Rest E 0 (rd_T41 E i).f1 (P.set (rd_T41 E i).f1.toNat c) Q (c + 1) P1 Q1 c1 → Rest E (i + 1) v P1 Q1 c1 P' Q' c' → Rest E i v P Q c P' Q' c'

/-- What holds of the times, st being the nodes that were come to and not left, the last one first. -/
structure Inv (n : Int) (E : List S41) (st P Q : List Int) (c : Int) : Prop where
  pl : (P.length : Int) = n
  ql : (Q.length : Int) = n
  cnt : c = 2 * n - negs P - negs Q
  stl : (st.length : Int) = negs Q - negs P
  inn : ∀ u ∈ st, 0 ≤ u ∧ u < n
  kind : ∀ u, 0 ≤ u → u < n → (rd P u < 0 ∧ rd Q u < 0 ∧ u ∉ st) ∨ (0 ≤ rd P u ∧ rd P u < c ∧ rd Q u < 0 ∧ u ∈ st) ∨ (0 ≤ rd P u ∧ rd P u < rd Q u ∧ rd Q u < c ∧ u ∉ st)
  dpp : ∀ u w, 0 ≤ u → u < n → 0 ≤ w → w < n → u ≠ w → 0 ≤ rd P u → rd P u ≠ rd P w
  dqq : ∀ u w, 0 ≤ u → u < n → 0 ≤ w → w < n → u ≠ w → 0 ≤ rd Q u → rd Q u ≠ rd Q w
  dpq : ∀ u w, 0 ≤ u → u < n → 0 ≤ w → w < n → 0 ≤ rd P u → rd P u ≠ rd Q w
  srt : st.Pairwise (fun a b => rd P b < rd P a)
  nest : ∀ u w, 0 ≤ u → u < n → 0 ≤ w → w < n → 0 ≤ rd P u → rd P u < rd P w → 0 ≤ rd Q u → rd Q u < rd P w ∨ (0 ≤ rd Q w ∧ rd Q w < rd Q u)
  out : ∀ i : Int, 0 ≤ i → i < (E.length : Int) → 0 ≤ rd Q (rd_T41 E i).f0 → 0 ≤ rd P (rd_T41 E i).f1 ∧ rd P (rd_T41 E i).f1 < rd Q (rd_T41 E i).f0
  anc : ∀ w u, 0 ≤ w → w < n → 0 ≤ u → u < n → 0 ≤ rd P w → rd P w ≤ rd P u → (rd Q w < 0 ∨ rd P u < rd Q w) → Rch E w u

section
variable {n : Int} {E : List S41} {st P Q : List Int} {c : Int}
theorem Inv.lt (I : Inv n E st P Q c) {u : Int} (u0 : 0 ≤ u) (u1 : u < n) (c0 : 0 ≤ c) : rd P u < c ∧ rd Q u < c := by
  rcases I.kind u u0 u1 with h | h | h <;> omega
theorem Inv.c0 (I : Inv n E st P Q c) : 0 ≤ c ∧ c ≤ 2 * n := by
  have a := negs_le P
  have b := negs_le Q
  have d := negs_nonneg P
  have e := negs_nonneg Q
  have f := I.pl
  have g := I.ql
  have h := I.cnt
  omega
theorem Inv.room (I : Inv n E st P Q c) {v : Int} (v0 : 0 ≤ v) (v1 : v < n) (h : rd Q v < 0) : c < 2 * n := by
  have a := negs_nonneg P
  have b := negs_set Q v 0 v0 (by have := I.ql; omega) h (Int.le_refl 0)
  have d := negs_nonneg (Q.set v.toNat 0)
  have h := I.cnt
  omega
theorem Inv.start (n0 : 0 ≤ n) {P Q : List Int} (pl : (P.length : Int) = n) (ql : (Q.length : Int) = n) (hP : ∀ u, 0 ≤ u → u < n → rd P u < 0) (hQ : ∀ u, 0 ≤ u → u < n → rd Q u < 0) (np : negs P = n) (nq : negs Q = n) (R : Right n E) : Inv n E [] P Q 0 :=
  ⟨pl, ql, by omega, by rw [np, nq]; simp, fun u h => by simp at h, fun u u0 u1 => .inl ⟨hP u u0 u1, hQ u u0 u1, by simp⟩, fun u w u0 u1 _ _ _ h => by have := hP u u0 u1; omega, fun u w u0 u1 _ _ _ h => by have := hQ u u0 u1; omega,
   fun u w u0 u1 _ _ h => by have := hP u u0 u1; omega, List.Pairwise.nil, fun u w u0 u1 _ _ h => by have := hP u u0 u1; omega, fun i i0 i1 h => by have e := R.e i i0 i1; have := hQ _ e.a0 e.a1; omega, fun w u w0 w1 _ _ h => by have := hP w w0 w1; omega⟩
/-- A node is come to. -/
theorem Inv.enter (I : Inv n E st P Q c) (R : Right n E) {y : Int} (y0 : 0 ≤ y) (y1 : y < n) (hy : rd P y < 0) (hd : ∀ v, st.head? = some v → ∃ i : Int, 0 ≤ i ∧ i < (E.length : Int) ∧ (rd_T41 E i).f0 = v ∧ (rd_T41 E i).f1 = y) : Inv n E (y :: st) (P.set y.toNat c) Q (c + 1) := by
  have pl := I.pl
  have cc := I.c0
  have rp : ∀ u, 0 ≤ u → rd (P.set y.toNat c) u = if u = y then c else rd P u := fun u u0 => rd_set _ _ _ _ y0 (by omega) u0
  have lt := fun u u0 u1 => I.lt (u := u) u0 u1 cc.1
  have ky := I.kind y y0 y1
  have qy : rd Q y < 0 := by omega
  have sy : y ∉ st := by rcases ky with h | h | h <;> first | exact h.2.2 | omega
  have ns := negs_set P y c y0 (by omega) hy cc.1
  refine ⟨by rw [List.length_set]; exact pl, I.ql, by have := I.cnt; omega, by rw [List.length_cons]; have := I.stl; push_cast; omega, ?_, ?_, ?_, I.dqq, ?_, ?_, ?_, ?_, ?_⟩
  · intro u hu
    rcases List.mem_cons.mp hu with h | h
    · omega
    · exact I.inn u h
  · intro u u0 u1
    rw [rp u u0, List.mem_cons]
    by_cases q : u = y
    · rw [if_pos q]; right; left
      exact ⟨cc.1, by omega, by rw [q]; exact qy, .inl q⟩
    · rw [if_neg q]
      rcases I.kind u u0 u1 with h | h | h
      · exact .inl ⟨h.1, h.2.1, fun m => m.elim q h.2.2⟩
      · exact .inr (.inl ⟨h.1, by omega, h.2.2.1, .inr h.2.2.2⟩)
      · exact .inr (.inr ⟨h.1, h.2.1, by omega, fun m => m.elim q h.2.2.2⟩)
  · intro u w u0 u1 w0 w1 ne hu
    rw [rp u u0] at hu ⊢
    rw [rp w w0]
    have a := lt u u0 u1
    have b := lt w w0 w1
    by_cases q : u = y
    · rw [if_pos q, if_neg (by omega)]; omega
    · rw [if_neg q] at hu ⊢
      by_cases q2 : w = y
      · rw [if_pos q2]; omega
      · rw [if_neg q2]; exact I.dpp u w u0 u1 w0 w1 ne hu
  · intro u w u0 u1 w0 w1 hu
    rw [rp u u0] at hu ⊢
    have b := lt w w0 w1
    by_cases q : u = y
    · rw [if_pos q]; omega
    · rw [if_neg q] at hu ⊢; exact I.dpq u w u0 u1 w0 w1 hu
  · rw [List.pairwise_cons]
    refine ⟨fun b hb => ?_, ?_⟩
    · have ib := I.inn b hb
      rw [rp b ib.1, rp y y0, if_pos rfl, if_neg (fun e : b = y => sy (e ▸ hb))]
      exact (lt b ib.1 ib.2).1
    · refine List.Pairwise.imp_of_mem ?_ I.srt
      intro a b ha hb h
      have ia := I.inn a ha
      have ib := I.inn b hb
      rw [rp a ia.1, rp b ib.1, if_neg (fun e : a = y => sy (e ▸ ha)), if_neg (fun e : b = y => sy (e ▸ hb))]
      exact h
  · intro u w u0 u1 w0 w1 hu hlt hq
    rw [rp u u0] at hu hlt
    rw [rp w w0] at hlt ⊢
    have a := lt u u0 u1
    have b := lt w w0 w1
    by_cases q : u = y
    · rw [q] at hq; omega
    · rw [if_neg q] at hu hlt
      by_cases q2 : w = y
      · rw [if_pos q2]; left; exact a.2
      · rw [if_neg q2] at hlt ⊢; exact I.nest u w u0 u1 w0 w1 hu hlt hq
  · intro i i0 i1 h
    have e := R.e i i0 i1
    have o := I.out i i0 i1 h
    rw [rp _ e.b0, if_neg (by intro q; rw [q] at o; omega)]
    exact o
  · intro w u w0 w1 u0 u1 hw hle hor
    rw [rp w w0] at hw hle
    rw [rp u u0] at hle hor
    have a := lt w w0 w1
    have b := lt u u0 u1
    by_cases q : u = y
    · rw [if_pos q] at hle hor
      by_cases q2 : w = y
      · rw [q, q2]; exact Rch.refl
      · rw [if_neg q2] at hw hle
        have gw : w ∈ st := by rcases I.kind w w0 w1 with h | h | h <;> first | exact h.2.2.2 | omega
        have hq : rd Q w < 0 := by omega
        obtain ⟨v, t, rfl⟩ : ∃ v t, st = v :: t := by
          cases st with
          | nil => simp at gw
          | cons v t => exact ⟨v, t, rfl⟩
        obtain ⟨i, i0, i1, f0, f1⟩ := hd v rfl
        have iv := I.inn v (by simp)
        have wv : Rch E w v := by
          rcases List.mem_cons.mp gw with h | h
          · rw [h]; exact Rch.refl
          · have := (List.pairwise_cons.mp I.srt).1 w h
            exact I.anc w v w0 w1 iv.1 iv.2 hw (by omega) (.inl hq)
        rw [q, ← f1]
        exact Rch.step i0 i1 (f0 ▸ wv)
    · rw [if_neg q] at hle hor
      by_cases q2 : w = y
      · rw [if_pos q2] at hle; omega
      · rw [if_neg q2] at hw hle; exact I.anc w u w0 w1 u0 u1 hw hle hor
/-- A node is left. -/
theorem Inv.leave {v : Int} (I : Inv n E (v :: st) P Q c) (R : Right n E) (h : ∀ j : Int, 0 ≤ j → j < (E.length : Int) → (rd_T41 E j).f0 = v → 0 ≤ rd P (rd_T41 E j).f1) : Inv n E st P (Q.set v.toNat c) (c + 1) := by
  have ql := I.ql
  have cc := I.c0
  have iv := I.inn v (by simp)
  have rq : ∀ u, 0 ≤ u → rd (Q.set v.toNat c) u = if u = v then c else rd Q u := fun u u0 => rd_set _ _ _ _ iv.1 (by omega) u0
  have lt := fun u u0 u1 => I.lt (u := u) u0 u1 cc.1
  have kv : 0 ≤ rd P v ∧ rd P v < c ∧ rd Q v < 0 := by rcases I.kind v iv.1 iv.2 with k | k | k <;> first | exact absurd (List.mem_cons_self) k.2.2 | exact absurd (List.mem_cons_self) k.2.2.2 | omega
  have srt := List.pairwise_cons.mp I.srt
  have sv : v ∉ st := fun m => by have := srt.1 v m; omega
  have ns := negs_set Q v c iv.1 (by omega) kv.2.2 cc.1
  refine ⟨I.pl, by rw [List.length_set]; exact ql, by have := I.cnt; omega, by have := I.stl; rw [List.length_cons] at this; push_cast at this; omega, fun u hu => I.inn u (List.mem_cons_of_mem _ hu), ?_, I.dpp, ?_, ?_, srt.2, ?_, ?_, ?_⟩
  · intro u u0 u1
    rw [rq u u0]
    by_cases q : u = v
    · rw [if_pos q, q]; exact .inr (.inr ⟨kv.1, kv.2.1, by omega, sv⟩)
    · rw [if_neg q]
      rcases I.kind u u0 u1 with k | k | k
      · exact .inl ⟨k.1, k.2.1, fun m => k.2.2 (List.mem_cons_of_mem _ m)⟩
      · exact .inr (.inl ⟨k.1, by omega, k.2.2.1, (List.mem_cons.mp k.2.2.2).resolve_left q⟩)
      · exact .inr (.inr ⟨k.1, k.2.1, by omega, fun m => k.2.2.2 (List.mem_cons_of_mem _ m)⟩)
  · intro u w u0 u1 w0 w1 ne hu
    rw [rq u u0] at hu ⊢
    rw [rq w w0]
    have a := lt u u0 u1
    have b := lt w w0 w1
    by_cases q : u = v
    · rw [if_pos q, if_neg (by omega)]; omega
    · rw [if_neg q] at hu ⊢
      by_cases q2 : w = v
      · rw [if_pos q2]; omega
      · rw [if_neg q2]; exact I.dqq u w u0 u1 w0 w1 ne hu
  · intro u w u0 u1 w0 w1 hu
    rw [rq w w0]
    have a := lt u u0 u1
    by_cases q : w = v
    · rw [if_pos q]; omega
    · rw [if_neg q]; exact I.dpq u w u0 u1 w0 w1 hu
  · intro u w u0 u1 w0 w1 hu hlt hq
    rw [rq u u0] at hq ⊢
    rw [rq w w0]
    have a := lt u u0 u1
    have b := lt w w0 w1
    by_cases q : u = v
    · rw [if_pos q] at hq ⊢
      rw [q] at hlt
      by_cases q2 : w = v
      · rw [q2] at hlt; omega
      · rw [if_neg q2]
        rcases I.kind w w0 w1 with k | k | k
        · omega
        · have := srt.1 w ((List.mem_cons.mp k.2.2.2).resolve_left q2); omega
        · right; omega
    · rw [if_neg q] at hq ⊢
      have o := I.nest u w u0 u1 w0 w1 hu hlt hq
      by_cases q2 : w = v
      · rw [q2] at o ⊢; rw [if_pos rfl]; left; omega
      · rw [if_neg q2]; exact o
  · intro i i0 i1 hq
    have e := R.e i i0 i1
    rw [rq _ e.a0] at hq ⊢
    by_cases q : (rd_T41 E i).f0 = v
    · rw [if_pos q]; exact ⟨h i i0 i1 q, (lt _ e.b0 e.b1).1⟩
    · rw [if_neg q] at hq ⊢; exact I.out i i0 i1 hq
  · intro w u w0 w1 u0 u1 hw hle hor
    rw [rq w w0] at hor
    by_cases q : w = v
    · exact I.anc w u w0 w1 u0 u1 hw hle (.inl (by rw [q]; exact kv.2.2))
    · rw [if_neg q] at hor; exact I.anc w u w0 w1 u0 u1 hw hle hor
end
/-- What a visit leaves. -/
theorem Rest.inv {n : Int} {E : List S41} (R : Right n E) {i : Nat} {v : Int} {P Q : List Int} {c : Int} {P' Q' : List Int} {c' : Int} (h : Rest E i v P Q c P' Q' c') : ∀ st, Inv n E (v :: st) P Q c → (∀ j : Int, 0 ≤ j → j < (i : Int) → (rd_T41 E j).f0 = v → 0 ≤ rd P (rd_T41 E j).f1) →
    Inv n E st P' Q' c' ∧ (∀ u, 0 ≤ u → u < n → 0 ≤ rd P u → 0 ≤ rd P' u) ∧ negs P' ≤ negs P := by
  induction h with
  | leave => intro st I hj; exact ⟨I.leave R hj, fun u _ _ h => h, Int.le_refl _⟩
  | @skip i v P Q c P' Q' c' i1 no _ ih =>
    intro st I hj
    refine ih st I fun j j0 j1 hf => ?_
    by_cases q : j = i
    · rw [q]; exact Int.not_lt.mp fun a => no ⟨q ▸ hf, a⟩
    · exact hj j j0 (by omega) hf
  | @go i v P Q c P1 Q1 c1 P' Q' c' i1 hf hp _ _ ih1 ih2 =>
    intro st I hj
    have e := R.e i (by omega) (by omega)
    have pl := I.pl
    have cc := I.c0
    have rp : ∀ u, 0 ≤ u → rd (P.set (rd_T41 E i).f1.toNat c) u = if u = (rd_T41 E i).f1 then c else rd P u := fun u u0 => rd_set _ _ _ _ e.b0 (by have := e.b1; omega) u0
    have I1 := I.enter R e.b0 e.b1 hp (fun x hx => ⟨i, by omega, by omega, by simp at hx; rw [hf, hx], rfl⟩)
    obtain ⟨a, b, d⟩ := ih1 (v :: st) I1 (fun j j0 j1 _ => by omega)
    have b' : ∀ u, 0 ≤ u → u < n → 0 ≤ rd P u → 0 ≤ rd P1 u := fun u u0 u1 hu => b u u0 u1 (by rw [rp u u0]; split <;> omega)
    obtain ⟨x, y, z⟩ := ih2 st a (fun j j0 j1 hjf => by
      have ej := R.e j j0 (by omega)
      by_cases q : j = i
      · rw [q]; exact b _ e.b0 e.b1 (by rw [rp _ e.b0, if_pos rfl]; exact cc.1)
      · exact b' _ ej.b0 ej.b1 (hj j j0 (by omega) hjf))
    have ns := negs_set P (rd_T41 E i).f1 c e.b0 (by have := e.b1; omega) hp cc.1
    exact ⟨x, fun u u0 u1 hu => y u u0 u1 (b' u u0 u1 hu), by omega⟩
/-- A visit comes to its end. -/
theorem Rest.ex {n : Int} {E : List S41} (R : Right n E) (N : Nat) : ∀ (d i : Nat) (v : Int) (st P Q : List Int) (c : Int), i + d = E.length → negs P ≤ (N : Int) → Inv n E (v :: st) P Q c → (∀ j : Int, 0 ≤ j → j < (i : Int) → (rd_T41 E j).f0 = v → 0 ≤ rd P (rd_T41 E j).f1) →
    ∃ P' Q' c', Rest E i v P Q c P' Q' c' := by
  induction N with
  | zero =>
    intro d
    induction d with
    | zero => intro i v st P Q c hi hN I hj; obtain rfl : i = E.length := (by omega); exact ⟨_, _, _, Rest.leave⟩
    | succ d ih =>
      intro i v st P Q c hi hN I hj
      have e := R.e i (by omega) (by omega)
      have pl := I.pl
      have no : ¬ rd P (rd_T41 E i).f1 < 0 := fun hp => by
        have ns := negs_set P (rd_T41 E i).f1 0 e.b0 (by have := e.b1; omega) hp (Int.le_refl 0)
        have := negs_nonneg (P.set (rd_T41 E i).f1.toNat 0); omega
      obtain ⟨P', Q', c', r⟩ := ih (i + 1) v st P Q c (by omega) hN I (fun j j0 j1 hf => by
        by_cases q : j = i
        · rw [q]; omega
        · exact hj j j0 (by omega) hf)
      exact ⟨P', Q', c', Rest.skip (by omega) (fun h => no h.2) r⟩
  | succ N ihN =>
    intro d
    induction d with
    | zero => intro i v st P Q c hi hN I hj; obtain rfl : i = E.length := (by omega); exact ⟨_, _, _, Rest.leave⟩
    | succ d ih =>
      intro i v st P Q c hi hN I hj
      have e := R.e i (by omega) (by omega)
      have pl := I.pl
      have cc := I.c0
      by_cases hg : (rd_T41 E i).f0 = v ∧ rd P (rd_T41 E i).f1 < 0
      · obtain ⟨hf, hp⟩ := hg
        have ns := negs_set P (rd_T41 E i).f1 c e.b0 (by have := e.b1; omega) hp cc.1
        have rp : ∀ u, 0 ≤ u → rd (P.set (rd_T41 E i).f1.toNat c) u = if u = (rd_T41 E i).f1 then c else rd P u := fun u u0 => rd_set _ _ _ _ e.b0 (by have := e.b1; omega) u0
        have I1 := I.enter R e.b0 e.b1 hp (fun x hx => ⟨i, by omega, by omega, by simp at hx; rw [hf, hx], rfl⟩)
        obtain ⟨P1, Q1, c1, r1⟩ := ihN E.length 0 _ (v :: st) _ Q (c + 1) (by omega) (by omega) I1 (fun j j0 j1 _ => by omega)
        obtain ⟨a, b, z⟩ := r1.inv R (v :: st) I1 (fun j j0 j1 _ => by omega)
        obtain ⟨P', Q', c', r2⟩ := ihN d (i + 1) v st P1 Q1 c1 (by omega) (by omega) a (fun j j0 j1 hjf => by
          have ej := R.e j j0 (by omega)
          by_cases q : j = i
          · rw [q]; exact b _ e.b0 e.b1 (by rw [rp _ e.b0, if_pos rfl]; exact cc.1)
          · exact b _ ej.b0 ej.b1 (by rw [rp _ ej.b0]; have := hj j j0 (by omega) hjf; split <;> omega))
        exact ⟨P', Q', c', Rest.go (by omega) hf hp r1 r2⟩
      · obtain ⟨P', Q', c', r⟩ := ih (i + 1) v st P Q c (by omega) hN I (fun j j0 j1 hf => by
          by_cases q : j = i
          · rw [q]; exact Int.not_lt.mp fun a => hg ⟨q ▸ hf, a⟩
          · exact hj j j0 (by omega) hf)
        exact ⟨P', Q', c', Rest.skip (by omega) hg r⟩
end Go.Proofs.Ytacklfnnpiobgaa.G
