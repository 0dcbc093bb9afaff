/- Do all edges hang together? The program's look and the document's. -/
import Derived.Test.YtkdoihcjhccliaaQ14
import Derived.Test.YtkdoihcjhccliaaQ44
import Derived.Test.YtkdoihcjhccliaaPartsRef
namespace Go.Proofs.Ytkdoihcjhccliaa.G
open Go.RowKit Go.Proofs.Ytkdoihcjhccliaa.Q Go.Proofs.YtkdoihcjhccliaaW.PrintWords Go.Proofs.YtkdoihcjhccliaaW.PrintLast
set_option linter.unusedVariables false

/-- All edges hang together. -/
def Hang (E : List S98) : Prop := ∀ i : Int, 0 ≤ i → i < (E.length : Int) → Conn E (rd_T98 E i).f0 (rd_T98 E 0).f0

theorem tog_doc {n : Int} {E : List S98} (R : Right n E) : ∃ b : Bool, Evl (fun k => compassref11_Together.f k n E) b ∧ (b = true ↔ Hang E) := by
  have m1 := R.m1
  obtain ⟨P, hP, hl, hc⟩ := parts04_f n E R
  have loop : ∀ (d i : Nat), 1 ≤ i → (i + d = E.length ∨ d = 0 ∧ E.length ≤ i) → (∀ j : Int, 0 ≤ j → j < (i : Int) → j < (E.length : Int) → Conn E (rd_T98 E j).f0 (rd_T98 E 0).f0) →
      ∃ b : Bool, Evl (fun k => compassref11_Together.l0 k P i n E) b ∧ (b = true ↔ Hang E) := by
    intro d
    induction d with
    | zero =>
      intro i i1 hi hC
      exact ⟨true, Evl.here fun k => by rw [compassref11_Together.l0, if_neg (by omega)], fun _ j a b => hC j a (by omega) b, fun _ => rfl⟩
    | succ d ih =>
      intro i i1 hi hC
      have g : (i : Int) < (E.length : Int) := by omega
      have w : wrap64 ((i : Int) + 1) = ((i + 1 : Nat) : Int) := by rw [w1 (by omega) (by omega)]; rfl
      have e := R.e i (by omega) g
      have z := R.e 0 (by omega) (by omega)
      have a0 := e.a0
      have a1 := e.a1
      have z0 := z.a0
      have z1 := z.a1
      have h := hc (rd_T98 E i).f0 (rd_T98 E 0).f0 a0 a1 z0 z1
      by_cases c : rd P (rd_T98 E i).f0 = rd P (rd_T98 E 0).f0
      · obtain ⟨b, e1, e2⟩ := ih (i + 1) (by omega) (by omega) (fun j j0 j1 j2 => by
          by_cases q : j = i
          · rw [q]; exact h.1 c
          · exact hC j j0 (by omega) j2)
        exact ⟨b, e1.step fun k => by rw [compassref11_Together.l0, if_pos g, if_pos (by omega), if_pos a0, if_pos (by omega), if_pos (by omega), if_pos z0, if_pos (by omega), if_pos c, w], e2⟩
      · exact ⟨false, Evl.here fun k => by rw [compassref11_Together.l0, if_pos g, if_pos (by omega), if_pos a0, if_pos (by omega), if_pos (by omega), if_pos z0, if_pos (by omega), if_neg c], fun h => (by cases h), fun q => absurd (h.2 (q i (by omega) g)) c⟩
  obtain ⟨b, e1, e2⟩ := loop (E.length - 1) 1 (Nat.le_refl _) (by omega) (fun j a b c => by rw [show j = 0 by omega]; exact Conn.refl E _)
  exact ⟨b, (Evl.bind (h := fun k bt509 => compassref11_Together.l0 k bt509.1 1 n E) hP e1).congr fun k => rfl, e2⟩

/-- How many nodes are in. -/
def ins (n : Int) (B : List Bool) : Nat := (rng n.toNat).countP fun v => rdOf false B v
/-- All that is in hangs together with the first edge. -/
structure In (n : Int) (E : List S98) (B : List Bool) : Prop where
  len : (B.length : Int) = n
  cn : ∀ v : Int, 0 ≤ v → v < n → rdOf false B v = true → Conn E v (rd_T98 E 0).f0

theorem tog_l1 {n : Int} {E : List S98} (R : Right n E) (x : Int) (d : Nat) : ∀ (i : Nat) (B : List Bool), i + d = E.length → In n E B →
    ∃ B' : List Bool, In n E B' ∧ (∀ v : Int, 0 ≤ v → v < n → rdOf false B v = true → rdOf false B' v = true) ∧
      ((∀ j : Int, (i : Int) ≤ j → j < (E.length : Int) → (rdOf false B (rd_T98 E j).f0 = true ↔ rdOf false B (rd_T98 E j).f1 = true)) ∧ B' = B ∨ ins n B < ins n B' ∨ ∀ v : Int, 0 ≤ v → v < n → rdOf false B' v = rdOf false B v) ∧
      (∀ j : Int, (i : Int) ≤ j → j < (E.length : Int) → (rdOf false B (rd_T98 E j).f0 = true ∨ rdOf false B (rd_T98 E j).f1 = true) → rdOf false B' (rd_T98 E j).f0 = true ∧ rdOf false B' (rd_T98 E j).f1 = true) ∧
      ∀ r, Evl (fun k => proof_together.l0 k B' n (wrap64 (x + 1)) n E) r → Evl (fun k => proof_together.l1 k B n x E E.length i n E) r := by
  have m1 := R.m1
  induction d with
  | zero =>
    intro i B hi hB
    exact ⟨B, hB, fun v _ _ h => h, Or.inr (Or.inr fun v _ _ => rfl), fun j a b => by omega, fun r H => H.step fun k => by rw [proof_together.l1, if_neg (by omega)]⟩
  | succ d ih =>
    intro i B hi hB
    have g : (i : Int) < (E.length : Int) := by omega
    have w : wrap64 ((i : Int) + 1) = ((i + 1 : Nat) : Int) := by rw [w1 (by omega) (by omega)]; rfl
    have e := R.e i (by omega) g
    have a0 := e.a0
    have a1 : (rd_T98 E i).f0 < (B.length : Int) := by rw [hB.len]; exact e.a1
    have b0 := e.b0
    have b1 : (rd_T98 E i).f1 < (B.length : Int) := by rw [hB.len]; exact e.b1
    have ce := Conn.edge E i (by omega) g
    by_cases c : rdOf false B (rd_T98 E i).f0 = true ∨ rdOf false B (rd_T98 E i).f1 = true
    · have b1' : (rd_T98 E i).f1 < ((B.set (rd_T98 E i).f0.toNat true).length : Int) := by rw [List.length_set]; exact b1
      have rv : ∀ v : Int, 0 ≤ v → rdOf false ((B.set (rd_T98 E i).f0.toNat true).set (rd_T98 E i).f1.toNat true) v = if v = (rd_T98 E i).f1 then true else if v = (rd_T98 E i).f0 then true else rdOf false B v := fun v v0 => by
        rw [rdOf_set _ _ _ _ _ b0 b1' v0, rdOf_set _ _ _ _ _ a0 a1 v0]
      have up : ∀ v : Int, 0 ≤ v → v < n → rdOf false B v = true → rdOf false ((B.set (rd_T98 E i).f0.toNat true).set (rd_T98 E i).f1.toNat true) v = true := fun v v0 _ h => by
        rw [rv v v0]
        split
        · rfl
        · split
          · rfl
          · exact h
      have hcn : Conn E (rd_T98 E i).f0 (rd_T98 E 0).f0 := by
        rcases c with c | c
        · exact hB.cn _ a0 e.a1 c
        · exact ce.trans (hB.cn _ b0 e.b1 c)
      have hB2 : In n E ((B.set (rd_T98 E i).f0.toNat true).set (rd_T98 E i).f1.toNat true) := ⟨by rw [List.length_set, List.length_set]; exact hB.len, fun v v0 v1 h => by
        rw [rv v v0] at h
        by_cases q1 : v = (rd_T98 E i).f1
        · rw [q1]; exact ce.symm.trans hcn
        · by_cases q0 : v = (rd_T98 E i).f0
          · rw [q0]; exact hcn
          · rw [if_neg q1, if_neg q0] at h; exact hB.cn v v0 v1 h⟩
      obtain ⟨B', h1, h2, h3, h4, h5⟩ := ih (i + 1) _ (by omega) hB2
      have mono2 : ins n ((B.set (rd_T98 E i).f0.toNat true).set (rd_T98 E i).f1.toNat true) ≤ ins n B' := countP_more _ _ _ fun v hv h => by
        have := (mem_rng n.toNat v).1 hv
        exact h2 v this.1 (by omega) h
      have mono1 : ins n B ≤ ins n ((B.set (rd_T98 E i).f0.toNat true).set (rd_T98 E i).f1.toNat true) := countP_more _ _ _ fun v hv h => by
        have := (mem_rng n.toNat v).1 hv
        exact up v this.1 (by omega) h
      refine ⟨B', h1, fun v v0 v1 h => h2 v v0 v1 (up v v0 v1 h), ?_, fun j j0 j1 h => ?_, fun r H => (h5 r H).step fun k => ?_⟩
      · by_cases same : ∀ v : Int, 0 ≤ v → v < n → rdOf false B' v = rdOf false B v
        · exact Or.inr (Or.inr same)
        · right; left
          have : ∃ v : Int, 0 ≤ v ∧ v < n ∧ rdOf false B v = false ∧ rdOf false B' v = true := by
            apply Classical.byContradiction
            intro no
            apply same
            intro v v0 v1
            by_cases q : rdOf false B v = true
            · rw [q]; exact h2 v v0 v1 (up v v0 v1 q)
            · have q' : rdOf false B v = false := by simpa using q
              rw [q']
              by_cases p : rdOf false B' v = true
              · exact absurd ⟨v, v0, v1, q', p⟩ no
              · simpa using p
          obtain ⟨v, v0, v1, q, p⟩ := this
          exact countP_new (rng n.toNat) (fun v => rdOf false B v) (fun v => rdOf false B' v) (fun u hu h => by
            have := (mem_rng n.toNat u).1 hu
            exact h2 u this.1 (by omega) (up u this.1 (by omega) h)) v ((mem_rng n.toNat v).2 ⟨v0, by omega⟩) p q
      · by_cases q : j = i
        · rw [q]
          exact ⟨h2 _ a0 e.a1 (by rw [rv _ a0]; split <;> simp), h2 _ b0 e.b1 (by rw [rv _ b0, if_pos rfl])⟩
        · have ej := R.e j (by omega) j1
          refine h4 j (by omega) j1 ?_
          rcases h with h | h
          · exact Or.inl (up _ ej.a0 ej.a1 h)
          · exact Or.inr (up _ ej.b0 ej.b1 h)
      · by_cases c0 : rdOf false B (rd_T98 E i).f0 = true
        · rw [proof_together.l1, if_pos g, if_pos (by omega), if_pos g, if_pos a0, if_pos a1, if_pos c0, if_pos b0, if_pos b1, w]
        · have c1 : rdOf false B (rd_T98 E i).f1 = true := by rcases c with c | c; exact absurd c c0; exact c
          rw [proof_together.l1, if_pos g, if_pos (by omega), if_pos g, if_pos a0, if_pos a1, if_neg c0, if_pos b0, if_pos b1, if_pos c1, w]
    · obtain ⟨B', h1, h2, h3, h4, h5⟩ := ih (i + 1) B (by omega) hB
      refine ⟨B', h1, h2, ?_, fun j j0 j1 h => ?_, fun r H => (h5 r H).step fun k => ?_⟩
      · rcases h3 with ⟨p, q⟩ | p | p
        · exact Or.inr (Or.inr fun v _ _ => by rw [q])
        · exact Or.inr (Or.inl p)
        · exact Or.inr (Or.inr p)
      · by_cases q : j = i
        · rw [q] at h; exact absurd h c
        · exact h4 j (by omega) j1 h
      · rw [proof_together.l1, if_pos g, if_pos (by omega), if_pos g, if_pos a0, if_pos a1, if_neg (fun h => c (Or.inl h)), if_pos b0, if_pos b1, if_neg (fun h => c (Or.inr h)), w]

theorem tog_l2 {n : Int} {E : List S98} (R : Right n E) {B : List Bool} (hB : (B.length : Int) = n) (d : Nat) : ∀ i : Nat, i + d = E.length → (∀ j : Int, 0 ≤ j → j < (i : Int) → rdOf false B (rd_T98 E j).f0 = true) →
    ∃ b : Bool, Evl (fun k => proof_together.l2 k B E E.length i) b ∧ (b = true ↔ ∀ j : Int, 0 ≤ j → j < (E.length : Int) → rdOf false B (rd_T98 E j).f0 = true) := by
  have m1 := R.m1
  induction d with
  | zero => intro i hi hP; exact ⟨true, Evl.here fun k => by rw [proof_together.l2, if_neg (by omega)], fun _ j a b => hP j a (by omega), fun _ => rfl⟩
  | succ d ih =>
    intro i hi hP
    have g : (i : Int) < (E.length : Int) := by omega
    have w : wrap64 ((i : Int) + 1) = ((i + 1 : Nat) : Int) := by rw [w1 (by omega) (by omega)]; rfl
    have e := R.e i (by omega) g
    have a0 := e.a0
    have a1 : (rd_T98 E i).f0 < (B.length : Int) := by rw [hB]; exact e.a1
    by_cases c : rdOf false B (rd_T98 E i).f0 = true
    · obtain ⟨b, e1, e2⟩ := ih (i + 1) (by omega) (fun j j0 j1 => by
        by_cases q : j = i
        · rw [q]; exact c
        · exact hP j j0 (by omega))
      exact ⟨b, e1.step fun k => by rw [proof_together.l2, if_pos g, if_pos (by omega), if_pos g, if_pos a0, if_pos a1, if_pos c, w], e2⟩
    · exact ⟨false, Evl.here fun k => by rw [proof_together.l2, if_pos g, if_pos (by omega), if_pos g, if_pos a0, if_pos a1, if_neg c], fun h => (by cases h), fun h => absurd (h i (by omega) g) c⟩

/-- Rounds: behind them no edge leaves what is in, or they went on getting more. -/
theorem tog_l0 {n : Int} {E : List S98} (R : Right n E) (h0 : 0 < E.length) (d : Nat) : ∀ (x : Nat) (B : List Bool), ((x + d : Nat) : Int) = n → In n E B → rdOf false B (rd_T98 E 0).f0 = true →
    ((∀ j : Int, 0 ≤ j → j < (E.length : Int) → (rdOf false B (rd_T98 E j).f0 = true ↔ rdOf false B (rd_T98 E j).f1 = true)) ∨ x + 1 ≤ ins n B) →
    ∃ b : Bool, Evl (fun k => proof_together.l0 k B n x n E) b ∧ (b = true ↔ Hang E) := by
  have n1 := R.n1
  induction d with
  | zero =>
    intro x B hx hB hin hm
    have cl : ∀ j : Int, 0 ≤ j → j < (E.length : Int) → (rdOf false B (rd_T98 E j).f0 = true ↔ rdOf false B (rd_T98 E j).f1 = true) := by
      rcases hm with h | h
      · exact h
      · have := List.countP_le_length (p := fun v => rdOf false B v) (l := rng n.toNat)
        rw [len_rng] at this
        unfold ins at h
        omega
    obtain ⟨b, e1, e2⟩ := tog_l2 R hB.len E.length 0 (by omega) (fun j a b => by omega)
    refine ⟨b, e1.step fun k => by rw [proof_together.l0, if_neg (by omega)]; rfl, e2.trans ⟨fun h i i0 i1 => ?_, fun h i i0 i1 => ?_⟩⟩
    · have e := R.e i i0 i1
      exact hB.cn _ e.a0 e.a1 (h i i0 i1)
    · have := h i i0 i1 (fun v => rdOf false B v = true) cl
      exact this.2 hin
  | succ d ih =>
    intro x B hx hB hin hm
    have w : wrap64 ((x : Int) + 1) = ((x + 1 : Nat) : Int) := by rw [w1 (by omega) (by omega)]; rfl
    obtain ⟨B', h1, h2, h3, h4, h5⟩ := tog_l1 R x E.length 0 B (by omega) hB
    have z := R.e 0 (by omega) (by omega)
    have cl : (∀ v : Int, 0 ≤ v → v < n → rdOf false B' v = rdOf false B v) → ∀ j : Int, 0 ≤ j → j < (E.length : Int) → (rdOf false B' (rd_T98 E j).f0 = true ↔ rdOf false B' (rd_T98 E j).f1 = true) := by
      intro same j j0 j1
      have e := R.e j j0 j1
      have := h4 j (by omega) j1
      rw [same _ e.a0 e.a1, same _ e.b0 e.b1] at this ⊢
      exact ⟨fun h => (this (Or.inl h)).2, fun h => (this (Or.inr h)).1⟩
    have next : (∀ j : Int, 0 ≤ j → j < (E.length : Int) → (rdOf false B' (rd_T98 E j).f0 = true ↔ rdOf false B' (rd_T98 E j).f1 = true)) ∨ x + 1 + 1 ≤ ins n B' := by
      rcases h3 with ⟨p, q⟩ | p | p
      · left; rw [q]; exact fun j a b => p j (by omega) b
      · rcases hm with hm | hm
        · -- closed already: nothing is got
          left
          have key : ∀ v : Int, 0 ≤ v → v < n → rdOf false B' v = true → rdOf false B v = true := by
            intro v v0 v1 hv
            have c1 := h1.cn v v0 v1 hv (fun u => rdOf false B u = true) hm
            exact c1.2 hin
          exact cl fun v v0 v1 => by
            by_cases q : rdOf false B v = true
            · rw [q]; exact h2 v v0 v1 q
            · by_cases t : rdOf false B' v = true
              · exact absurd (key v v0 v1 t) q
              · rw [show rdOf false B v = false by simpa using q]; simpa using t
        · right; omega
      · left; exact cl p
    obtain ⟨b, e1, e2⟩ := ih (x + 1) B' (by omega) h1 (h2 _ z.a0 z.a1 hin) next
    exact ⟨b, (h5 b (e1.congr fun k => by rw [w])).step fun k => by rw [proof_together.l0, if_pos (by omega)]; rfl, e2⟩
theorem tog_f {n : Int} {E : List S98} (R : Right n E) : ∃ b : Bool, Evl (fun k => proof_together.f k n E) b ∧ Evl (fun k => compassref11_Together.f k n E) b ∧ (b = true ↔ Hang E) := by
  have n0 := R.n0
  have n1 := R.n1
  obtain ⟨c, d1, d2⟩ := tog_doc R
  have pr : ∃ b : Bool, Evl (fun k => proof_together.f k n E) b ∧ (b = true ↔ Hang E) := by
    by_cases h : (E.length : Int) = 0
    · exact ⟨true, Evl.pure.congr fun k => by rw [proof_together.f, if_pos h], fun _ i a b => by omega, fun _ => rfl⟩
    · have z := R.e 0 (by omega) (by omega)
      have z0 := z.a0
      have z1 := z.a1
      have hl : ((List.replicate n.toNat false).length : Int) = n := by rw [List.length_replicate]; omega
      have rv : ∀ v : Int, 0 ≤ v → v < n → rdOf false ((List.replicate n.toNat false).set (rd_T98 E 0).f0.toNat true) v = if v = (rd_T98 E 0).f0 then true else false := fun v v0 v1 => by
        rw [rdOf_set _ _ _ _ _ z0 (by omega) v0, rdOf_replicate _ _ _ _ v0 (by omega)]
      have hin : rdOf false ((List.replicate n.toNat false).set (rd_T98 E 0).f0.toNat true) (rd_T98 E 0).f0 = true := by rw [rv _ z0 z1, if_pos rfl]
      have one : 0 < ins n ((List.replicate n.toNat false).set (rd_T98 E 0).f0.toNat true) := by
        unfold ins
        rw [List.countP_pos_iff]
        exact ⟨_, (mem_rng n.toNat _).2 ⟨z0, by omega⟩, hin⟩
      obtain ⟨b, e1, e2⟩ := tog_l0 R (by omega) n.toNat 0 ((List.replicate n.toNat false).set (rd_T98 E 0).f0.toNat true) (by omega) ⟨by rw [List.length_set]; exact hl, fun v v0 v1 q => by
        rw [rv v v0 v1] at q
        by_cases t : v = (rd_T98 E 0).f0
        · rw [t]; exact Conn.refl E _
        · rw [if_neg t] at q; cases q⟩ hin (Or.inr one)
      exact ⟨b, e1.congr fun k => by rw [proof_together.f, if_neg h, if_pos n0, if_pos (by omega), Option.bind_some, if_pos (by omega), if_pos z0, if_pos (by omega)]; rfl, e2⟩
  obtain ⟨b, p1, p2⟩ := pr
  have : b = c := by
    by_cases q : Hang E
    · rw [p2.2 q, d2.2 q]
    · have x1 : ¬ b = true := fun h => q (p2.1 h)
      have x2 : ¬ c = true := fun h => q (d2.1 h)
      simp only [Bool.not_eq_true] at x1 x2
      rw [x1, x2]
  subst this
  exact ⟨b, p1, d1, p2⟩
end Go.Proofs.Ytkdoihcjhccliaa.G
