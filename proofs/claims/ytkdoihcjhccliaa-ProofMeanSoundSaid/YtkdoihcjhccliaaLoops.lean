/- Circles and their means: both looks answer alike. -/
import Derived.Test.YtkdoihcjhccliaaQ19
import Derived.Test.YtkdoihcjhccliaaQ32
import Derived.Test.YtkdoihcjhccliaaQ34
import Derived.Test.YtkdoihcjhccliaaQ35
import Derived.Test.YtkdoihcjhccliaaMean
namespace Go.Proofs.Ytkdoihcjhccliaa.G
open Go.RowKit Go.Proofs.Ytkdoihcjhccliaa.Q Go.Proofs.YtkdoihcjhccliaaW.PrintWords Go.Proofs.YtkdoihcjhccliaaW.PrintLast
set_option linter.unusedVariables false

theorem sub_len : ∀ (l m : List Int), l.Nodup → (∀ x ∈ l, x ∈ m) → l.length ≤ m.length := by
  intro l
  induction l with
  | nil => intro m _ _; exact Nat.zero_le _
  | cons a t ih =>
    intro m h hs
    obtain ⟨ha, ht⟩ := List.nodup_cons.mp h
    have hm : a ∈ m := hs a (by simp)
    have := ih (m.erase a) ht (fun x hx => (List.mem_erase_of_ne (fun e => ha (by rw [← e]; exact hx))).mpr (hs x (by simp [hx])))
    rw [List.length_erase_of_mem hm] at this
    have := List.length_pos_of_mem hm
    rw [List.length_cons]; omega
theorem nodup_len (m : Nat) : ∀ l : List Int, l.Nodup → (∀ x ∈ l, 0 ≤ x ∧ x < (m : Int)) → l.length ≤ m := by
  induction m with
  | zero =>
    intro l _ h
    cases l with
    | nil => exact Nat.le_refl _
    | cons a t => have := h a (by simp); omega
  | succ m ih =>
    intro l hl h
    have := ih (l.erase (m : Int)) (hl.erase _) (fun x hx => by
      rw [hl.mem_erase_iff] at hx
      have := h x hx.2
      have := hx.1
      omega)
    rw [List.length_erase] at this
    split at this <;> omega
theorem nodup_rd {l : List Int} {f : Int → Int} (h : ∀ i j : Int, 0 ≤ i → i < j → j < (l.length : Int) → f (rd l i) ≠ f (rd l j)) : (l.map f).Nodup := by
  rw [List.Nodup, List.pairwise_iff_getElem]
  intro i j hi hj hij
  rw [List.length_map] at hi hj
  rw [List.getElem_map, List.getElem_map]
  have := h (i : Int) (j : Int) (by omega) (by omega) (by omega)
  unfold rd at this
  rw [List.getD_eq_getElem?_getD, List.getD_eq_getElem?_getD, show ((i : Int)).toNat = i by omega, show ((j : Int)).toNat = j by omega, List.getElem?_eq_getElem hi, List.getElem?_eq_getElem hj] at this
  exact this
theorem Ring.le_nodes {n : Int} {E : List S98} (R : Right n E) {l : List Int} (h : Ring E l) : (l.length : Int) ≤ n := by
  have n0 := R.n0
  have := nodup_len n.toNat (l.map fun i => (rd_T98 E i).f1) (nodup_rd h.once) (fun x hx => by
    obtain ⟨y, hy, rfl⟩ := List.mem_map.1 hx
    obtain ⟨j, j0, j1, rfl⟩ := mem_rd hy
    have e := R.e _ (h.ok j j0 j1).a0 (h.ok j j0 j1).a1
    have b1 := e.b1
    exact ⟨e.b0, by omega⟩)
  rw [List.length_map] at this
  omega
theorem Ring.le_edges {E : List S98} {l : List Int} (h : Ring E l) : (l.length : Int) ≤ (E.length : Int) := by
  have := nodup_len E.length (l.map id) (nodup_rd (f := id) fun i j i0 ij j1 q => h.once i j i0 ij j1 (by simp only [id] at q; rw [q])) (fun x hx => by
    rw [List.map_id] at hx
    obtain ⟨j, j0, j1, rfl⟩ := mem_rd hx
    exact ⟨(h.ok j j0 j1).a0, (h.ok j j0 j1).a1⟩)
  rw [List.length_map] at this
  omega

theorem cost_f {n : Int} {E : List S98} (R : Right n E) {l : List Int} (hl : (l.length : Int) ≤ 4096) (h : ∀ k : Int, 0 ≤ k → k < (l.length : Int) → 0 ≤ rd l k ∧ rd l k < (E.length : Int)) : Evl (fun k => compassref08_Cost.f k n E l) (csum E l l.length) := by
  have loop : ∀ (d k : Nat), k + d = l.length → Evl (fun q => compassref08_Cost.l0 q l (csum E l k) k n E) (csum E l l.length) := by
    intro d
    induction d with
    | zero => intro k hk; exact Evl.here fun q => by rw [compassref08_Cost.l0, if_neg (by omega), show k = l.length by omega]
    | succ d ih =>
      intro k hk
      have w : wrap64 ((k : Int) + 1) = ((k + 1 : Nat) : Int) := by rw [w1 (by omega) (by omega)]; rfl
      obtain ⟨x0, x1⟩ := h k (by omega) (by omega)
      have cl := csum_le R (l := l) h k (by omega)
      have e := R.e _ x0 x1
      have d0 := e.d0
      have d1 := e.d1
      have wc : wrap64 (csum E l k + (rd_T98 E (rd l k)).f3) = csum E l (k + 1) := by rw [wr (by omega) (by omega)]; rfl
      exact (ih (k + 1) (by omega)).step fun q => by rw [compassref08_Cost.l0, if_pos (by omega), if_pos (by omega), if_pos x0, if_pos x1, wc, w]
  exact (loop l.length 0 (by omega)).congr fun k => rfl

/-- The document's Circle. -/
theorem circle_f {n : Int} {E : List S98} (R : Right n E) (l : List Int) : ∃ b : Bool, Evl (fun q => compassref04_Circle.f q n E l) b ∧ (b = true ↔ Ring E l) := by
  have n0 := R.n0
  have n1 := R.n1
  have m1 := R.m1
  have no : Evl (fun q => compassref04_Circle.j0 q l true n E) false := Evl.here fun q => by rw [compassref04_Circle.j0, if_pos rfl]
  by_cases h0 : (l.length : Int) = 0
  · exact ⟨false, no.congr fun q => by rw [compassref04_Circle.f, if_pos h0], fun h => (by cases h), fun h => absurd h.pos (by omega)⟩
  · by_cases h1 : (l.length : Int) > (E.length : Int)
    · exact ⟨false, no.congr fun q => by rw [compassref04_Circle.f, if_neg h0, decide_eq_true h1], fun h => (by cases h), fun h => absurd h.le_edges (by omega)⟩
    · obtain ⟨b, e1, e2, -, -⟩ := ring_loop R (l := l) (P := []) (by omega) (by omega) l.length 0 (List.replicate n.toNat false) (by omega) (by rw [List.length_replicate]; omega) (fun v v0 v1 => by
        rw [rdOf_replicate _ _ _ _ v0 (by omega)]
        exact ⟨fun h => (by cases h), fun ⟨j, a, b, _⟩ => by omega⟩) (fun j a b => by omega) (fun i j a b c => by omega)
      exact ⟨b, (e1.step (g := fun q => compassref04_Circle.j0 q l false n E) fun q => by rw [compassref04_Circle.j0, if_neg (by simp), if_pos n0, if_pos (by omega)]; rfl).congr fun q => by rw [compassref04_Circle.f, if_neg h0, decide_eq_false h1], e2⟩

/-- Potentials prove a mean least. -/
def Fine (E : List S98) (P : List Int) (len c : Int) : Prop := ∀ i : Int, 0 ≤ i → i < (E.length : Int) → c ≤ red P len (rd_T98 E i)

theorem mean_l1 {E : List S98} {P C : List Int} {len c : Int} (hm : (E.length : Int) ≤ 4096) (hC : C.length = E.length) (hr : ∀ j : Int, 0 ≤ j → j < (E.length : Int) → rd C j = red P len (rd_T98 E j)) {p q : Int} (hq : Evl (fun k => safeint_NewRatio.f k c len) (p, q, 0)) (d : Nat) : ∀ i : Nat, i + d = E.length →
    (∀ j : Int, 0 ≤ j → j < (i : Int) → c ≤ red P len (rd_T98 E j)) →
    ∃ r : Int × Int × Int, Evl (fun k => proof_Mean_1.l1 k len c C C.length i 0 0) r ∧ (Fine E P len c → r = (0, p, q)) ∧ (¬ Fine E P len c → r = (221, 0, 0)) := by
  induction d with
  | zero =>
    intro i hi hP
    have t : Fine E P len c := fun j a b => hP j a (by omega)
    exact ⟨_, (Evl.bind (h := fun k bt255 => some ((0 : Int), bt255.1, bt255.2.1)) hq Evl.pure).step fun k => by rw [proof_Mean_1.l1, if_neg (by omega)], fun _ => rfl, fun h => absurd t h⟩
  | succ d ih =>
    intro i hi hP
    have w : wrap64 ((i : Int) + 1) = ((i + 1 : Nat) : Int) := by rw [w1 (by omega) (by omega)]; rfl
    have g : (i : Int) < (E.length : Int) := by omega
    have hi2 := hr i (by omega) g
    by_cases ok : red P len (rd_T98 E i) ≥ c
    · obtain ⟨r, e1, e2⟩ := ih (i + 1) (by omega) (fun j j0 j1 => by
        by_cases t : j = i
        · rw [t]; exact ok
        · exact hP j j0 (by omega))
      exact ⟨r, e1.step fun k => by rw [proof_Mean_1.l1, if_pos (by omega), if_pos (by omega), if_pos (by omega), hi2, if_pos ok, w], e2⟩
    · exact ⟨(221, 0, 0), Evl.here fun k => by rw [proof_Mean_1.l1, if_pos (by omega), if_pos (by omega), if_pos (by omega), hi2, if_neg ok], fun h => absurd (h i (by omega) g) ok, fun _ => rfl⟩
theorem mean_d0 {n : Int} {E : List S98} (R : Right n E) {P : List Int} (hp : Pots n P) {len c : Int} (l0 : 0 ≤ len) (l1 : len ≤ 4096) (c0 : -1099511627776 ≤ c) (c1 : c ≤ 1099511627776) (d : Nat) : ∀ i : Nat, i + d = E.length →
    (∀ j : Int, 0 ≤ j → j < (i : Int) → c ≤ red P len (rd_T98 E j)) →
    ∃ r : Int × Int × Int, Evl (fun k => compassref11_Mean.l0 k P c len i n E) r ∧ (Fine E P len c → r = (c, len, 0)) ∧ (¬ Fine E P len c → r = (0, 0, 221)) := by
  have hm := R.m1
  obtain ⟨hl, hpp⟩ := hp
  induction d with
  | zero =>
    intro i hi hP
    have t : Fine E P len c := fun j a b => hP j a (by omega)
    exact ⟨_, Evl.here fun k => by rw [compassref11_Mean.l0, if_neg (by omega)], fun _ => rfl, fun h => absurd t h⟩
  | succ d ih =>
    intro i hi hP
    have w : wrap64 ((i : Int) + 1) = ((i + 1 : Nat) : Int) := by rw [w1 (by omega) (by omega)]; rfl
    have g : (i : Int) < (E.length : Int) := by omega
    obtain ⟨a0, a1, b0, b1, -, -, d0, d1⟩ := R.e i (by omega) g
    have p0 := hpp _ a0 a1
    have p1 := hpp _ b0 b1
    have m0 : -4294967296 ≤ len * (rd_T98 E i).f3 := by
      have a := Int.mul_le_mul_of_nonneg_left d0 l0
      omega
    have m1 : len * (rd_T98 E i).f3 ≤ 4294967296 := by
      have a := Int.mul_le_mul_of_nonneg_left d1 l0
      omega
    have z : wrap64 ((wrap64 ((wrap64 (len * ((rd_T98 E i).f3))) - c)) + (rd P ((rd_T98 E i).f0))) = len * (rd_T98 E i).f3 - c + rd P (rd_T98 E i).f0 := by
      rw [wr (x := len * (rd_T98 E i).f3) (by omega) (by omega), wr (x := len * (rd_T98 E i).f3 - c) (by omega) (by omega), wr (by omega) (by omega)]
    by_cases ok : red P len (rd_T98 E i) ≥ c
    · obtain ⟨r, e1, e2⟩ := ih (i + 1) (by omega) (fun j j0 j1 => by
        by_cases t : j = i
        · rw [t]; exact ok
        · exact hP j j0 (by omega))
      refine ⟨r, e1.step fun k => ?_, e2⟩
      unfold red at ok
      rw [compassref11_Mean.l0, if_pos g, if_pos (by omega), if_pos a0, if_pos (by omega), if_pos b0, if_pos (by omega), z, if_neg (by omega), w]
    · refine ⟨(0, 0, 221), Evl.here fun k => ?_, fun h => absurd (h i (by omega) g) ok, fun _ => rfl⟩
      unfold red at ok
      rw [compassref11_Mean.l0, if_pos g, if_pos (by omega), if_pos a0, if_pos (by omega), if_pos b0, if_pos (by omega), z, if_pos (by omega)]

theorem mean_f (n : Int) (E : List S98) (l P : List Int) : ∃ p q e s c : Int, Evl (fun k => proof_Mean.f k n E l P) (p, q, e) ∧ Evl (fun k => compassref11_Mean.f k n E l P) (s, c, e) ∧
    (e ≠ 0 → p = 0 ∧ q = 0) ∧ (e = 0 → Right n E ∧ Ring E l ∧ Pots n P ∧ Fine E P l.length (csum E l l.length) ∧ s = csum E l l.length ∧ c = l.length ∧ 0 < q ∧ q ≤ c ∧ p * c = s * q ∧ -4611686018427387904 ≤ p ∧ p ≤ 4611686018427387904 ∧ Evl (fun k => safeint_Gcd.f k p q) 1) ∧
    (Right n E → Ring E l → Pots n P → Fine E P l.length (csum E l l.length) → e = 0) := by
  obtain ⟨x, a, g1, g2, g3, g4, g5⟩ := check_f n E
  have hr := right_f g1
  have prog : ∀ {r : Int × Int × Int}, Evl (fun k => proof_Mean_1.f k n E l P 0 0) r → Evl (fun k => proof_Mean.f k n E l P) (r.2.1, r.2.2, r.1) := fun h => (Evl.bind (h := fun k t => some (t.2.1, t.2.2, t.1)) h Evl.pure).congr fun k => rfl
  by_cases hc : x = 0
  · subst hc
    obtain ⟨rfl, R⟩ := g3 rfl
    have n0 := R.n0
    have n1 := R.n1
    have m1 := R.m1
    have start : ∀ {r : Int × Int × Int}, Evl (fun k => if (l.length : Int) > 0 then (if (l.length : Int) ≤ n then (if 0 ≤ n then (if (n : Int).toNat ≤ 281474976710656 then (proof_Mean_1.l0 k (l.length : Int) (List.replicate (n : Int).toNat false) 0 l (l.length : Int) 0 n E l P 0 0) else (none)) else (none)) else (some (221, 0, 0))) else (some (221, 0, 0))) r → Evl (fun k => proof_Mean_1.f k n E l P 0 0) r := fun h =>
      (Evl.bind (h := fun k u => if u = 0 then _ else some (u, (0 : Int), (0 : Int))) hr (h.congr fun k => by rw [if_pos rfl])).congr fun k => rfl
    obtain ⟨cb, c1, c2⟩ := circle_f R l
    obtain ⟨pb, p1, p2⟩ := pots_f E n0 n1 P
    have dno : Evl (fun k => compassref11_Mean.j0 k l P true n E) (0, 0, 221) := Evl.here fun k => by rw [compassref11_Mean.j0, if_pos rfl]
    have dstart : ∀ {r : Int × Int × Int}, Evl (fun k => if cb = true then ((compassref11_Pots.f k n E P).bind fun t433 => (compassref11_Mean.j0 k l P (!t433) n E)) else (compassref11_Mean.j0 k l P true n E)) r → Evl (fun k => compassref11_Mean.f k n E l P) r := fun h =>
      (Evl.bind (h := fun k bt430 => if bt430.1 = 0 then ((compassref04_Circle.f k n E l).bind fun t432 => (if t432 = true then ((compassref11_Pots.f k n E P).bind fun t433 => (compassref11_Mean.j0 k l P (!t433) n E)) else (compassref11_Mean.j0 k l P true n E))) else (some (0, 0, bt430.1))) g2 ((Evl.bind (h := fun k t432 => if t432 = true then ((compassref11_Pots.f k n E P).bind fun t433 => (compassref11_Mean.j0 k l P (!t433) n E)) else (compassref11_Mean.j0 k l P true n E)) c1 h).congr fun k => by rw [if_pos rfl])).congr fun k => rfl
    by_cases H : Ring E l
    · have ln := H.le_nodes R
      have pos := H.pos
      have rng : ∀ k : Int, 0 ≤ k → k < (l.length : Int) → 0 ≤ rd l k ∧ rd l k < (E.length : Int) := fun k a b => ⟨(H.ok k a b).a0, (H.ok k a b).a1⟩
      have cl := csum_le R (l := l) rng l.length (Nat.le_refl _)
      have ct := c2.2 H
      obtain ⟨b, e1, e2, -, e4⟩ := ring_loop R (l := l) (P := P) pos (by omega) l.length 0 (List.replicate n.toNat false) (by omega) (by rw [List.length_replicate]; omega) (fun v v0 v1 => by
        rw [rdOf_replicate _ _ _ _ v0 (by omega)]
        exact ⟨fun h => (by cases h), fun ⟨j, a, b, _⟩ => by omega⟩) (fun j a b => by omega) (fun i j a b c => by omega)
      have go : ∀ {r : Int × Int × Int}, Evl (fun q => (proof_reduced.f q n E P (l.length : Int)).bind fun bt250 => (if bt250.1 = 0 then (proof_Mean_1.l1 q (l.length : Int) (csum E l l.length) bt250.2 (bt250.2.length : Int) 0 0 0) else (some (bt250.1, 0, 0)))) r → Evl (fun k => proof_Mean_1.f k n E l P 0 0) r := fun {r} h => start ((e4 (e2.2 H) r (h.congr fun k => rfl)).congr fun k => by rw [if_pos (by omega), if_pos ln, if_pos n0, if_pos (by omega)]; rfl)
      have dgo : ∀ {r : Int × Int × Int}, Evl (fun k => compassref11_Mean.j0 k l P (!pb) n E) r → Evl (fun k => compassref11_Mean.f k n E l P) r := fun h => dstart ((Evl.bind (h := fun k t433 => compassref11_Mean.j0 k l P (!t433) n E) p1 h).congr fun k => by rw [if_pos ct])
      obtain ⟨cr, r1, r2, r3⟩ := reduced_f R P (q := (l.length : Int)) (by omega) (by omega)
      by_cases hp : Pots n P
      · have pt := p2.2 hp
        obtain ⟨k1, k2, k3⟩ := r2 hp
        obtain ⟨p, q, q1, q2, q3, q4, q5, q6, q7⟩ := ratio_small (s := csum E l l.length) (n := (l.length : Int)) (by omega) (by omega) pos (by omega)
        obtain ⟨r, f1, f2, f3⟩ := mean_l1 (E := E) (P := P) m1 k2 k3 q1 E.length 0 (by omega) (fun j a b => by omega)
        obtain ⟨r', d1, d2, d3⟩ := mean_d0 R hp (len := (l.length : Int)) (c := csum E l l.length) (by omega) (by omega) (by omega) (by omega) E.length 0 (by omega) (fun j a b => by omega)
        have pr := go (Evl.bind (h := fun k bt250 => if bt250.1 = 0 then (proof_Mean_1.l1 k (l.length : Int) (csum E l l.length) bt250.2 (bt250.2.length : Int) 0 0 0) else (some (bt250.1, 0, 0))) r1 (f1.congr fun k => by rw [if_pos k1]; rfl))
        have dr : Evl (fun k => compassref11_Mean.f k n E l P) r' := dgo ((Evl.step (g := fun k => compassref11_Mean.j0 k l P false n E) (Evl.bind (h := fun k t434 => compassref11_Mean.l0 k P t434 (l.length : Int) 0 n E) (cost_f R (by omega) rng) d1) fun k => by rw [compassref11_Mean.j0, if_neg (by simp)]).congr fun k => by rw [pt, Bool.not_true])
        by_cases F : Fine E P l.length (csum E l l.length)
        · have z1 := f2 F
          have z2 := d2 F
          subst z1 z2
          exact ⟨p, q, 0, _, _, prog pr, dr, fun h => absurd rfl h, fun _ => ⟨R, H, hp, F, rfl, rfl, q2, q3, q4, q5, q6, q7⟩, fun _ _ _ _ => rfl⟩
        · have z1 := f3 F
          have z2 := d3 F
          subst z1 z2
          exact ⟨0, 0, 221, 0, 0, prog pr, dr, fun _ => ⟨rfl, rfl⟩, fun h => (by cases h), fun _ _ _ h => absurd h F⟩
      · have pf : pb = false := by
          have : ¬ pb = true := fun h => hp (p2.1 h)
          simpa using this
        have k1 := r3 hp
        exact ⟨0, 0, 221, 0, 0, prog (r := (221, 0, 0)) (go (Evl.bind (h := fun k bt250 => if bt250.1 = 0 then (proof_Mean_1.l1 k (l.length : Int) (csum E l l.length) bt250.2 (bt250.2.length : Int) 0 0 0) else (some (bt250.1, 0, 0))) r1 (Evl.pure.congr fun k => by rw [k1, if_neg (by decide)]))), dgo (dno.congr fun k => by rw [pf, Bool.not_false]), fun _ => ⟨rfl, rfl⟩, fun h => (by cases h), fun _ _ h => absurd h hp⟩
    · have cf : ¬ cb = true := fun h => H (c2.1 h)
      have dr : Evl (fun k => compassref11_Mean.f k n E l P) (0, 0, 221) := dstart (dno.congr fun k => by rw [if_neg cf])
      have pr : Evl (fun k => proof_Mean_1.f k n E l P 0 0) (221, 0, 0) := by
        by_cases h0 : (l.length : Int) > 0
        · by_cases h1 : (l.length : Int) ≤ n
          · obtain ⟨b, e1, e2, e3, -⟩ := ring_loop R (l := l) (P := P) h0 (by omega) l.length 0 (List.replicate n.toNat false) (by omega) (by rw [List.length_replicate]; omega) (fun v v0 v1 => by
              rw [rdOf_replicate _ _ _ _ v0 (by omega)]
              exact ⟨fun h => (by cases h), fun ⟨j, a, b, _⟩ => by omega⟩) (fun j a b => by omega) (fun i j a b c => by omega)
            have bf : b = false := by
              have : ¬ b = true := fun h => H (e2.1 h)
              simpa using this
            exact start ((e3 bf).congr fun k => by rw [if_pos h0, if_pos h1, if_pos n0, if_pos (by omega)]; rfl)
          · exact start (Evl.pure.congr fun k => by rw [if_pos h0, if_neg h1])
        · exact start (Evl.pure.congr fun k => by rw [if_neg h0])
      exact ⟨0, 0, 221, 0, 0, prog pr, dr, fun _ => ⟨rfl, rfl⟩, fun h => (by cases h), fun _ h => absurd h H⟩
  · exact ⟨0, 0, x, 0, 0, prog (r := (x, 0, 0)) ((Evl.bind (h := fun k u => if u = 0 then _ else some (u, (0 : Int), (0 : Int))) hr (Evl.pure.congr fun k => by rw [if_neg hc])).congr fun k => rfl), (Evl.bind (h := fun k u => if u.1 = 0 then _ else some ((0 : Int), (0 : Int), u.1)) g2 (Evl.pure.congr fun k => by rw [if_neg hc])).congr fun k => rfl, fun _ => ⟨rfl, rfl⟩, fun h => absurd h hc, fun R => absurd (g5 R) hc⟩
end Go.Proofs.Ytkdoihcjhccliaa.G
