/- Tour: what the program tells, at every graph. -/
import Derived.Test.YtplbkggdnonfbaaQ11
import Derived.Test.YtplbkggdnonfbaaQ4
import Derived.Test.YtplbkggdnonfbaaQ7
import Derived.Test.YtplbkggdnonfbaaQ8
import Derived.Laws.BitsLemmas
import Derived.Test.YtplbkggdnonfbaaCircuit
import Derived.Test.YtplbkggdnonfbaaParts
namespace Go.Proofs.Ytplbkggdnonfbaa.G
open Go.RowKit Go.Proofs.Ytplbkggdnonfbaa.Q Go.Proofs.YtplbkggdnonfbaaW.PrintWords Go.Proofs.YtplbkggdnonfbaaW.PrintLast
set_option linter.unusedVariables false

theorem rng_succ (i : Nat) : rng (i + 1) = rng i ++ [(i : Int)] := by unfold rng; rw [List.range_succ, List.map_append]; rfl
/-- The edges before the i-th that go out of a node, that come into it. -/
def po (E : List S45) (i : Nat) (v : Int) : Nat := (rng i).countP fun j => decide ((rd_T45 E j).f0 = v)
def pi (E : List S45) (i : Nat) (v : Int) : Nat := (rng i).countP fun j => decide ((rd_T45 E j).f1 = v)
theorem po_succ (E : List S45) (i : Nat) (v : Int) : po E (i + 1) v = po E i v + ind (rd_T45 E (i : Int)).f0 v := by
  unfold po ind; rw [rng_succ, List.countP_append, List.countP_singleton]; simp only [decide_eq_true_eq]
theorem pi_succ (E : List S45) (i : Nat) (v : Int) : pi E (i + 1) v = pi E i v + ind (rd_T45 E (i : Int)).f1 v := by
  unfold pi ind; rw [rng_succ, List.countP_append, List.countP_singleton]; simp only [decide_eq_true_eq]
theorem po_le (E : List S45) (i : Nat) (v : Int) : po E i v ≤ i := by
  unfold po; have := List.countP_le_length (p := fun j : Int => decide ((rd_T45 E j).f0 = v)) (l := rng i); rw [len_rng] at this; exact this
theorem pi_le (E : List S45) (i : Nat) (v : Int) : pi E i v ≤ i := by
  unfold pi; have := List.countP_le_length (p := fun j : Int => decide ((rd_T45 E j).f1 = v)) (l := rng i); rw [len_rng] at this; exact this

/-- A node that shows that there is no tour. -/
def Odd (E : List S45) (d : Bool) (v : Int) : Prop := if d = true then dout E v ≠ din E v else (dout E v + din E v) % 2 = 1

theorem and_one (x : Int) (h0 : 0 ≤ x) (h1 : x < 100000) : Go.bits .and .i64 x 1 = x % 2 := by
  have := bits_mask .i64 62 (by decide) (fun n a b => by rw [IntKind.wrap_i64]; omega) 1 (by decide) x h0 (by omega)
  simpa using this

theorem uneven_l1 (n : Int) (E : List S45) (hR : Right n E) (d : Bool) (C : List Int) (hC : (C.length : Int) = n) (hc : ∀ v, 0 ≤ v → v < n → rd C v = if d = true then (dout E v : Int) - din E v else (dout E v : Int) + din E v) (m : Nat) : ∀ v : Int, 0 ≤ v → v + m = n → (∀ u, 0 ≤ u → u < v → ¬ Odd E d u) →
    ∃ r : Int × Bool, Evl (fun k => euler_uneven.l1 k d C (C.length : Int) v) r ∧ ((r.2 = false ∧ ∀ u, 0 ≤ u → u < n → ¬ Odd E d u) ∨ (r.2 = true ∧ 0 ≤ r.1 ∧ r.1 < n ∧ Odd E d r.1 ∧ ∀ u, 0 ≤ u → u < r.1 → ¬ Odd E d u)) := by
  have n1 := hR.n1
  have m1 := hR.m1
  induction m with
  | zero => intro v v0 hv hn; exact ⟨(0, false), Evl.here fun k => by rw [euler_uneven.l1, if_neg (by omega)], Or.inl ⟨rfl, fun u a b => hn u a (by omega)⟩⟩
  | succ m ih =>
    intro v v0 hv hn
    have hv' := hc v v0 (by omega)
    have w := w1 (i := v) (by omega) (by omega)
    have bo := po_le E E.length v
    have bi := pi_le E E.length v
    have eo : dout E v = po E E.length v := rfl
    have ei : din E v = pi E E.length v := rfl
    have next : ¬ Odd E d v → (∀ k, euler_uneven.l1 (k + 1) d C (C.length : Int) v = euler_uneven.l1 k d C (C.length : Int) (v + 1)) → ∃ r : Int × Bool, Evl (fun k => euler_uneven.l1 k d C (C.length : Int) v) r ∧ ((r.2 = false ∧ ∀ u, 0 ≤ u → u < n → ¬ Odd E d u) ∨ (r.2 = true ∧ 0 ≤ r.1 ∧ r.1 < n ∧ Odd E d r.1 ∧ ∀ u, 0 ≤ u → u < r.1 → ¬ Odd E d u)) := fun ho st => by
      obtain ⟨r, H, h⟩ := ih (v + 1) (by omega) (by omega) (fun u a b => by
        by_cases e : u = v
        · rw [e]; exact ho
        · exact hn u a (by omega))
      exact ⟨r, H.step st, h⟩
    by_cases hd : d = true
    · rw [if_pos hd] at hv'
      by_cases z : rd C v = 0
      · refine next (by unfold Odd; rw [if_pos hd]; omega) fun k => ?_
        rw [euler_uneven.l1, if_pos (by omega), if_pos v0, if_pos (by omega), if_pos hd, if_pos z, z, and_one 0 (by omega) (by omega), if_neg (by decide), w]
      · refine ⟨(v, true), Evl.here fun k => ?_, Or.inr ⟨rfl, v0, (by show v < n; omega), (by show Odd E d v; unfold Odd; rw [if_pos hd]; omega), hn⟩⟩
        rw [euler_uneven.l1, if_pos (by omega), if_pos v0, if_pos (by omega), if_pos hd, if_neg z]
    · rw [if_neg hd] at hv'
      have ao := and_one (rd C v) (by omega) (by omega)
      by_cases z : rd C v % 2 = 1
      · refine ⟨(v, true), Evl.here fun k => ?_, Or.inr ⟨rfl, v0, (by show v < n; omega), (by show Odd E d v; unfold Odd; rw [if_neg hd]; omega), hn⟩⟩
        rw [euler_uneven.l1, if_pos (by omega), if_pos v0, if_pos (by omega), if_neg hd, ao, if_pos z]
      · refine next (by unfold Odd; rw [if_neg hd]; omega) fun k => ?_
        rw [euler_uneven.l1, if_pos (by omega), if_pos v0, if_pos (by omega), if_neg hd, ao, if_neg z, w]

theorem uneven_f (n : Int) (E : List S45) (hR : Right n E) (d : Bool) : ∃ r : Int × Bool, Evl (fun k => euler_uneven.f k n E d) r ∧
    ((r.2 = false ∧ ∀ u, 0 ≤ u → u < n → ¬ Odd E d u) ∨ (r.2 = true ∧ 0 ≤ r.1 ∧ r.1 < n ∧ Odd E d r.1 ∧ ∀ u, 0 ≤ u → u < r.1 → ¬ Odd E d u)) := by
  have n0 := hR.n0
  have n1 := hR.n1
  have m1 := hR.m1
  have loop : ∀ (q i : Nat) (C : List Int), i + q = E.length → (C.length : Int) = n → (∀ v, 0 ≤ v → v < n → rd C v = if d = true then (po E i v : Int) - pi E i v else (po E i v : Int) + pi E i v) →
      ∃ r : Int × Bool, Evl (fun k => euler_uneven.l0 k d C E (E.length : Int) (i : Int)) r ∧ ((r.2 = false ∧ ∀ u, 0 ≤ u → u < n → ¬ Odd E d u) ∨ (r.2 = true ∧ 0 ≤ r.1 ∧ r.1 < n ∧ Odd E d r.1 ∧ ∀ u, 0 ≤ u → u < r.1 → ¬ Odd E d u)) := by
    intro q
    induction q with
    | zero =>
      intro i C hi hC hc
      obtain rfl : i = E.length := by omega
      obtain ⟨r, H, h⟩ := uneven_l1 n E hR d C hC hc n.toNat 0 (Int.le_refl 0) (by omega) (fun u a b => by omega)
      exact ⟨r, H.step fun k => by rw [euler_uneven.l0, if_neg (by omega)], h⟩
    | succ q ih =>
      intro i C hi hC hc
      have hii : (i : Int) < (E.length : Int) := by omega
      obtain ⟨a0, a1, b0, b1, -, -, -, -⟩ := hR.e (i : Int) (by omega) hii
      generalize ha : (rd_T45 E (i : Int)).f0 = a at a0 a1
      generalize hb : (rd_T45 E (i : Int)).f1 = b at b0 b1
      have w := w1 (i := (i : Int)) (by omega) (by omega)
      have bd : ∀ v, 0 ≤ v → v < n → -5000 ≤ rd C v ∧ rd C v ≤ 10000 := fun v x y => by
        rw [hc v x y]; have := po_le E i v; have := pi_le E i v; split <;> omega
      have r1 : ∀ v, 0 ≤ v → rd (C.set a.toNat (rd C a + 1)) v = if v = a then rd C a + 1 else rd C v := fun v x => rd_set _ _ _ _ a0 (by omega) x
      have l1 : ((C.set a.toNat (rd C a + 1)).length : Int) = n := by rw [List.length_set]; exact hC
      have wa := w1 (i := rd C a) (by have := bd a a0 a1; omega) (by have := bd a a0 a1; omega)
      generalize hC1 : C.set a.toNat (rd C a + 1) = C1 at r1 l1
      have bd1 : -5000 ≤ rd C1 b ∧ rd C1 b ≤ 10001 := by
        rw [r1 b b0]; have := bd b b0 b1; have := bd a a0 a1; split <;> omega
      have po' : ∀ v, po E (i + 1) v = po E i v + ind a v := fun v => by rw [po_succ, ha]
      have pi' : ∀ v, pi E (i + 1) v = pi E i v + ind b v := fun v => by rw [pi_succ, hb]
      by_cases hd : d = true
      · have r2 : ∀ v, 0 ≤ v → rd (C1.set b.toNat (rd C1 b - 1)) v = if v = b then rd C1 b - 1 else rd C1 v := fun v x => rd_set _ _ _ _ b0 (by omega) x
        obtain ⟨r, H, h⟩ := ih (i + 1) (C1.set b.toNat (rd C1 b - 1)) (by omega) (by rw [List.length_set]; exact l1) (fun v x y => by
          have e := hc v x y
          rw [if_pos hd] at e ⊢
          have f1 := r1 v x
          rw [r2 v x, po', pi']
          unfold ind
          by_cases q1 : v = b
          · rw [if_pos q1, if_pos (show b = v from q1.symm), ← q1, f1]
            by_cases q2 : v = a
            · rw [if_pos q2, if_pos (show a = v from q2.symm), ← q2]; omega
            · rw [if_neg q2, if_neg (show ¬ a = v from fun e => q2 e.symm)]; omega
          · rw [if_neg q1, if_neg (show ¬ b = v from fun e => q1 e.symm), f1]
            by_cases q2 : v = a
            · rw [if_pos q2, if_pos (show a = v from q2.symm), ← q2]; omega
            · rw [if_neg q2, if_neg (show ¬ a = v from fun e => q2 e.symm)]; omega)
        refine ⟨r, H.step fun k => ?_, h⟩
        rw [euler_uneven.l0, if_pos hii, if_pos (by omega), if_pos hii, ha, hb, if_pos a0, if_pos (by omega), Option.bind_some, wa, hC1, if_pos hd, if_pos b0, if_pos (by omega), wm (by omega) (by omega), w]
        rfl
      · have r2 : ∀ v, 0 ≤ v → rd (C1.set b.toNat (rd C1 b + 1)) v = if v = b then rd C1 b + 1 else rd C1 v := fun v x => rd_set _ _ _ _ b0 (by omega) x
        obtain ⟨r, H, h⟩ := ih (i + 1) (C1.set b.toNat (rd C1 b + 1)) (by omega) (by rw [List.length_set]; exact l1) (fun v x y => by
          have e := hc v x y
          rw [if_neg hd] at e ⊢
          have f1 := r1 v x
          rw [r2 v x, po', pi']
          unfold ind
          by_cases q1 : v = b
          · rw [if_pos q1, if_pos (show b = v from q1.symm), ← q1, f1]
            by_cases q2 : v = a
            · rw [if_pos q2, if_pos (show a = v from q2.symm), ← q2]; omega
            · rw [if_neg q2, if_neg (show ¬ a = v from fun e => q2 e.symm)]; omega
          · rw [if_neg q1, if_neg (show ¬ b = v from fun e => q1 e.symm), f1]
            by_cases q2 : v = a
            · rw [if_pos q2, if_pos (show a = v from q2.symm), ← q2]; omega
            · rw [if_neg q2, if_neg (show ¬ a = v from fun e => q2 e.symm)]; omega)
        refine ⟨r, H.step fun k => ?_, h⟩
        rw [euler_uneven.l0, if_pos hii, if_pos (by omega), if_pos hii, ha, hb, if_pos a0, if_pos (by omega), Option.bind_some, wa, hC1, if_neg hd, if_pos b0, if_pos (by omega), w1 (by omega) (by omega), w]
        rfl
  obtain ⟨r, H, h⟩ := loop E.length 0 (List.replicate n.toNat 0) (by omega) (by rw [List.length_replicate]; omega) (fun v x y => by
    rw [rd_replicate _ _ _ x (by omega)]; unfold po pi rng; simp)
  exact ⟨r, H.congr fun k => by rw [euler_uneven.f, if_pos n0, if_pos (by omega)]; rfl, h⟩

/-- A node that has an edge. -/
def Has (E : List S45) (v : Int) : Prop := ∃ i, 0 ≤ i ∧ i < (E.length : Int) ∧ ((rd_T45 E i).f0 = v ∨ (rd_T45 E i).f1 = v)

/-- Index: the first place of true; -1: none. -/
theorem index_f (B : List Bool) (hB : (B.length : Int) ≤ 1000000) : ∃ r : Int, Evl (fun k => slices_Index_bool_bool.f k B true) r ∧ ((r = -1 ∧ ∀ v, 0 ≤ v → v < (B.length : Int) → rdOf false B v = false) ∨ (0 ≤ r ∧ r < (B.length : Int) ∧ rdOf false B r = true ∧ ∀ v, 0 ≤ v → v < r → rdOf false B v = false)) := by
  have loop : ∀ (q : Nat) (i : Int), 0 ≤ i → i + q = (B.length : Int) → (∀ v, 0 ≤ v → v < i → rdOf false B v = false) → ∃ r : Int, Evl (fun k => slices_Index_bool_bool.l0 k B true (B.length : Int) i) r ∧ ((r = -1 ∧ ∀ v, 0 ≤ v → v < (B.length : Int) → rdOf false B v = false) ∨ (0 ≤ r ∧ r < (B.length : Int) ∧ rdOf false B r = true ∧ ∀ v, 0 ≤ v → v < r → rdOf false B v = false)) := by
    intro q
    induction q with
    | zero => intro i i0 hi h; exact ⟨-1, Evl.here fun k => by rw [slices_Index_bool_bool.l0, if_neg (by omega)], Or.inl ⟨rfl, fun v a b => h v a (by omega)⟩⟩
    | succ q ih =>
      intro i i0 hi h
      by_cases t : rdOf false B i = true
      · exact ⟨i, Evl.here fun k => by rw [slices_Index_bool_bool.l0, if_pos (by omega), if_pos i0, if_pos (by omega), if_pos (by rw [t]; rfl)], Or.inr ⟨i0, by omega, t, h⟩⟩
      · obtain ⟨r, H, hr⟩ := ih (i + 1) (by omega) (by omega) (fun v a b => by
          by_cases e : v = i
          · rw [e]; simpa using t
          · exact h v a (by omega))
        refine ⟨r, H.step fun k => ?_, hr⟩
        rw [slices_Index_bool_bool.l0, if_pos (by omega), if_pos i0, if_pos (by omega), if_neg (by simpa using t), w1 (by omega) (by omega)]
  obtain ⟨r, H, h⟩ := loop B.length 0 (Int.le_refl 0) (by omega) (fun v a b => by omega)
  exact ⟨r, H.congr fun k => rfl, h⟩

/-- Two nodes in the same closed sets. -/
def Conn (E : List S45) (u v : Int) : Prop := ∀ X, Closed E X → (X u ↔ X v)
/-- What apart tells: the least node that has edges, and the least one with edges of another part. -/
def Apr (n : Int) (E : List S45) (r : Int × Int × Bool) : Prop :=
  (r.2.2 = true ∧ 0 ≤ r.2.1 ∧ r.2.1 < n ∧ Has E r.2.1 ∧ (0 ≤ r.1 ∧ r.1 < n ∧ Has E r.1 ∧ ∀ u, 0 ≤ u → u < r.1 → ¬ Has E u) ∧ ¬ Conn E r.2.1 r.1 ∧ ∀ u, 0 ≤ u → u < r.2.1 → Has E u → Conn E u r.1) ∨
  (r.2.2 = false ∧ r.2.1 = 0 ∧ ((E.length : Int) = 0 ∧ r.1 = 0 ∨ ((0 ≤ r.1 ∧ r.1 < n ∧ Has E r.1 ∧ ∀ u, 0 ≤ u → u < r.1 → ¬ Has E u) ∧ ∀ v, Has E v → Conn E v r.1)))

/-- apart: hang all edges together? -/
theorem apart_f (n : Int) (E : List S45) (hR : Right n E) : ∃ r : Int × Int × Bool, Evl (fun k => euler_apart.f k n E) r ∧
    Apr n E r := by
  have n0 := hR.n0
  have n1 := hR.n1
  have m1 := hR.m1
  obtain ⟨P, HP, hl, hp, same0, edge⟩ := parts_f n E hR
  have same : ∀ u v, 0 ≤ u → u < n → 0 ≤ v → v < n → rd P u = rd P v → Conn E u v := fun u v a b a' b' e X hX => same0 X hX u v a b a' b' e
  have conn : ∀ u v, Conn E u v → rd P u = rd P v := fun u v h => (h (fun x => rd P x = rd P v) (fun i i0 i1 => by show rd P _ = rd P v ↔ rd P _ = rd P v; rw [edge i i0 i1])).mpr rfl
  have inR : ∀ v, Has E v → 0 ≤ v ∧ v < n := fun v ⟨i, a, b, h⟩ => by
    obtain ⟨a0, a1, b0, b1, -, -, -, -⟩ := hR.e i a b
    rcases h with rfl | rfl
    · exact ⟨a0, a1⟩
    · exact ⟨b0, b1⟩
  have l1 : ∀ (B : List Bool) (first : Int), (B.length : Int) = n → (∀ v, 0 ≤ v → v < n → (rdOf false B v = true ↔ Has E v)) → ((first = -1 ∧ ∀ v, 0 ≤ v → v < n → rdOf false B v = false) ∨ (0 ≤ first ∧ first < n ∧ rdOf false B first = true ∧ ∀ v, 0 ≤ v → v < first → rdOf false B v = false)) →
      ∀ (q : Nat) (v : Int), 0 ≤ v → v + q = n → (∀ u, 0 ≤ u → u < v → Has E u → rd P u = rd P first) → ∃ r : Int × Int × Bool, Evl (fun k => euler_apart.l1 k first P B (B.length : Int) v) r ∧
      Apr n E r := by
    intro B first hB hb hf q
    have fst : ∀ v, 0 ≤ v → v < n → rdOf false B v = true → 0 ≤ first ∧ first < n ∧ Has E first ∧ ∀ u, 0 ≤ u → u < first → ¬ Has E u := fun v a b t => by
      rcases hf with ⟨-, hno⟩ | ⟨f0, f1, fb, fl⟩
      · rw [hno v a b] at t; cases t
      · exact ⟨f0, f1, (hb _ f0 f1).mp fb, fun u x y hu => by
          have := (hb u x (by omega)).mpr hu
          rw [fl u x y] at this; cases this⟩
    induction q with
    | zero =>
      intro v v0 hv h
      refine ⟨(mx first 0, 0, false), Evl.here fun k => by rw [euler_apart.l1, if_neg (by omega)], Or.inr ⟨rfl, rfl, ?_⟩⟩
      rcases hf with ⟨rfl, hno⟩ | ⟨f0, f1, fb, fl⟩
      · refine Or.inl ⟨?_, by show mx (-1) 0 = 0; unfold mx; omega⟩
        refine Classical.byContradiction fun hne => ?_
        have hh : Has E (rd_T45 E 0).f0 := ⟨0, Int.le_refl 0, by omega, Or.inl rfl⟩
        obtain ⟨a, b⟩ := inR _ hh
        have := (hb _ a b).mpr hh
        rw [hno _ a b] at this; cases this
      · have e : mx first 0 = first := by unfold mx; omega
        refine Or.inr ?_
        show (0 ≤ mx first 0 ∧ mx first 0 < n ∧ Has E (mx first 0) ∧ ∀ u, 0 ≤ u → u < mx first 0 → ¬ Has E u) ∧ ∀ v, Has E v → Conn E v (mx first 0)
        rw [e]
        refine ⟨fst first f0 f1 fb, fun u hu => ?_⟩
        obtain ⟨a, b⟩ := inR u hu
        exact same u first a b f0 f1 (h u a (by omega) hu)
    | succ q ih =>
      intro v v0 hv h
      have w := w1 (i := v) (by omega) (by omega)
      by_cases t : rdOf false B v = true
      · have hv' := (hb v v0 (by omega)).mp t
        have ff := fst v v0 (by omega) t
        have f0 := ff.1
        have f1 := ff.2.1
        by_cases e : rd P v = rd P first
        · obtain ⟨r, H, hr⟩ := ih (v + 1) (by omega) (by omega) (fun u a b hu => by
            by_cases q : u = v
            · rw [q]; exact e
            · exact h u a (by omega) hu)
          exact ⟨r, H.step fun k => by rw [euler_apart.l1, if_pos (by omega), if_pos v0, if_pos (by omega), if_pos t, if_pos (by omega), if_pos f0, if_pos (by omega), if_pos e, w], hr⟩
        · exact ⟨(first, v, true), Evl.here fun k => by rw [euler_apart.l1, if_pos (by omega), if_pos v0, if_pos (by omega), if_pos t, if_pos (by omega), if_pos f0, if_pos (by omega), if_neg e], Or.inl ⟨rfl, v0, by show v < n; omega, hv', ff, fun hc => e (conn v first hc), fun u a b hu => same u first a (by have : u < v := b; omega) f0 f1 (h u a b hu)⟩⟩
      · obtain ⟨r, H, hr⟩ := ih (v + 1) (by omega) (by omega) (fun u a b hu => by
          by_cases q : u = v
          · rw [q] at hu; exact absurd ((hb v v0 (by omega)).mpr hu) t
          · exact h u a (by omega) hu)
        exact ⟨r, H.step fun k => by rw [euler_apart.l1, if_pos (by omega), if_pos v0, if_pos (by omega), if_neg t, w], hr⟩
  have l0 : ∀ (q : Nat) (i : Int) (B : List Bool), 0 ≤ i → i + q = (E.length : Int) → (B.length : Int) = n → (∀ v, 0 ≤ v → v < n → (rdOf false B v = true ↔ ∃ j, 0 ≤ j ∧ j < i ∧ ((rd_T45 E j).f0 = v ∨ (rd_T45 E j).f1 = v))) → ∃ r : Int × Int × Bool, Evl (fun k => euler_apart.l0 k P B E (E.length : Int) i) r ∧
      Apr n E r := by
    intro q
    induction q with
    | zero =>
      intro i B i0 hi hB hb
      obtain rfl : i = (E.length : Int) := by omega
      obtain ⟨f, HF, hf⟩ := index_f B (by omega)
      obtain ⟨r, H, hr⟩ := l1 B f hB hb (by
        rcases hf with ⟨a, b⟩ | ⟨a, b, c, d⟩
        · exact Or.inl ⟨a, fun v x y => b v x (by omega)⟩
        · exact Or.inr ⟨a, by omega, c, d⟩) n.toNat 0 (Int.le_refl 0) (by omega) (fun u a b => by omega)
      exact ⟨r, (Evl.bind HF (h := fun k t => euler_apart.l1 k t P B (B.length : Int) 0) H).step fun k => by rw [euler_apart.l0, if_neg (by omega)], hr⟩
    | succ q ih =>
      intro i B i0 hi hB hb
      have i1 : i < (E.length : Int) := by omega
      obtain ⟨a0, a1, b0, b1, -, -, -, -⟩ := hR.e i i0 i1
      have r1 : ∀ v, 0 ≤ v → rdOf false (B.set (rd_T45 E i).f0.toNat true) v = if v = (rd_T45 E i).f0 then true else rdOf false B v := fun v x => rdOf_set _ _ _ _ _ a0 (by omega) x
      have r2 : ∀ v, 0 ≤ v → rdOf false ((B.set (rd_T45 E i).f0.toNat true).set (rd_T45 E i).f1.toNat true) v = if v = (rd_T45 E i).f1 then true else rdOf false (B.set (rd_T45 E i).f0.toNat true) v := fun v x => rdOf_set _ _ _ _ _ b0 (by rw [List.length_set]; omega) x
      obtain ⟨r, H, hr⟩ := ih (i + 1) ((B.set (rd_T45 E i).f0.toNat true).set (rd_T45 E i).f1.toNat true) (by omega) (by omega) (by rw [List.length_set, List.length_set]; exact hB) (fun v x y => by
        rw [r2 v x, r1 v x]
        constructor
        · intro h
          by_cases e1 : v = (rd_T45 E i).f1
          · exact ⟨i, i0, by omega, Or.inr e1.symm⟩
          · rw [if_neg e1] at h
            by_cases e2 : v = (rd_T45 E i).f0
            · exact ⟨i, i0, by omega, Or.inl e2.symm⟩
            · rw [if_neg e2] at h
              obtain ⟨j, j0, j1, hj⟩ := (hb v x y).mp h
              exact ⟨j, j0, by omega, hj⟩
        · rintro ⟨j, j0, j1, hj⟩
          by_cases e1 : v = (rd_T45 E i).f1
          · rw [if_pos e1]
          · rw [if_neg e1]
            by_cases e2 : v = (rd_T45 E i).f0
            · rw [if_pos e2]
            · rw [if_neg e2]
              refine (hb v x y).mpr ⟨j, j0, ?_, hj⟩
              by_cases q : j = i
              · rw [q] at hj
                rcases hj with h | h
                · exact absurd h.symm e2
                · exact absurd h.symm e1
              · omega)
      refine ⟨r, H.step fun k => ?_, hr⟩
      rw [euler_apart.l0, if_pos i1, if_pos i0, if_pos i1, if_pos a0, if_pos (by omega), if_pos b0, if_pos (by omega), w1 (by omega) (by omega)]
  obtain ⟨r, H, hr⟩ := l0 E.length 0 (List.replicate n.toNat false) (Int.le_refl 0) (by omega) (by rw [List.length_replicate]; omega) (fun v x y => by
    rw [rdOf_replicate _ _ _ _ x (by omega)]; exact ⟨fun h => by simp at h, fun ⟨j, a, b, _⟩ => by omega⟩)
  refine ⟨r, ?_, hr⟩
  refine (Evl.bind HP (h := fun k bt => if 0 ≤ n then (if n.toNat ≤ 281474976710656 then euler_apart.l0 k bt.1 (List.replicate n.toNat false) E (E.length : Int) 0 else none) else none) ?_).congr fun k => rfl
  exact H.congr fun k => by rw [if_pos n0, if_pos (by omega)]
end Go.Proofs.Ytplbkggdnonfbaa.G
