/- Levels: the walk by levels and the document's rounds come to the same distances. -/
import Derived.Test.YtacklfnnpiobgaaQ11
import Derived.Test.YtacklfnnpiobgaaQ12
import Derived.Test.YtacklfnnpiobgaaQ5
import Derived.Test.YtacklfnnpiobgaaG
namespace Go.Proofs.Ytacklfnnpiobgaa.G
open Go.RowKit Go.Proofs.Ytacklfnnpiobgaa.Q Go.Proofs.YtacklfnnpiobgaaW.PrintWords Go.Proofs.YtacklfnnpiobgaaW.PrintLast
set_option linter.unusedVariables false

theorem countP_set (p : Int → Bool) (l : List Int) : ∀ (i : Nat) (x : Int), i < l.length → p (l.getD i 0) = true → p x = false → (l.set i x).countP p + 1 = l.countP p := by
  induction l with
  | nil => intro i x h; exact absurd h (by simp)
  | cons a t ih =>
    intro i x h hp hx
    cases i with
    | zero => simp at hp; simp [hp, hx]
    | succ i =>
      have := ih i x (by simpa using h) (by simpa using hp) hx
      simp only [List.set_cons_succ, List.countP_cons]
      omega

/-- How many nodes are not reached yet. -/
def negs (L : List Int) : Int := (L.countP fun x => decide (x < 0) : Nat)
theorem negs_nonneg (L : List Int) : 0 ≤ negs L := by unfold negs; omega
theorem negs_le (L : List Int) : negs L ≤ (L.length : Int) := by
  unfold negs; have := List.countP_le_length (p := fun x : Int => decide (x < 0)) (l := L); omega
theorem negs_set (L : List Int) (i x : Int) (h0 : 0 ≤ i) (h : i < (L.length : Int)) (hn : rd L i < 0) (hx : 0 ≤ x) : negs (L.set i.toNat x) = negs L - 1 := by
  have := countP_set (fun x => decide (x < 0)) L i.toNat x (by omega) (by unfold rd at hn; exact decide_eq_true hn) (decide_eq_false (by omega))
  unfold negs; omega

structure Grow (n : Int) (E : List S41) (s : Int) (L : List Int) : Prop where
  len : (L.length : Int) = n
  src : rd L s = 0
  low : ∀ v, 0 ≤ v → v < n → -1 ≤ rd L v
  cap : ∀ v, 0 ≤ v → v < n → rd L v + negs L ≤ n - 1
  back : ∀ v, 0 ≤ v → v < n → 0 < rd L v → ∃ i, 0 ≤ i ∧ i < (E.length : Int) ∧ (rd_T41 E i).f1 = v ∧ 0 ≤ rd L (rd_T41 E i).f0 ∧ rd L (rd_T41 E i).f0 + 1 = rd L v
  zero : ∀ v, 0 ≤ v → v < n → rd L v = 0 → v = s

theorem Grow.start {n : Int} {E : List S41} {s : Int} (h0 : 0 ≤ s) (h1 : s < n) : Grow n E s ((List.replicate n.toNat (-1)).set s.toNat 0) := by
  have len : ((List.replicate n.toNat (-1 : Int)).length : Int) = n := by rw [List.length_replicate]; omega
  have rdr : ∀ v, 0 ≤ v → v < n → rd ((List.replicate n.toNat (-1)).set s.toNat 0) v = if v = s then 0 else -1 := fun v a b => by
    rw [rd_set _ _ _ _ h0 (by omega) a, rd_replicate _ _ _ a (by omega)]
  have ng : negs ((List.replicate n.toNat (-1)).set s.toNat 0) = n - 1 := by
    rw [negs_set _ _ _ h0 (by omega) (by rw [rd_replicate _ _ _ h0 (by omega)]; decide) (Int.le_refl 0)]
    have : negs (List.replicate n.toNat (-1)) = n := by
      unfold negs
      rw [List.countP_replicate, if_pos (by decide)]; omega
    omega
  refine ⟨by rw [List.length_set]; exact len, by rw [rdr s h0 h1, if_pos rfl], fun v a b => ?_, fun v a b => ?_, fun v a b h => ?_, fun v a b h => ?_⟩
  · rw [rdr v a b]; split <;> omega
  · rw [rdr v a b, ng]; split <;> omega
  · rw [rdr v a b] at h; split at h <;> omega
  · rw [rdr v a b] at h
    by_cases e : v = s
    · exact e
    · rw [if_neg e] at h; omega

theorem Grow.push {n : Int} {E : List S41} {s : Int} {L : List Int} (G : Grow n E s L) (hR : Right n E) (hs0 : 0 ≤ s) {i : Int} (i0 : 0 ≤ i) (i1 : i < (E.length : Int))
    (ha : 0 ≤ rd L (rd_T41 E i).f0) (hb : rd L (rd_T41 E i).f1 < 0) : Grow n E s (L.set (rd_T41 E i).f1.toNat (rd L (rd_T41 E i).f0 + 1)) ∧
    (∀ v, 0 ≤ v → rd (L.set (rd_T41 E i).f1.toNat (rd L (rd_T41 E i).f0 + 1)) v = if v = (rd_T41 E i).f1 then rd L (rd_T41 E i).f0 + 1 else rd L v) ∧
    negs (L.set (rd_T41 E i).f1.toNat (rd L (rd_T41 E i).f0 + 1)) = negs L - 1 := by
  obtain ⟨a0, a1, b0, b1, -, -, -, -⟩ := hR.e i i0 i1
  have hl := G.len
  have rdr : ∀ v, 0 ≤ v → rd (L.set (rd_T41 E i).f1.toNat (rd L (rd_T41 E i).f0 + 1)) v = if v = (rd_T41 E i).f1 then rd L (rd_T41 E i).f0 + 1 else rd L v := fun v a => rd_set _ _ _ _ b0 (by omega) a
  have ng := negs_set L (rd_T41 E i).f1 (rd L (rd_T41 E i).f0 + 1) b0 (by omega) hb (by omega)
  have nab : (rd_T41 E i).f0 ≠ (rd_T41 E i).f1 := fun e => by rw [e] at ha; omega
  refine ⟨⟨by rw [List.length_set]; exact hl, ?_, fun v a b => ?_, fun v a b => ?_, fun v a b h => ?_, fun v a b h => ?_⟩, rdr, ng⟩
  · rw [rdr s hs0, if_neg (fun e => by have := G.src; rw [e] at this; omega)]; exact G.src
  · rw [rdr v a]
    have := G.low v a b
    split <;> omega
  · rw [rdr v a, ng]
    have h1 := G.cap v a b
    have h2 := G.cap _ a0 a1
    split <;> omega
  · rw [rdr v a] at h
    by_cases e : v = (rd_T41 E i).f1
    · refine ⟨i, i0, i1, e.symm, ?_, ?_⟩
      · rw [rdr _ a0, if_neg nab]; exact ha
      · rw [rdr _ a0, if_neg nab, rdr v a, if_pos e]
    · rw [if_neg e] at h
      obtain ⟨j, j0, j1, ej, g0, g1⟩ := G.back v a b h
      have u0 := (hR.e j j0 j1).a0
      refine ⟨j, j0, j1, ej, ?_, ?_⟩
      · rw [rdr _ u0, if_neg (fun e => by rw [e] at g0; omega)]; exact g0
      · rw [rdr _ u0, if_neg (fun e => by rw [e] at g0; omega), rdr v a, if_neg e]; exact g1
  · rw [rdr v a] at h
    by_cases e : v = (rd_T41 E i).f1
    · rw [if_pos e] at h; omega
    · rw [if_neg e] at h; exact G.zero v a b h

/-- The distances from s. -/
structure Dist (n : Int) (E : List S41) (s : Int) (L : List Int) : Prop where
  g : Grow n E s L
  fwd : ∀ i, 0 ≤ i → i < (E.length : Int) → 0 ≤ rd L (rd_T41 E i).f0 → 0 ≤ rd L (rd_T41 E i).f1 ∧ rd L (rd_T41 E i).f1 ≤ rd L (rd_T41 E i).f0 + 1

theorem Dist.le {n : Int} {E : List S41} {s : Int} {L M : List Int} (hR : Right n E) (D : Dist n E s L) (F : Dist n E s M) : ∀ (d : Nat) (v : Int), 0 ≤ v → v < n → rd L v = (d : Int) → 0 ≤ rd M v ∧ rd M v ≤ (d : Int) := by
  intro d
  induction d with
  | zero =>
    intro v a b h
    have := D.g.zero v a b (by simpa using h)
    have := F.g.src
    subst v; omega
  | succ d ih =>
    intro v a b h
    obtain ⟨i, i0, i1, e, g0, g1⟩ := D.g.back v a b (by omega)
    have r := hR.e i i0 i1
    obtain ⟨h0, h1⟩ := ih (rd_T41 E i).f0 r.a0 r.a1 (by omega)
    have := F.fwd i i0 i1 h0
    rw [e] at this; omega
theorem Dist.eq {n : Int} {E : List S41} {s : Int} {L M : List Int} (hR : Right n E) (D : Dist n E s L) (F : Dist n E s M) : L = M := by
  have l1 := D.g.len
  have l2 := F.g.len
  refine ext_rd L M (by omega) fun v a b => ?_
  have lo1 := D.g.low v a (by omega)
  have lo2 := F.g.low v a (by omega)
  by_cases h : 0 ≤ rd L v
  · have h1 := D.le hR F (rd L v).toNat v a (by omega) (by omega)
    have h2 := F.le hR D (rd M v).toNat v a (by omega) (by omega)
    omega
  · by_cases h' : 0 ≤ rd M v
    · have h2 := F.le hR D (rd M v).toNat v a (by omega) (by omega)
      omega
    · omega

/-- While node v is looked at. -/
structure Inn (n : Int) (E : List S41) (s v : Int) (L q : List Int) : Prop where
  g : Grow n E s L
  v0 : 0 ≤ v
  v1 : v < n
  vl : 0 ≤ rd L v
  qin : ∀ x ∈ q, 0 ≤ x ∧ x < n ∧ rd L v ≤ rd L x
  srt : q.Pairwise fun x y => rd L x ≤ rd L y
  top : ∀ x, 0 ≤ x → x < n → rd L x ≤ rd L v + 1
  old : ∀ i, 0 ≤ i → i < (E.length : Int) → 0 ≤ rd L (rd_T41 E i).f0 → (rd_T41 E i).f0 ∉ q → (rd_T41 E i).f0 ≠ v → 0 ≤ rd L (rd_T41 E i).f1 ∧ rd L (rd_T41 E i).f1 ≤ rd L (rd_T41 E i).f0 + 1
  bnd : (q.length : Int) + negs L ≤ n

theorem Inn.push {n : Int} {E : List S41} {s v : Int} {L q : List Int} (I : Inn n E s v L q) (hR : Right n E) (hs0 : 0 ≤ s) {i : Int} (i0 : 0 ≤ i) (i1 : i < (E.length : Int))
    (ev : (rd_T41 E i).f0 = v) (hb : rd L (rd_T41 E i).f1 < 0) : Inn n E s v (L.set (rd_T41 E i).f1.toNat (rd L v + 1)) (q ++ [(rd_T41 E i).f1]) ∧
    (∀ x, 0 ≤ x → rd (L.set (rd_T41 E i).f1.toNat (rd L v + 1)) x = if x = (rd_T41 E i).f1 then rd L v + 1 else rd L x) ∧
    negs (L.set (rd_T41 E i).f1.toNat (rd L v + 1)) = negs L - 1 := by
  obtain ⟨G, rdr, ng⟩ := I.g.push hR hs0 i0 i1 (by rw [ev]; exact I.vl) hb
  rw [ev] at G rdr ng
  obtain ⟨a0, a1, b0, b1, -, -, -, -⟩ := hR.e i i0 i1
  have hvw : v ≠ (rd_T41 E i).f1 := fun e => by have := I.vl; rw [e] at this; omega
  have hv : rd (L.set (rd_T41 E i).f1.toNat (rd L v + 1)) v = rd L v := by rw [rdr v I.v0, if_neg hvw]
  have keep : ∀ x, 0 ≤ x → 0 ≤ rd L x → rd (L.set (rd_T41 E i).f1.toNat (rd L v + 1)) x = rd L x := fun x a h => by rw [rdr x a, if_neg (fun e => by rw [e] at h; omega)]
  have hvl := I.vl
  refine ⟨⟨G, I.v0, I.v1, by rw [hv]; exact I.vl, fun x hx => ?_, ?_, fun x a b => ?_, fun j j0 j1 h hq hne => ?_, ?_⟩, rdr, ng⟩
  · rcases List.mem_append.mp hx with hx | hx
    · obtain ⟨x0, x1, x2⟩ := I.qin x hx
      exact ⟨x0, x1, by rw [hv, keep x x0 (by omega)]; exact x2⟩
    · rw [List.mem_singleton] at hx
      subst hx
      exact ⟨b0, b1, by rw [hv, rdr _ b0, if_pos rfl]; omega⟩
  · rw [List.pairwise_append]
    refine ⟨?_, List.pairwise_singleton _ _, fun x hx y hy => ?_⟩
    · refine List.Pairwise.imp_of_mem (fun {x y} hx hy h => ?_) I.srt
      obtain ⟨x0, x1, x2⟩ := I.qin x hx
      obtain ⟨y0, y1, y2⟩ := I.qin y hy
      rw [keep x x0 (by omega), keep y y0 (by omega)]; exact h
    · rw [List.mem_singleton] at hy
      obtain ⟨x0, x1, x2⟩ := I.qin x hx
      rw [hy, rdr _ b0, if_pos rfl, keep x x0 (by omega)]
      exact I.top x x0 x1
  · rw [hv, rdr x a]
    have := I.top x a b
    split <;> omega
  · have hj := hR.e j j0 j1
    rw [List.mem_append, not_or, List.mem_singleton] at hq
    rw [rdr _ hj.a0, if_neg hq.2] at h ⊢
    obtain ⟨c0, c1⟩ := I.old j j0 j1 h hq.1 hne
    rw [keep _ hj.b0 c0]; exact ⟨c0, c1⟩
  · rw [List.length_append, List.length_singleton, ng]
    have := I.bnd; omega

theorem inner (n : Int) (E : List S41) (hR : Right n E) (s : Int) (hs0 : 0 ≤ s) (o : List (List Int)) (v : Int) (d : Nat) : ∀ (j : Int) (L q : List Int), 0 ≤ j → j + d = ((outL E E.length v).length : Int) → Inn n E s v L q →
    (∀ k, 0 ≤ k → k < j → 0 ≤ rd L (rd_T41 E (rd (outL E E.length v) k)).f1) →
    ∃ L' q', Inn n E s v L' q' ∧ (∀ k, 0 ≤ k → k < ((outL E E.length v).length : Int) → 0 ≤ rd L' (rd_T41 E (rd (outL E E.length v) k)).f1) ∧ (q'.length : Int) + negs L' = q.length + negs L ∧
      ∀ r, Evl (fun k => walk_Levels.l0 k o L' q' n E) r → Evl (fun k => walk_Levels.l1 k o L q v (outL E E.length v) ((outL E E.length v).length : Int) j n E) r := by
  induction d with
  | zero =>
    intro j L q j0 jd I done
    refine ⟨L, q, I, fun k a b => done k a (by omega), rfl, fun r H => H.step fun k => ?_⟩
    rw [walk_Levels.l1, if_neg (by omega)]
  | succ d ih =>
    intro j L q j0 jd I done
    have jlt : j < ((outL E E.length v).length : Int) := by omega
    have hlen := outL_len E E.length v
    have m1 := hR.m1
    have n1 := hR.n1
    obtain ⟨i0, i1, ev⟩ := (mem_outL E E.length v _).mp (rd_mem _ j j0 jlt)
    generalize hi : rd (outL E E.length v) j = i at i0 i1 ev
    have re := hR.e i i0 i1
    have hl := I.g.len
    have w := w1 (i := j) (by omega) (by omega)
    have hv1 := I.v1
    have hvl := I.vl
    have hcap := I.g.cap v I.v0 I.v1
    have hng := negs_nonneg L
    have hb := I.bnd
    by_cases hneg : rd L (rd_T41 E i).f1 < 0
    · obtain ⟨I', rdr, ng⟩ := I.push hR hs0 i0 i1 ev hneg
      obtain ⟨L', q', I2, dn, ms, R⟩ := ih (j + 1) _ _ (by omega) (by omega) I' (fun k a b => by
        have b0 : ∀ k, 0 ≤ k → k < ((outL E E.length v).length : Int) → 0 ≤ (rd_T41 E (rd (outL E E.length v) k)).f1 := fun k a b => by
          obtain ⟨x0, x1, -⟩ := (mem_outL E E.length v _).mp (rd_mem _ k a b)
          exact (hR.e _ x0 x1).b0
        rw [rdr _ (b0 k a (by omega))]
        by_cases e : (rd_T41 E (rd (outL E E.length v) k)).f1 = (rd_T41 E i).f1
        · rw [if_pos e]; omega
        · rw [if_neg e]
          refine done k a ?_
          by_cases e2 : k = j
          · rw [e2, hi] at e; exact absurd rfl e
          · omega)
      refine ⟨L', q', I2, dn, by rw [ms, ng, List.length_append, List.length_singleton]; omega, fun r H => (R r H).step fun k => ?_⟩
      rw [walk_Levels.l1, if_pos jlt, if_pos j0, if_pos jlt, hi, if_pos i0, if_pos i1, if_pos re.b0, if_pos (by have := re.b1; omega), if_pos hneg, if_pos I.v0, if_pos (by omega), if_pos (by omega), w,
        w1 (by omega) (by omega)]
    · obtain ⟨L', q', I2, dn, ms, R⟩ := ih (j + 1) L q (by omega) (by omega) I (fun k a b => by
        by_cases e2 : k = j
        · rw [e2, hi]; omega
        · exact done k a (by omega))
      refine ⟨L', q', I2, dn, ms, fun r H => (R r H).step fun k => ?_⟩
      rw [walk_Levels.l1, if_pos jlt, if_pos j0, if_pos jlt, hi, if_pos i0, if_pos i1, if_pos re.b0, if_pos (by have := re.b1; omega), if_neg hneg, w]

/-- Between two nodes that are looked at. -/
structure Out (n : Int) (E : List S41) (s : Int) (L q : List Int) : Prop where
  g : Grow n E s L
  qin : ∀ x ∈ q, 0 ≤ x ∧ x < n ∧ 0 ≤ rd L x
  srt : q.Pairwise fun x y => rd L x ≤ rd L y
  top : ∀ h t, q = h :: t → ∀ x, 0 ≤ x → x < n → rd L x ≤ rd L h + 1
  old : ∀ i, 0 ≤ i → i < (E.length : Int) → 0 ≤ rd L (rd_T41 E i).f0 → (rd_T41 E i).f0 ∉ q → 0 ≤ rd L (rd_T41 E i).f1 ∧ rd L (rd_T41 E i).f1 ≤ rd L (rd_T41 E i).f0 + 1
  bnd : (q.length : Int) + negs L ≤ n

theorem outer (n : Int) (E : List S41) (hR : Right n E) (s : Int) (hs0 : 0 ≤ s) (o : List (List Int)) (ho : (o.length : Int) = n) (hout : ∀ v : Int, 0 ≤ v → v < n → rd_L2 o v = outL E E.length v) (m : Nat) :
    ∀ (L q : List Int), (q.length : Int) + negs L = m → Out n E s L q → ∃ L', Evl (fun k => walk_Levels.l0 k o L q n E) (L', 0) ∧ Dist n E s L' := by
  induction m with
  | zero =>
    intro L q hm O
    have hng := negs_nonneg L
    cases q with
    | nil => exact ⟨L, Evl.here fun k => by rw [walk_Levels.l0, if_neg (by simp)], ⟨O.g, fun i a b h => O.old i a b h (by simp)⟩⟩
    | cons v t => simp only [List.length_cons] at hm; omega
  | succ m ih =>
    intro L q hm O
    have hng := negs_nonneg L
    cases q with
    | nil => exact ⟨L, Evl.here fun k => by rw [walk_Levels.l0, if_neg (by simp)], ⟨O.g, fun i a b h => O.old i a b h (by simp)⟩⟩
    | cons v t =>
      obtain ⟨v0, v1, vl⟩ := O.qin v (by simp)
      have srt := List.pairwise_cons.mp O.srt
      have hbnd := O.bnd
      simp only [List.length_cons] at hbnd hm
      have I : Inn n E s v L t := ⟨O.g, v0, v1, vl, fun x hx => by obtain ⟨a, b, c⟩ := O.qin x (by simp [hx]); exact ⟨a, b, srt.1 x hx⟩, srt.2, O.top v t rfl,
        fun i a b h hq hne => O.old i a b h (by simp [hq, hne]), by omega⟩
      obtain ⟨L', q', I', dn, ms, R⟩ := inner n E hR s hs0 o v (outL E E.length v).length 0 L t (Int.le_refl 0) (by omega) I (fun k a b => by omega)
      have O' : Out n E s L' q' := ⟨I'.g, fun x hx => by obtain ⟨a, b, c⟩ := I'.qin x hx; have := I'.vl; exact ⟨a, b, by omega⟩, I'.srt,
        fun h t' e x a b => by have := I'.top x a b; have := (I'.qin h (by simp [e])).2.2; omega,
        fun i a b h hq => by
          by_cases e : (rd_T41 E i).f0 = v
          · obtain ⟨k, k0, k1, ek⟩ := mem_rd ((mem_outL E E.length v i).mpr ⟨a, b, e⟩)
            have := dn k k0 k1
            rw [ek] at this
            exact ⟨this, by rw [e]; exact I'.top _ (hR.e i a b).b0 (hR.e i a b).b1⟩
          · exact I'.old i a b h hq e, I'.bnd⟩
      obtain ⟨L2, H, D⟩ := ih L' q' (by omega) O'
      refine ⟨L2, (R _ H).step fun k => ?_, D⟩
      rw [walk_Levels.l0, if_pos (by simp), if_pos (by simp), if_pos (by simp only [List.length_cons]; omega)]
      rw [show rd (v :: t) 0 = v from rfl, if_pos v0, if_pos (by omega), hout v v0 v1]
      rfl

/-- The document's rounds: before edge i in round d. -/
structure RI (n : Int) (E : List S41) (s d i : Int) (L : List Int) : Prop where
  g : Grow n E s L
  lv : ∀ v, 0 ≤ v → v < n → rd L v ≤ d + 1
  dn : ∀ k, 0 ≤ k → k < (E.length : Int) → 0 ≤ rd L (rd_T41 E k).f0 → (rd L (rd_T41 E k).f0 < d ∨ (rd L (rd_T41 E k).f0 = d ∧ k < i)) → 0 ≤ rd L (rd_T41 E k).f1 ∧ rd L (rd_T41 E k).f1 ≤ rd L (rd_T41 E k).f0 + 1

theorem ref_l2 (n : Int) (E : List S41) (hR : Right n E) (s : Int) (hs0 : 0 ≤ s) (d : Int) (d0 : 0 ≤ d) (d1 : d ≤ 2000) (m : Nat) : ∀ (i : Int) (L : List Int), 0 ≤ i → i + m = (E.length : Int) → RI n E s d i L →
    ∃ L', RI n E s d (E.length : Int) L' ∧ ∀ r, Evl (fun k => compassref04_Levels.l1 k L' (wrap64 (d + 1)) n E) r → Evl (fun k => compassref04_Levels.l2 k L d i n E) r := by
  have m1 := hR.m1
  induction m with
  | zero =>
    intro i L i0 hi I
    obtain rfl : i = (E.length : Int) := by omega
    exact ⟨L, I, fun r H => H.step fun k => by rw [compassref04_Levels.l2, if_neg (by omega)]⟩
  | succ m ih =>
    intro i L i0 hi I
    have i1 : i < (E.length : Int) := by omega
    obtain ⟨a0, a1, b0, b1, -, -, -, -⟩ := hR.e i i0 i1
    have hl := I.g.len
    have w := w1 (i := i) (by omega) (by omega)
    by_cases c1 : rd L (rd_T41 E i).f0 = d
    · by_cases c2 : rd L (rd_T41 E i).f1 < 0
      · obtain ⟨G, rdr, ng⟩ := I.g.push hR hs0 i0 i1 (by omega) c2
        rw [c1] at G rdr ng
        have I' : RI n E s d (i + 1) (L.set (rd_T41 E i).f1.toNat (d + 1)) := by
          refine ⟨G, fun v a b => ?_, fun k k0 k1 h hc => ?_⟩
          · rw [rdr v a]; have := I.lv v a b; split <;> omega
          · have hk := hR.e k k0 k1
            rw [rdr _ hk.a0] at h hc ⊢
            by_cases e : (rd_T41 E k).f0 = (rd_T41 E i).f1
            · rw [if_pos e] at hc; omega
            · rw [if_neg e] at h hc ⊢
              rw [rdr _ hk.b0]
              by_cases e2 : (rd_T41 E k).f1 = (rd_T41 E i).f1
              · rw [if_pos e2]
                by_cases e3 : k = i
                · subst e3; omega
                · have := I.dn k k0 k1 h (by omega)
                  rw [e2] at this; omega
              · rw [if_neg e2]
                refine I.dn k k0 k1 h ?_
                by_cases e3 : k = i
                · rw [e3] at e2; exact absurd rfl e2
                · omega
        obtain ⟨L', I2, R⟩ := ih (i + 1) _ (by omega) (by omega) I'
        refine ⟨L', I2, fun r H => (R r H).step fun k => ?_⟩
        rw [compassref04_Levels.l2, if_pos i1, if_pos i0, if_pos a0, if_pos (by omega), if_pos c1, if_pos b0, if_pos (by omega), if_pos c2, w, w1 (by omega) (by omega)]
      · have I' : RI n E s d (i + 1) L := ⟨I.g, I.lv, fun k k0 k1 h hc => by
          by_cases e3 : k = i
          · subst e3; have := I.lv _ b0 b1; omega
          · exact I.dn k k0 k1 h (by omega)⟩
        obtain ⟨L', I2, R⟩ := ih (i + 1) _ (by omega) (by omega) I'
        refine ⟨L', I2, fun r H => (R r H).step fun k => ?_⟩
        rw [compassref04_Levels.l2, if_pos i1, if_pos i0, if_pos a0, if_pos (by omega), if_pos c1, if_pos b0, if_pos (by omega), if_neg c2, w]
    · have I' : RI n E s d (i + 1) L := ⟨I.g, I.lv, fun k k0 k1 h hc => by
        by_cases e3 : k = i
        · subst e3; exact I.dn k k0 k1 h (by omega)
        · exact I.dn k k0 k1 h (by omega)⟩
      obtain ⟨L', I2, R⟩ := ih (i + 1) _ (by omega) (by omega) I'
      refine ⟨L', I2, fun r H => (R r H).step fun k => ?_⟩
      rw [compassref04_Levels.l2, if_pos i1, if_pos i0, if_pos a0, if_pos (by omega), if_neg c1, w]

theorem ref_l1 (n : Int) (E : List S41) (hR : Right n E) (s : Int) (hs0 : 0 ≤ s) (m : Nat) : ∀ (d : Int) (L : List Int), 0 ≤ d → d + m = n → RI n E s d 0 L →
    ∃ L', Evl (fun k => compassref04_Levels.l1 k L d n E) (L', 0) ∧ Dist n E s L' := by
  have n1 := hR.n1
  induction m with
  | zero =>
    intro d L d0 hd I
    refine ⟨L, Evl.here fun k => by rw [compassref04_Levels.l1, if_neg (by omega)], I.g, fun i a b h => I.dn i a b h (Or.inl ?_)⟩
    have := I.g.cap _ (hR.e i a b).a0 (hR.e i a b).a1
    have := negs_nonneg L
    omega
  | succ m ih =>
    intro d L d0 hd I
    obtain ⟨L1, I1, R⟩ := ref_l2 n E hR s hs0 d d0 (by omega) E.length 0 L (Int.le_refl 0) (by omega) I
    rw [w1 (by omega) (by omega)] at R
    obtain ⟨L2, H, D⟩ := ih (d + 1) L1 (by omega) (by omega) ⟨I1.g, fun v a b => by have := I1.lv v a b; omega, fun k k0 k1 h hc => I1.dn k k0 k1 h (by omega)⟩
    exact ⟨L2, (R _ H).step fun k => by rw [compassref04_Levels.l1, if_pos (by omega)], D⟩

/-- The document's first round lays -1 everywhere. -/
theorem ref_l0 (n : Int) (E : List S41) (hR : Right n E) (s : Int) (hs0 : 0 ≤ s) (hs1 : s < n) (m : Nat) : ∀ (v : Int) (L : List Int), 0 ≤ v → v + m = n → (L.length : Int) = n → (∀ x, 0 ≤ x → x < v → rd L x = -1) → ∀ r,
    Evl (fun k => compassref04_Levels.l1 k ((List.replicate n.toNat (-1)).set s.toNat 0) 0 n E) r → Evl (fun k => compassref04_Levels.l0 k s L v n E) r := by
  have n1 := hR.n1
  induction m with
  | zero =>
    intro v L v0 hv hl hx r H
    have : L = List.replicate n.toNat (-1) := ext_rd _ _ (by simp; omega) fun j a b => by rw [hx j a (by omega), rd_replicate _ _ _ a (by omega)]
    refine H.step fun k => ?_
    rw [compassref04_Levels.l0, if_neg (by omega), if_pos hs0, if_pos (by omega), this]
  | succ m ih =>
    intro v L v0 hv hl hx r H
    refine (ih (v + 1) (L.set v.toNat (-1)) (by omega) (by omega) (by rw [List.length_set]; exact hl) (fun x a b => by
      rw [rd_set _ _ _ _ v0 (by omega) a]
      by_cases e : x = v
      · rw [if_pos e]
      · rw [if_neg e]; exact hx x a (by omega)) r H).step fun k => ?_
    rw [compassref04_Levels.l0, if_pos (by omega), if_pos v0, if_pos (by omega), w1 (by omega) (by omega)]

/-- Levels: the program's and the document's answer. -/
theorem levels_f (n : Int) (E : List S41) (s : Int) : ∃ L c, Evl (fun k => walk_Levels.f k n E s) (L, c) ∧ Evl (fun k => compassref04_Levels.f k n E s) (L, c) ∧
    (c = 0 → Right n E ∧ 0 ≤ s ∧ s < n ∧ Dist n E s L) ∧ (c ≠ 0 → L = []) := by
  obtain ⟨c, a, C1, C2, hz, -, -⟩ := check_f n E
  by_cases hc : c = 0
  · obtain ⟨-, hR⟩ := hz hc
    subst hc
    have n0 := hR.n0
    have n1 := hR.n1
    have yes : Evl (fun k => walk_Levels.j0 k s true n E) ([], 30) := Evl.here fun k => by rw [walk_Levels.j0, if_pos rfl]
    by_cases h0 : s < 0
    · refine ⟨[], 30, ?_, ?_, by omega, fun _ => rfl⟩
      · refine (Evl.bind C1 (h := fun k bt => if bt.1 = 0 then (if s < 0 then walk_Levels.j0 k s true n E else walk_Levels.j0 k s (decide (s ≥ n)) n E) else some (([] : List Int), bt.1)) ?_).congr fun k => rfl
        exact yes.congr fun k => by rw [if_pos rfl, if_pos h0]
      · have W : Evl (fun k => compassref04_Wrong.f k n E s) 30 := (Evl.bind C2 (h := fun k bt => if bt.1 = 0 then (if s < 0 then some 30 else if s ≥ n then some 30 else some bt.1) else some bt.1) (Evl.pure.congr fun k => by rw [if_pos rfl, if_pos h0])).congr fun k => rfl
        refine (Evl.bind W (h := fun k t => if t = 0 then (if 0 ≤ n then (if n.toNat ≤ 35184372088832 then compassref04_Levels.l0 k s (List.replicate n.toNat 0) 0 n E else none) else none) else some (([] : List Int), t)) (Evl.pure.congr fun k => by rw [if_neg (by decide)])).congr fun k => rfl
    · by_cases h1 : s ≥ n
      · refine ⟨[], 30, ?_, ?_, by omega, fun _ => rfl⟩
        · refine (Evl.bind C1 (h := fun k bt => if bt.1 = 0 then (if s < 0 then walk_Levels.j0 k s true n E else walk_Levels.j0 k s (decide (s ≥ n)) n E) else some (([] : List Int), bt.1)) ?_).congr fun k => rfl
          exact yes.congr fun k => by rw [if_pos rfl, if_neg h0, decide_eq_true h1]
        · have W : Evl (fun k => compassref04_Wrong.f k n E s) 30 := (Evl.bind C2 (h := fun k bt => if bt.1 = 0 then (if s < 0 then some 30 else if s ≥ n then some 30 else some bt.1) else some bt.1) (Evl.pure.congr fun k => by rw [if_pos rfl, if_neg h0, if_pos h1])).congr fun k => rfl
          refine (Evl.bind W (h := fun k t => if t = 0 then (if 0 ≤ n then (if n.toNat ≤ 35184372088832 then compassref04_Levels.l0 k s (List.replicate n.toNat 0) 0 n E else none) else none) else some (([] : List Int), t)) (Evl.pure.congr fun k => by rw [if_neg (by decide)])).congr fun k => rfl
      · have hs0 : 0 ≤ s := by omega
        have hs1 : s < n := by omega
        obtain ⟨o, O, ho, hout⟩ := outs_f n E hR
        have F := filled_f n (-1) n0 (by omega)
        have G := Grow.start (E := E) hs0 hs1
        have ng : negs ((List.replicate n.toNat (-1)).set s.toNat 0) ≤ n - 1 := by have := G.cap s hs0 hs1; have := G.src; omega
        have O0 : Out n E s ((List.replicate n.toNat (-1)).set s.toNat 0) [s] := by
          have rdr : ∀ v, 0 ≤ v → v < n → rd ((List.replicate n.toNat (-1)).set s.toNat 0) v = if v = s then 0 else -1 := fun v a b => by
            rw [rd_set _ _ _ _ hs0 (by rw [List.length_replicate]; omega) a, rd_replicate _ _ _ a (by omega)]
          refine ⟨G, fun x hx => ?_, List.pairwise_singleton _ _, fun h t e x a b => ?_, fun i a b h hq => ?_, by simp only [List.length_singleton]; omega⟩
          · rw [List.mem_singleton] at hx; subst hx; exact ⟨hs0, hs1, by rw [G.src]; exact Int.le_refl 0⟩
          · obtain ⟨rfl, -⟩ := List.cons.inj e
            rw [G.src, rdr x a b]; split <;> omega
          · rw [List.mem_singleton] at hq
            rw [rdr _ (hR.e i a b).a0 (hR.e i a b).a1, if_neg hq] at h; omega
        have hng := negs_nonneg ((List.replicate n.toNat (-1)).set s.toNat 0)
        obtain ⟨L, H, D⟩ := outer n E hR s hs0 o ho hout (1 + negs ((List.replicate n.toNat (-1)).set s.toNat 0)).toNat _ [s] (by simp only [List.length_singleton]; omega) O0
        obtain ⟨M, H2, D2⟩ := ref_l1 n E hR s hs0 n.toNat 0 _ (Int.le_refl 0) (by omega) ⟨G, fun v a b => by
          rw [rd_set _ _ _ _ hs0 (by rw [List.length_replicate]; omega) a, rd_replicate _ _ _ a (by omega)]; split <;> omega, fun k k0 k1 h hc => by omega⟩
        obtain rfl : M = L := Dist.eq hR D2 D
        refine ⟨M, 0, ?_, ?_, fun _ => ⟨hR, hs0, hs1, D⟩, fun h => absurd rfl h⟩
        · refine (Evl.bind C1 (h := fun k bt => if bt.1 = 0 then (if s < 0 then walk_Levels.j0 k s true n E else walk_Levels.j0 k s (decide (s ≥ n)) n E) else some (([] : List Int), bt.1)) ?_).congr fun k => rfl
          refine Evl.congr (h := fun k => walk_Levels.j0 k s false n E) ?_ (fun k => by rw [if_pos rfl, if_neg h0, decide_eq_false h1])
          refine Evl.step (h := fun k => (walk_outs.f k n E).bind fun t126 => (walk_filled.f k n (-1)).bind fun t129 => if 0 ≤ s then (if s < (t129.length : Int) then walk_Levels.l0 k t126 (t129.set s.toNat 0) [s] n E else none) else none) ?_ (fun k => by rw [walk_Levels.j0, if_neg (by simp)])
          refine Evl.bind O (Evl.bind F ?_)
          exact H.congr fun k => by rw [if_pos hs0, if_pos (by rw [List.length_replicate]; omega)]
        · have W : Evl (fun k => compassref04_Wrong.f k n E s) 0 := (Evl.bind C2 (h := fun k bt => if bt.1 = 0 then (if s < 0 then some 30 else if s ≥ n then some 30 else some bt.1) else some bt.1) (Evl.pure.congr fun k => by rw [if_pos rfl, if_neg h0, if_neg h1])).congr fun k => rfl
          refine (Evl.bind W (h := fun k t => if t = 0 then (if 0 ≤ n then (if n.toNat ≤ 35184372088832 then compassref04_Levels.l0 k s (List.replicate n.toNat 0) 0 n E else none) else none) else some (([] : List Int), t)) ?_).congr fun k => rfl
          refine Evl.congr (ref_l0 n E hR s hs0 hs1 n.toNat 0 (List.replicate n.toNat 0) (Int.le_refl 0) (by omega) (by rw [List.length_replicate]; omega) (fun x a b => by omega) _ H2) (fun k => by rw [if_pos rfl, if_pos n0, if_pos (by omega)])
  · refine ⟨[], c, ?_, ?_, fun h => absurd h hc, fun _ => rfl⟩
    · refine (Evl.bind C1 (h := fun k bt => if bt.1 = 0 then (if s < 0 then walk_Levels.j0 k s true n E else walk_Levels.j0 k s (decide (s ≥ n)) n E) else some (([] : List Int), bt.1)) ?_).congr fun k => rfl
      exact Evl.pure.congr fun k => by rw [if_neg hc]
    · have W : Evl (fun k => compassref04_Wrong.f k n E s) c := (Evl.bind C2 (h := fun k bt => if bt.1 = 0 then (if s < 0 then some 30 else if s ≥ n then some 30 else some bt.1) else some bt.1) (Evl.pure.congr fun k => by rw [if_neg hc])).congr fun k => rfl
      refine (Evl.bind W (h := fun k t => if t = 0 then (if 0 ≤ n then (if n.toNat ≤ 35184372088832 then compassref04_Levels.l0 k s (List.replicate n.toNat 0) 0 n E else none) else none) else some (([] : List Int), t)) (Evl.pure.congr fun k => by rw [if_neg hc])).congr fun k => rfl
end Go.Proofs.Ytacklfnnpiobgaa.G
