/- A circle among nodes that wait for each other: what 'round' tells, the document takes. -/
import Derived.Test.YtacklfnnpiobgaaQ16
import Derived.Test.YtacklfnnpiobgaaQ4
import Derived.Test.YtacklfnnpiobgaaQ6
import Derived.Test.YtacklfnnpiobgaaNegs
namespace Go.Proofs.Ytacklfnnpiobgaa.G
open Go.RowKit Go.Proofs.Ytacklfnnpiobgaa.Q Go.Proofs.YtacklfnnpiobgaaW.PrintWords Go.Proofs.YtacklfnnpiobgaaW.PrintLast
set_option linter.unusedVariables false

theorem nodup_len (m : Nat) : ∀ l : List Int, l.Nodup → (∀ x ∈ l, 0 ≤ x ∧ x < (m : Int)) → l.length ≤ m := by
  induction m with
  | zero =>
    intro l _ h
    cases l with
    | nil => exact Nat.le_refl _
    | cons a t => have := h a (by simp); omega
  | succ m ih =>
    intro l hl h
    have := ih (l.erase (m : Int)) (hl.erase _) (fun x hx => by
      rw [hl.mem_erase_iff] at hx
      have := h x hx.2
      have := hx.1
      omega)
    rw [List.length_erase] at this
    split at this <;> omega

/-- These edges make a circle. -/
structure IsCircle (n : Int) (E : List S41) (l : List Int) : Prop where
  pos : 0 < (l.length : Int)
  len : (l.length : Int) ≤ (E.length : Int)
  rng : ∀ k, 0 ≤ k → k < (l.length : Int) → 0 ≤ rd l k ∧ rd l k < (E.length : Int)
  on : ∀ k, 0 ≤ k → k + 1 < (l.length : Int) → (rd_T41 E (rd l k)).f1 = (rd_T41 E (rd l (k + 1))).f0
  back : (rd_T41 E (rd l (l.length - 1))).f1 = (rd_T41 E (rd l 0)).f0
  once : ∀ j k, 0 ≤ j → j < k → k < (l.length : Int) → (rd_T41 E (rd l j)).f1 ≠ (rd_T41 E (rd l k)).f1

theorem tmod_next {k len : Int} (h0 : 0 ≤ k) (h1 : k < len) : Int.tmod (k + 1) len = if k + 1 < len then k + 1 else 0 := by
  rw [Int.tmod_eq_emod_of_nonneg (by omega)]
  by_cases h : k + 1 < len
  · rw [if_pos h, Int.emod_eq_of_lt (by omega) h]
  · rw [if_neg h, show k + 1 = len by omega, Int.emod_self]

theorem circle_l0 (n : Int) (E : List S41) (hR : Right n E) (l : List Int) (C : IsCircle n E l) (m : Nat) : ∀ (k : Int) (B : List Bool), 0 ≤ k → k + m = (l.length : Int) → (B.length : Int) = n →
    (∀ v, 0 ≤ v → v < n → rdOf false B v = true → ∃ j, 0 ≤ j ∧ j < k ∧ (rd_T41 E (rd l j)).f1 = v) → Evl (fun q => compassref04_Circle.l0 q l B k n E) true := by
  have m1 := hR.m1
  have hp := C.pos
  have hlen := C.len
  induction m with
  | zero => intro k B k0 hk hB hb; exact Evl.here fun q => by rw [compassref04_Circle.l0, if_neg (by omega)]
  | succ m ih =>
    intro k B k0 hk hB hb
    have k1 : k < (l.length : Int) := by omega
    obtain ⟨r0, r1⟩ := C.rng k k0 k1
    obtain ⟨a0, a1, b0, b1, -, -, -, -⟩ := hR.e _ r0 r1
    have nx : ∃ x, 0 ≤ x ∧ x < (l.length : Int) ∧ Int.tmod (wrap64 (k + 1)) (l.length : Int) = x ∧ (rd_T41 E (rd l k)).f1 = (rd_T41 E (rd l x)).f0 := by
      rw [w1 (by omega) (by omega), tmod_next k0 k1]
      by_cases h : k + 1 < (l.length : Int)
      · exact ⟨k + 1, by omega, h, if_pos h, C.on k k0 h⟩
      · refine ⟨0, Int.le_refl 0, hp, if_neg h, ?_⟩
        have := C.back
        rwa [show (l.length : Int) - 1 = k by omega] at this
    obtain ⟨x, x0, x1, ex, ef⟩ := nx
    obtain ⟨s0, s1⟩ := C.rng x x0 x1
    have fresh : ¬ rdOf false B (rd_T41 E (rd l k)).f1 = true := fun h => by
      obtain ⟨j, j0, j1, ej⟩ := hb _ b0 b1 h
      exact C.once j k j0 j1 k1 ej
    have H := ih (k + 1) (B.set (rd_T41 E (rd l k)).f1.toNat true) (by omega) (by omega) (by rw [List.length_set]; exact hB) (fun v v0 v1 h => by
      rw [rdOf_set _ _ _ _ _ b0 (by omega) v0] at h
      by_cases e : v = (rd_T41 E (rd l k)).f1
      · exact ⟨k, k0, by omega, e.symm⟩
      · rw [if_neg e] at h
        obtain ⟨j, j0, j1, ej⟩ := hb v v0 v1 h
        exact ⟨j, j0, by omega, ej⟩)
    have J : Evl (fun q => compassref04_Circle.j2 q l B k false n E) true := by
      refine H.step fun q => ?_
      rw [compassref04_Circle.j2, if_neg (by simp), if_neg (by omega), ex, if_pos x0, if_pos x1, if_neg (by omega), if_neg (by omega), if_pos k0, if_pos k1, if_pos r0, if_pos r1, if_pos s0, if_pos s1, if_pos ef, if_pos b0, if_pos (by omega),
        if_neg fresh, w1 (by omega) (by omega)]
    refine J.step fun q => ?_
    rw [compassref04_Circle.l0, if_pos k1, if_pos k0, if_neg (by omega), decide_eq_false (by omega)]

theorem circle_f (n : Int) (E : List S41) (hR : Right n E) (l : List Int) (C : IsCircle n E l) : Evl (fun q => compassref04_Circle.f q n E l) true := by
  have n0 := hR.n0
  have n1 := hR.n1
  have H := circle_l0 n E hR l C l.length 0 (List.replicate n.toNat false) (Int.le_refl 0) (by omega) (by rw [List.length_replicate]; omega) (fun v a b h => by rw [rdOf_replicate _ _ _ _ a (by omega)] at h; simp at h)
  have hp := C.pos
  have hl := C.len
  refine (H.step (g := fun q => compassref04_Circle.j0 q l false n E) fun q => ?_).congr fun q => ?_
  · rw [compassref04_Circle.j0, if_neg (by simp), if_pos n0, if_pos (by omega)]
  · rw [compassref04_Circle.f, if_neg (by omega), decide_eq_false (by omega)]

/-- Nodes that are not done, each with an edge from another such one. -/
structure Stuck (n : Int) (E : List S41) (B : List Bool) : Prop where
  len : (B.length : Int) = n
  some : ∃ v, 0 ≤ v ∧ v < n ∧ rdOf false B v = false
  into : ∀ v, 0 ≤ v → v < n → rdOf false B v = false → ∃ i, 0 ≤ i ∧ i < (E.length : Int) ∧ (rd_T41 E i).f1 = v ∧ rdOf false B (rd_T41 E i).f0 = false

/-- The edge into each node that is not done. -/
def Into (n : Int) (E : List S41) (B : List Bool) (I : List Int) : Prop := (I.length : Int) = n ∧ ∀ v, 0 ≤ v → v < n → rdOf false B v = false →
  0 ≤ rd I v ∧ rd I v < (E.length : Int) ∧ (rd_T41 E (rd I v)).f1 = v ∧ rdOf false B (rd_T41 E (rd I v)).f0 = false

/-- The way back: edges, and when each node was come to. -/
structure Way (n : Int) (E : List S41) (B : List Bool) (I S K : List Int) (at_ : Int) : Prop where
  slen : (S.length : Int) = n
  a0 : 0 ≤ at_
  a1 : at_ < n
  und : rdOf false B at_ = false
  rng : ∀ k, 0 ≤ k → k < (K.length : Int) → 0 ≤ rd K k ∧ rd K k < (E.length : Int)
  mark : ∀ k, 0 ≤ k → k < (K.length : Int) → rd S (rd_T41 E (rd K k)).f1 = k
  seen : ∀ v, 0 ≤ v → v < n → 0 ≤ rd S v → rd S v < (K.length : Int) ∧ (rd_T41 E (rd K (rd S v))).f1 = v
  on : ∀ k, 0 ≤ k → k + 1 < (K.length : Int) → (rd_T41 E (rd K k)).f0 = (rd_T41 E (rd K (k + 1))).f1
  last : 0 < (K.length : Int) → (rd_T41 E (rd K (K.length - 1))).f0 = at_
  bnd : (K.length : Int) + negs S = n

theorem round_l3 (at_ : Int) (S K : List Int) (a0 : 0 ≤ at_) (a1 : at_ < (S.length : Int)) (s0 : 0 ≤ rd S at_) (hK : (K.length : Int) ≤ 5000) (m : Nat) : ∀ (k : Int) (C : List Int), k < (K.length : Int) → k + 1 - rd S at_ = m → (C.length : Int) + (k + 1) = (K.length : Int) →
    (∀ j, 0 ≤ j → j < (C.length : Int) → rd C j = rd K (K.length - 1 - j)) → ∃ C' : List Int, Evl (fun q => walk_round.l3 q at_ S K C k) C' ∧ (C'.length : Int) = K.length - rd S at_ ∧ ∀ j, 0 ≤ j → j < (C'.length : Int) → rd C' j = rd K (K.length - 1 - j) := by
  induction m with
  | zero =>
    intro k C hk hm hC hc
    exact ⟨C, Evl.here fun q => by rw [walk_round.l3, if_pos a0, if_pos a1, if_neg (by omega)], by omega, hc⟩
  | succ m ih =>
    intro k C hk hm hC hc
    have hl : ((C ++ [rd K k]).length : Int) = C.length + 1 := by simp
    obtain ⟨C', H, l', c'⟩ := ih (k - 1) (C ++ [rd K k]) (by omega) (by omega) (by omega) (fun j j0 j1 => by
      rw [rd_append _ _ _ j0]
      by_cases e : j < (C.length : Int)
      · rw [if_pos e]; exact hc j j0 e
      · rw [if_neg e, show j - (C.length : Int) = 0 by omega, show (K.length : Int) - 1 - j = k by omega]; rfl)
    refine ⟨C', H.step fun q => ?_, l', c'⟩
    rw [walk_round.l3, if_pos a0, if_pos a1, if_pos (by omega), if_pos (by omega), if_pos hk, if_pos (by omega), wm (by omega) (by omega)]

theorem way_circle {n : Int} {E : List S41} (hR : Right n E) {B : List Bool} {I S K : List Int} {at_ : Int} (W : Way n E B I S K at_) (h : 0 ≤ rd S at_) {C : List Int} (lc : (C.length : Int) = K.length - rd S at_)
    (hc : ∀ j, 0 ≤ j → j < (C.length : Int) → rd C j = rd K (K.length - 1 - j)) : IsCircle n E C := by
  obtain ⟨t0, t1⟩ := W.seen at_ W.a0 W.a1 h
  have lst := W.last (by omega)
  refine ⟨by omega, ?_, fun k k0 k1 => ?_, fun k k0 k1 => ?_, ?_, fun j k j0 j1 k1 e => ?_⟩
  · have nd : C.Nodup := by
      refine List.pairwise_iff_getElem.mpr fun i j hi hj hij e => ?_
      have e1 : rd C (i : Int) = rd C (j : Int) := by
        unfold rd
        simp only [Int.toNat_natCast, List.getD_eq_getElem?_getD, List.getElem?_eq_getElem hi, List.getElem?_eq_getElem hj, e]
      rw [hc i (by omega) (by omega), hc j (by omega) (by omega)] at e1
      have g1 := W.mark (K.length - 1 - (i : Int)) (by omega) (by omega)
      have g2 := W.mark (K.length - 1 - (j : Int)) (by omega) (by omega)
      rw [e1] at g1; omega
    have := nodup_len E.length C nd (fun x hx => by
      obtain ⟨k, k0, k1, ek⟩ := mem_rd hx
      rw [hc k k0 k1] at ek
      have := W.rng (K.length - 1 - k) (by omega) (by omega)
      rw [ek] at this; exact this)
    omega
  · rw [hc k k0 k1]; exact W.rng _ (by omega) (by omega)
  · rw [hc k k0 (by omega), hc (k + 1) (by omega) k1]
    have := W.on ((K.length : Int) - 1 - (k + 1)) (by omega) (by omega)
    rw [this, show (K.length : Int) - 1 - (k + 1) + 1 = K.length - 1 - k by omega]
  · rw [hc _ (by omega) (by omega), hc 0 (Int.le_refl 0) (by omega), show (K.length : Int) - 1 - (C.length - 1) = rd S at_ by omega, show (K.length : Int) - 1 - 0 = K.length - 1 by omega, t1, lst]
  · rw [hc j j0 (by omega), hc k (by omega) k1] at e
    have g1 := W.mark ((K.length : Int) - 1 - j) (by omega) (by omega)
    have g2 := W.mark ((K.length : Int) - 1 - k) (by omega) (by omega)
    rw [e] at g1; omega

theorem round_l2 (n : Int) (E : List S41) (hR : Right n E) (B : List Bool) (I : List Int) (hI : Into n E B I) (m : Nat) : ∀ (S K : List Int) (at_ : Int), negs S = m → Way n E B I S K at_ →
    ∃ C, Evl (fun q => walk_round.l2 q I at_ S K n E) C ∧ IsCircle n E C := by
  have n1 := hR.n1
  have m1 := hR.m1
  induction m with
  | zero =>
    intro S K at_ hm W
    have hs := W.slen
    have hb := W.bnd
    have : 0 ≤ rd S at_ := by
      by_cases h : rd S at_ < 0
      · have ng := negs_set S at_ 0 W.a0 (by have := W.a1; omega) h (Int.le_refl 0)
        have := negs_nonneg (S.set at_.toNat 0); omega
      · omega
    have a1 := W.a1
    obtain ⟨t0, t1⟩ := W.seen at_ W.a0 W.a1 this
    obtain ⟨C, H, lc, hc⟩ := round_l3 at_ S K W.a0 (by omega) this (by omega) ((K.length : Int) - rd S at_).toNat (K.length - 1) [] (by omega) (by omega) (by simp) (fun j a b => by simp at b; omega)
    refine ⟨C, H.step fun q => ?_, way_circle hR W this lc hc⟩
    rw [walk_round.l2, if_pos W.a0, if_pos (by omega), if_neg (by omega), wm (by omega) (by omega)]
  | succ m ih =>
    intro S K at_ hm W
    have hs := W.slen
    have hb := W.bnd
    have a0 := W.a0
    have a1 := W.a1
    by_cases h : rd S at_ < 0
    · obtain ⟨i0, i1, ei, eu⟩ := hI.2 at_ a0 a1 W.und
      have hIl := hI.1
      obtain ⟨f0, f1, g0, g1, -, -, -, -⟩ := hR.e _ i0 i1
      have ng := negs_set S at_ (K.length : Int) a0 (by omega) h (by omega)
      have hl : ((K ++ [rd I at_]).length : Int) = K.length + 1 := by simp
      have rs : ∀ v, 0 ≤ v → rd (S.set at_.toNat (K.length : Int)) v = if v = at_ then (K.length : Int) else rd S v := fun v v0 => rd_set _ _ _ _ a0 (by omega) v0
      have rk : ∀ k, 0 ≤ k → k < (K.length : Int) → rd (K ++ [rd I at_]) k = rd K k := fun k k0 k1 => by rw [rd_append _ _ _ k0, if_pos k1]
      have rl : rd (K ++ [rd I at_]) (K.length : Int) = rd I at_ := by rw [rd_append _ _ _ (by omega), if_neg (by omega), Int.sub_self]; rfl
      have W' : Way n E B I (S.set at_.toNat (K.length : Int)) (K ++ [rd I at_]) (rd_T41 E (rd I at_)).f0 := by
        refine ⟨by rw [List.length_set]; exact hs, f0, f1, eu, fun k k0 k1 => ?_, fun k k0 k1 => ?_, fun v v0 v1 hv => ?_, fun k k0 k1 => ?_, fun _ => ?_, ?_⟩
        · by_cases e : k < (K.length : Int)
          · rw [rk k k0 e]; exact W.rng k k0 e
          · rw [show k = (K.length : Int) by omega, rl]; exact ⟨i0, i1⟩
        · by_cases e : k < (K.length : Int)
          · rw [rk k k0 e]
            have b := W.mark k k0 e
            obtain ⟨r0, r1⟩ := W.rng k k0 e
            rw [rs _ (hR.e _ r0 r1).b0, if_neg (fun q => by rw [q] at b; omega)]; exact b
          · rw [show k = (K.length : Int) by omega, rl, ei, rs at_ a0, if_pos rfl]
        · rw [rs v v0] at hv ⊢
          by_cases e : v = at_
          · rw [if_pos e]; exact ⟨by omega, by rw [rl, ei, e]⟩
          · rw [if_neg e] at hv ⊢
            obtain ⟨q0, q1⟩ := W.seen v v0 v1 hv
            exact ⟨by omega, by rw [rk _ hv q0]; exact q1⟩
        · by_cases e : k + 1 < (K.length : Int)
          · rw [rk k k0 (by omega), rk (k + 1) (by omega) e]; exact W.on k k0 e
          · have ek : k = (K.length : Int) - 1 := by omega
            rw [show k + 1 = (K.length : Int) by omega, rl, ei, rk k k0 (by omega), ek]
            exact W.last (by omega)
        · rw [hl, show (K.length : Int) + 1 - 1 = K.length by omega, rl]
        · rw [ng]; omega
      obtain ⟨C, H, c⟩ := ih _ _ _ (by omega) W'
      refine ⟨C, H.step fun q => ?_, c⟩
      have hng := negs_nonneg S
      rw [walk_round.l2, if_pos a0, if_pos (by omega), if_pos h, if_pos (by omega), if_pos (by omega), if_pos i0, if_pos i1]
    · have h' : 0 ≤ rd S at_ := by omega
      obtain ⟨t0, t1⟩ := W.seen at_ a0 a1 h'
      have hng := negs_nonneg S
      obtain ⟨C, H, lc, hc⟩ := round_l3 at_ S K a0 (by omega) h' (by omega) ((K.length : Int) - rd S at_).toNat (K.length - 1) [] (by omega) (by omega) (by simp) (fun j a b => by simp at b; omega)
      refine ⟨C, H.step fun q => ?_, way_circle hR W h' lc hc⟩
      rw [walk_round.l2, if_pos a0, if_pos (by omega), if_neg h, wm (by omega) (by omega)]

theorem round_l1 (n : Int) (E : List S41) (hR : Right n E) (B : List Bool) (hB : (B.length : Int) = n) (I : List Int) (hI : Into n E B I) (m : Nat) : ∀ (v at_ : Int), 0 ≤ v → v + m = n →
    ((0 ≤ at_ ∧ at_ < n ∧ rdOf false B at_ = false) ∨ ∃ x, v ≤ x ∧ x < n ∧ rdOf false B x = false) → ∃ C, Evl (fun q => walk_round.l1 q B I at_ n v n E) C ∧ IsCircle n E C := by
  have n0 := hR.n0
  have n1 := hR.n1
  induction m with
  | zero =>
    intro v at_ v0 hv h
    rcases h with ⟨a0, a1, au⟩ | ⟨x, x0, x1, -⟩
    · have F := filled_f n (-1) n0 (by omega)
      have ng : negs (List.replicate n.toNat (-1)) = n := by
        unfold negs
        rw [List.countP_replicate, if_pos (by decide)]; omega
      obtain ⟨C, H, c⟩ := round_l2 n E hR B I hI n.toNat (List.replicate n.toNat (-1)) [] at_ (by omega) ⟨by rw [List.length_replicate]; omega, a0, a1, au, fun k k0 k1 => by simp at k1; omega, fun k k0 k1 => by simp at k1; omega,
        fun v v0 v1 hv => by rw [rd_replicate _ _ _ v0 (by omega)] at hv; omega, fun k k0 k1 => by simp at k1; omega, fun h => by simp at h, by rw [ng]; simp⟩
      refine ⟨C, (Evl.bind F (h := fun q t => walk_round.l2 q I at_ t [] n E) H).step fun q => ?_, c⟩
      rw [walk_round.l1, if_neg (by omega)]
    · omega
  | succ m ih =>
    intro v at_ v0 hv h
    by_cases e : rdOf false B v = true
    · obtain ⟨C, H, c⟩ := ih (v + 1) at_ (by omega) (by omega) (by
        rcases h with h | ⟨x, x0, x1, xu⟩
        · exact Or.inl h
        · refine Or.inr ⟨x, ?_, x1, xu⟩
          by_cases q : x = v
          · rw [q, e] at xu; cases xu
          · omega)
      refine ⟨C, H.step fun q => ?_, c⟩
      rw [walk_round.l1, if_pos (by omega), if_pos v0, if_pos (by omega), if_pos e, w1 (by omega) (by omega)]
    · obtain ⟨C, H, c⟩ := ih (v + 1) v (by omega) (by omega) (Or.inl ⟨v0, by omega, by simpa using e⟩)
      refine ⟨C, H.step fun q => ?_, c⟩
      rw [walk_round.l1, if_pos (by omega), if_pos v0, if_pos (by omega), if_neg e, w1 (by omega) (by omega)]

theorem round_l0 (n : Int) (E : List S41) (hR : Right n E) (B : List Bool) (hS : Stuck n E B) (m : Nat) : ∀ (i : Int) (I : List Int), 0 ≤ i → i + m = (E.length : Int) → (I.length : Int) = n →
    (∀ j, 0 ≤ j → j < i → rdOf false B (rd_T41 E j).f0 = false → rdOf false B (rd_T41 E j).f1 = false → 0 ≤ rd I (rd_T41 E j).f1) →
    (∀ v, 0 ≤ v → v < n → 0 ≤ rd I v → rd I v < (E.length : Int) ∧ (rd_T41 E (rd I v)).f1 = v ∧ rdOf false B (rd_T41 E (rd I v)).f0 = false) →
    ∃ C, Evl (fun q => walk_round.l0 q B I (-1) E (E.length : Int) i n E) C ∧ IsCircle n E C := by
  have m1 := hR.m1
  have n1 := hR.n1
  have n0 := hR.n0
  have hB := hS.len
  induction m with
  | zero =>
    intro i I i0 hi hl h1 h2
    have hI : Into n E B I := ⟨hl, fun v v0 v1 hv => by
      obtain ⟨j, j0, j1, ej, eu⟩ := hS.into v v0 v1 hv
      have := h1 j j0 (by omega) eu (by rw [ej]; exact hv)
      rw [ej] at this
      obtain ⟨a, b, c⟩ := h2 v v0 v1 this
      exact ⟨this, a, b, c⟩⟩
    obtain ⟨C, H, c⟩ := round_l1 n E hR B hB I hI n.toNat 0 (-1) (Int.le_refl 0) (by omega) (Or.inr hS.some)
    exact ⟨C, H.step fun q => by rw [walk_round.l0, if_neg (by omega)], c⟩
  | succ m ih =>
    intro i I i0 hi hl h1 h2
    have i1 : i < (E.length : Int) := by omega
    obtain ⟨a0, a1, b0, b1, -, -, -, -⟩ := hR.e i i0 i1
    have w := w1 (i := i) (by omega) (by omega)
    by_cases c0 : rdOf false B (rd_T41 E i).f0 = true
    · obtain ⟨C, H, c⟩ := ih (i + 1) I (by omega) (by omega) hl (fun j j0 j1 hj hk => by
        by_cases e : j = i
        · rw [e, c0] at hj; cases hj
        · exact h1 j j0 (by omega) hj hk) h2
      refine ⟨C, H.step fun q => ?_, c⟩
      rw [walk_round.l0, if_pos i1, if_pos i0, if_pos i1, if_pos a0, if_pos (by omega), if_pos c0, w]
    · by_cases c1 : rdOf false B (rd_T41 E i).f1 = true
      · obtain ⟨C, H, c⟩ := ih (i + 1) I (by omega) (by omega) hl (fun j j0 j1 hj hk => by
          by_cases e : j = i
          · rw [e, c1] at hk; cases hk
          · exact h1 j j0 (by omega) hj hk) h2
        refine ⟨C, H.step fun q => ?_, c⟩
        rw [walk_round.l0, if_pos i1, if_pos i0, if_pos i1, if_pos a0, if_pos (by omega), if_neg c0, if_pos b0, if_pos (by omega), if_pos c1, w]
      · have rs : ∀ v, 0 ≤ v → rd (I.set (rd_T41 E i).f1.toNat i) v = if v = (rd_T41 E i).f1 then i else rd I v := fun v v0 => rd_set _ _ _ _ b0 (by omega) v0
        obtain ⟨C, H, c⟩ := ih (i + 1) (I.set (rd_T41 E i).f1.toNat i) (by omega) (by omega) (by rw [List.length_set]; exact hl) (fun j j0 j1 hj hk => by
          rw [rs _ (hR.e j j0 (by omega)).b0]
          by_cases e : (rd_T41 E j).f1 = (rd_T41 E i).f1
          · rw [if_pos e]; exact i0
          · rw [if_neg e]
            refine h1 j j0 ?_ hj hk
            by_cases e2 : j = i
            · rw [e2] at e; exact absurd rfl e
            · omega) (fun v v0 v1 hv => by
          rw [rs v v0] at hv ⊢
          by_cases e : v = (rd_T41 E i).f1
          · rw [if_pos e]; exact ⟨i1, e.symm, by simpa using c0⟩
          · rw [if_neg e] at hv ⊢; exact h2 v v0 v1 hv)
        refine ⟨C, H.step fun q => ?_, c⟩
        rw [walk_round.l0, if_pos i1, if_pos i0, if_pos i1, if_pos a0, if_pos (by omega), if_neg c0, if_pos b0, if_pos (by omega), if_neg c1, if_pos (by omega), w]

theorem round_f (n : Int) (E : List S41) (hR : Right n E) (B : List Bool) (hS : Stuck n E B) : ∃ C, Evl (fun q => walk_round.f q n E B) C ∧ IsCircle n E C := by
  have n0 := hR.n0
  have n1 := hR.n1
  obtain ⟨C, H, c⟩ := round_l0 n E hR B hS E.length 0 (List.replicate n.toNat (-1)) (Int.le_refl 0) (by omega) (by rw [List.length_replicate]; omega) (fun j a b => by omega)
    (fun v v0 v1 hv => by rw [rd_replicate _ _ _ v0 (by omega)] at hv; omega)
  exact ⟨C, (Evl.bind (filled_f n (-1) n0 (by omega)) (h := fun q t => walk_round.l0 q B t (-1) E (E.length : Int) 0 n E) H).congr fun q => rfl, c⟩
end Go.Proofs.Ytacklfnnpiobgaa.G
