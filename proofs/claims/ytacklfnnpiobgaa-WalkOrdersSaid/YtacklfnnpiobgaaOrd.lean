/- Order: the program's and the document's order of all edges are one; where there is none, a circle is told. -/
import Derived.Test.YtacklfnnpiobgaaQ14
import Derived.Test.YtacklfnnpiobgaaQ15
import Derived.Test.YtacklfnnpiobgaaQ7
import Derived.Test.YtacklfnnpiobgaaCirc
namespace Go.Proofs.Ytacklfnnpiobgaa.G
open Go.RowKit Go.Proofs.Ytacklfnnpiobgaa.Q Go.Proofs.YtacklfnnpiobgaaW.PrintWords Go.Proofs.YtacklfnnpiobgaaW.PrintLast
set_option linter.unusedVariables false

theorem countP_setB (p : Bool → Bool) (l : List Bool) : ∀ (i : Nat) (x : Bool), i < l.length → p (l.getD i false) = true → p x = false → (l.set i x).countP p + 1 = l.countP p := by
  induction l with
  | nil => intro i x h; exact absurd h (by simp)
  | cons a t ih =>
    intro i x h hp hx
    cases i with
    | zero => simp at hp; simp [hp, hx]
    | succ i =>
      have := ih i x (by simpa using h) (by simpa using hp) hx
      simp only [List.set_cons_succ, List.countP_cons]
      omega
/-- How many nodes are not done. -/
def undone (B : List Bool) : Int := (B.countP fun b => !b : Nat)
theorem undone_nonneg (B : List Bool) : 0 ≤ undone B := by unfold undone; omega
theorem undone_set (B : List Bool) (i : Int) (h0 : 0 ≤ i) (h : i < (B.length : Int)) (hn : rdOf false B i = false) : undone (B.set i.toNat true) = undone B - 1 := by
  have := countP_setB (fun b => !b) B i.toNat true (by omega) (by unfold rdOf at hn; rw [hn]; rfl) rfl
  unfold undone; omega
theorem undone_none (B : List Bool) (h : undone B = 0) (v : Int) (v0 : 0 ≤ v) (v1 : v < (B.length : Int)) : rdOf false B v = true := by
  have h' : B.countP (fun b => !b) = 0 := by unfold undone at h; omega
  have := List.countP_eq_zero.mp h' (rdOf false B v) (getD_mem B false v.toNat (by omega))
  simpa using this

theorem countP_split {α : Type} (p q r : α → Bool) (l : List α) (h : ∀ x ∈ l, (if p x = true then 1 else 0 : Nat) = (if q x = true then 1 else 0) + (if r x = true then 1 else 0)) : l.countP p = l.countP q + l.countP r := by
  induction l with
  | nil => rfl
  | cons a t ih =>
    have h1 := h a (by simp)
    have h2 := ih fun x hx => h x (by simp [hx])
    simp only [List.countP_cons]; omega

/-- An edge that a node waits for. -/
def blk (E : List S41) (B : List Bool) (v : Int) (i : Nat) : Bool := decide ((rd_T41 E (i : Int)).f1 = v) && !(rdOf false B (rd_T41 E (i : Int)).f0)
/-- How many edges a node waits for. -/
def cnt (E : List S41) (B : List Bool) (v : Int) : Int := ((List.range E.length).countP (blk E B v) : Nat)
def toV (E : List S41) (v i : Int) : Bool := decide ((rd_T41 E i).f1 = v)

theorem cnt_nonneg (E : List S41) (B : List Bool) (v : Int) : 0 ≤ cnt E B v := by unfold cnt; omega
theorem cnt_le (E : List S41) (B : List Bool) (v : Int) : cnt E B v ≤ (E.length : Int) := by
  unfold cnt; have := List.countP_le_length (p := blk E B v) (l := List.range E.length); rw [List.length_range] at this; omega
theorem cnt_zero (E : List S41) (B : List Bool) (v : Int) : cnt E B v = 0 ↔ ∀ i, 0 ≤ i → i < (E.length : Int) → (rd_T41 E i).f1 = v → rdOf false B (rd_T41 E i).f0 = true := by
  constructor
  · intro h i i0 i1 e
    have h' : (List.range E.length).countP (blk E B v) = 0 := by unfold cnt at h; omega
    have := List.countP_eq_zero.mp h' i.toNat (List.mem_range.mpr (by omega))
    unfold blk at this
    rw [show ((i.toNat : Nat) : Int) = i by omega, decide_eq_true e] at this
    simpa using this
  · intro h
    have : (List.range E.length).countP (blk E B v) = 0 := List.countP_eq_zero.mpr fun i hi => by
      rw [List.mem_range] at hi
      unfold blk
      by_cases e : (rd_T41 E (i : Int)).f1 = v
      · rw [h (i : Int) (by omega) (by omega) e]; simp
      · rw [decide_eq_false e]; simp
    unfold cnt; omega
theorem cnt_set (n : Int) (E : List S41) (hR : Right n E) (B : List Bool) (hB : (B.length : Int) = n) (u v : Int) (u0 : 0 ≤ u) (u1 : u < n) (hu : rdOf false B u = false) :
    cnt E (B.set u.toNat true) v = cnt E B v - ((outL E E.length u).countP (toV E v) : Nat) := by
  have h := countP_split (blk E B v) (blk E (B.set u.toNat true) v) (fun i : Nat => toV E v (i : Int) && decide ((rd_T41 E (i : Int)).f0 = u)) (List.range E.length) (fun i hi => by
    rw [List.mem_range] at hi
    have re := hR.e (i : Int) (by omega) (by omega)
    unfold blk toV
    rw [rdOf_set _ _ _ _ _ u0 (by omega) re.a0]
    by_cases e1 : (rd_T41 E (i : Int)).f1 = v
    · by_cases e2 : (rd_T41 E (i : Int)).f0 = u
      · simp [e1, e2, hu]
      · simp [e1, e2]
    · simp [e1])
  have h2 : (outL E E.length u).countP (toV E v) = (List.range E.length).countP (fun i : Nat => toV E v (i : Int) && decide ((rd_T41 E (i : Int)).f0 = u)) := by
    unfold outL
    rw [List.countP_map, List.countP_filter]
    rfl
  unfold cnt
  rw [h2]; omega

/-- The waits of all nodes. -/
def Waits (n : Int) (E : List S41) (B : List Bool) (w : List Int) : Prop := (w.length : Int) = n ∧ ∀ v, 0 ≤ v → v < n → rd w v = cnt E B v

theorem order_l3 (n : Int) (E : List S41) (hR : Right n E) (O : List Int) (B : List Bool) (o : List (List Int)) (x u : Int) (d : Nat) : ∀ (j : Nat) (w : List Int), j + d = (outL E E.length u).length → (w.length : Int) = n →
    (∀ v, 0 ≤ v → v < n → 0 ≤ rd w v + j ∧ rd w v ≤ 5000) →
    ∃ w', (w'.length : Int) = n ∧ (∀ v, 0 ≤ v → v < n → rd w' v = rd w v - (((outL E E.length u).drop j).countP (toV E v) : Nat)) ∧
      ∀ r, Evl (fun k => walk_Order.l1 k O w' B o n (wrap64 (x + 1)) n E) r → Evl (fun k => walk_Order.l3 k O w B o n x (outL E E.length u) ((outL E E.length u).length : Int) (j : Int) n E) r := by
  have hlen := outL_len E E.length u
  have m1 := hR.m1
  induction d with
  | zero =>
    intro j w hj hw hb
    obtain rfl : j = (outL E E.length u).length := by omega
    refine ⟨w, hw, fun v a b => by rw [List.drop_length]; simp, fun r H => H.step fun k => ?_⟩
    rw [walk_Order.l3, if_neg (by omega)]
  | succ d ih =>
    intro j w hj hw hb
    have hj' : j < (outL E E.length u).length := by omega
    have hji : (j : Int) < ((outL E E.length u).length : Int) := by omega
    obtain ⟨i0, i1, -⟩ := (mem_outL E E.length u _).mp (rd_mem _ (j : Int) (by omega) hji)
    have hdrop : (outL E E.length u).drop j = rd (outL E E.length u) (j : Int) :: (outL E E.length u).drop (j + 1) := by
      rw [List.drop_eq_getElem_cons hj']
      unfold rd
      rw [Int.toNat_natCast, List.getD_eq_getElem?_getD, List.getElem?_eq_getElem hj']; rfl
    generalize hi : rd (outL E E.length u) (j : Int) = i at i0 i1 hdrop
    obtain ⟨a0, a1, b0, b1, -, -, -, -⟩ := hR.e i i0 i1
    have bb := hb _ b0 b1
    have wx := wm (i := rd w (rd_T41 E i).f1) (by omega) (by omega)
    have rs : ∀ v, 0 ≤ v → rd (w.set (rd_T41 E i).f1.toNat (rd w (rd_T41 E i).f1 - 1)) v = if v = (rd_T41 E i).f1 then rd w (rd_T41 E i).f1 - 1 else rd w v := fun v v0 => rd_set _ _ _ _ b0 (by omega) v0
    obtain ⟨w', l', c', R⟩ := ih (j + 1) (w.set (rd_T41 E i).f1.toNat (rd w (rd_T41 E i).f1 - 1)) (by omega) (by rw [List.length_set]; exact hw) (fun v v0 v1 => by
      rw [rs v v0]; have := hb v v0 v1; split <;> omega)
    refine ⟨w', l', fun v v0 v1 => ?_, fun r H => (R r H).step fun k => ?_⟩
    · rw [c' v v0 v1, rs v v0, hdrop, List.countP_cons]
      unfold toV
      by_cases e : v = (rd_T41 E i).f1
      · rw [if_pos e, if_pos (decide_eq_true e.symm), e]; omega
      · rw [if_neg e, if_neg (by rw [decide_eq_true_eq]; exact fun a => e a.symm)]; omega
    · rw [walk_Order.l3, if_pos hji, if_pos (by omega), if_pos hji, hi, if_pos i0, if_pos i1, if_pos b0, if_pos (by omega), wx, w1 (by omega) (by omega)]
      rfl

theorem order_l0 (n : Int) (E : List S41) (hR : Right n E) (d : Nat) : ∀ (i : Nat) (w : List Int), i + d = E.length → (w.length : Int) = n → (∀ v, 0 ≤ v → v < n → rd w v = (((List.range i).countP fun j : Nat => toV E v (j : Int) : Nat) : Int)) →
    ∃ w', Waits n E (List.replicate n.toNat false) w' ∧ ∀ r, Evl (fun k => if 0 ≤ n then (if n.toNat ≤ 281474976710656 then ((walk_outs.f k n E).bind fun t189 => walk_Order.l1 k [] w' (List.replicate n.toNat false) t189 n 0 n E) else none) else none) r →
      Evl (fun k => walk_Order.l0 k w E (E.length : Int) (i : Int) n E) r := by
  have m1 := hR.m1
  induction d with
  | zero =>
    intro i w hi hw hc
    obtain rfl : i = E.length := by omega
    refine ⟨w, ⟨hw, fun v v0 v1 => ?_⟩, fun r H => H.step fun k => ?_⟩
    · rw [hc v v0 v1]
      unfold cnt
      rw [List.countP_congr (l := List.range E.length) (p := fun j : Nat => toV E v (j : Int)) (q := blk E (List.replicate n.toNat false) v) fun j hj => by
        rw [List.mem_range] at hj
        have re := hR.e (j : Int) (by omega) (by omega)
        have := re.a1
        unfold blk toV
        rw [rdOf_replicate _ _ _ _ re.a0 (by omega)]; simp]
    · rw [walk_Order.l0, if_neg (by omega)]
  | succ d ih =>
    intro i w hi hw hc
    have hii : (i : Int) < (E.length : Int) := by omega
    obtain ⟨a0, a1, b0, b1, -, -, -, -⟩ := hR.e (i : Int) (by omega) hii
    have hcb := hc _ b0 b1
    have hle := List.countP_le_length (p := fun j : Nat => toV E (rd_T41 E (i : Int)).f1 (j : Int)) (l := List.range i)
    rw [List.length_range] at hle
    have wx := w1 (i := rd w (rd_T41 E (i : Int)).f1) (by omega) (by omega)
    have rs : ∀ v, 0 ≤ v → rd (w.set (rd_T41 E (i : Int)).f1.toNat (rd w (rd_T41 E (i : Int)).f1 + 1)) v = if v = (rd_T41 E (i : Int)).f1 then rd w (rd_T41 E (i : Int)).f1 + 1 else rd w v := fun v v0 => rd_set _ _ _ _ b0 (by omega) v0
    obtain ⟨w', W, R⟩ := ih (i + 1) (w.set (rd_T41 E (i : Int)).f1.toNat (rd w (rd_T41 E (i : Int)).f1 + 1)) (by omega) (by rw [List.length_set]; exact hw) (fun v v0 v1 => by
      rw [rs v v0, List.range_succ, List.countP_append, List.countP_singleton]
      unfold toV at hc ⊢
      by_cases e : v = (rd_T41 E (i : Int)).f1
      · rw [if_pos e, if_pos (decide_eq_true e.symm), ← e, hc v v0 v1]; omega
      · rw [if_neg e, if_neg (by rw [decide_eq_true_eq]; exact fun a => e a.symm), hc v v0 v1]; omega)
    refine ⟨w', W, fun r H => (R r H).step fun k => ?_⟩
    rw [walk_Order.l0, if_pos hii, if_pos (by omega), if_pos hii, if_pos b0, if_pos (by omega), wx, w1 (by omega) (by omega)]
    rfl

/-- An order so far, and the nodes in it. -/
structure St (n : Int) (E : List S41) (O : List Int) (B : List Bool) : Prop where
  len : (B.length : Int) = n
  num : (O.length : Int) + undone B = n
  mem : ∀ k, 0 ≤ k → k < (O.length : Int) → 0 ≤ rd O k ∧ rd O k < n ∧ rdOf false B (rd O k) = true
  cov : ∀ v, 0 ≤ v → v < n → rdOf false B v = true → ∃ k, 0 ≤ k ∧ k < (O.length : Int) ∧ rd O k = v
  dis : ∀ j k, 0 ≤ j → j < k → k < (O.length : Int) → rd O j ≠ rd O k
  fwd : ∀ i, 0 ≤ i → i < (E.length : Int) → ∀ k, 0 ≤ k → k < (O.length : Int) → rd O k = (rd_T41 E i).f1 → ∃ j, 0 ≤ j ∧ j < k ∧ rd O j = (rd_T41 E i).f0

/-- A node that may come next. -/
def Ready (E : List S41) (B : List Bool) (v : Int) : Prop := rdOf false B v = false ∧ ∀ i, 0 ≤ i → i < (E.length : Int) → (rd_T41 E i).f1 = v → rdOf false B (rd_T41 E i).f0 = true

theorem St.start (n : Int) (E : List S41) (n0 : 0 ≤ n) : St n E [] (List.replicate n.toNat false) := by
  refine ⟨by rw [List.length_replicate]; omega, ?_, fun k a b => by simp at b; omega, fun v a b h => by rw [rdOf_replicate _ _ _ _ a (by omega)] at h; simp at h, fun j k a b c => by simp at c; omega, fun i a b k c d => by simp at d; omega⟩
  unfold undone
  rw [List.countP_replicate, if_pos (by decide)]; simp; omega
theorem St.push {n : Int} {E : List S41} {O : List Int} {B : List Bool} (S : St n E O B) (hR : Right n E) {v : Int} (v0 : 0 ≤ v) (v1 : v < n) (hv : Ready E B v) : St n E (O ++ [v]) (B.set v.toNat true) := by
  have hl := S.len
  have hO : ((O ++ [v]).length : Int) = O.length + 1 := by simp
  have rk : ∀ k, 0 ≤ k → k < (O.length : Int) → rd (O ++ [v]) k = rd O k := fun k k0 k1 => by rw [rd_append _ _ _ k0, if_pos k1]
  have rl : ∀ k, k = (O.length : Int) → rd (O ++ [v]) k = v := fun k e => by rw [rd_append _ _ _ (by omega), if_neg (by omega), show k - (O.length : Int) = 0 by omega]; rfl
  have rb : ∀ x, 0 ≤ x → rdOf false (B.set v.toNat true) x = if x = v then true else rdOf false B x := fun x x0 => rdOf_set _ _ _ _ _ v0 (by omega) x0
  refine ⟨by rw [List.length_set]; exact hl, ?_, fun k k0 k1 => ?_, fun x x0 x1 hx => ?_, fun j k j0 j1 k1 => ?_, fun i i0 i1 k k0 k1 e => ?_⟩
  · rw [undone_set B v v0 (by omega) hv.1]; have := S.num; omega
  · by_cases e : k < (O.length : Int)
    · obtain ⟨a, b, c⟩ := S.mem k k0 e
      rw [rk k k0 e, rb _ a]
      exact ⟨a, b, by split; rfl; exact c⟩
    · rw [rl k (by omega), rb v v0, if_pos rfl]; exact ⟨v0, v1, rfl⟩
  · rw [rb x x0] at hx
    by_cases e : x = v
    · exact ⟨O.length, by omega, by omega, by rw [rl _ rfl, e]⟩
    · rw [if_neg e] at hx
      obtain ⟨k, k0, k1, ek⟩ := S.cov x x0 x1 hx
      exact ⟨k, k0, by omega, by rw [rk k k0 k1]; exact ek⟩
  · by_cases e : k < (O.length : Int)
    · rw [rk j j0 (by omega), rk k (by omega) e]; exact S.dis j k j0 j1 e
    · rw [rk j j0 (by omega), rl k (by omega)]
      intro q
      have := (S.mem j j0 (by omega)).2.2
      rw [q, hv.1] at this; cases this
  · by_cases h : k < (O.length : Int)
    · rw [rk k k0 h] at e
      obtain ⟨j, j0, j1, ej⟩ := S.fwd i i0 i1 k k0 h e
      exact ⟨j, j0, j1, by rw [rk j j0 (by omega)]; exact ej⟩
    · rw [rl k (by omega)] at e
      have re := hR.e i i0 i1
      obtain ⟨j, j0, j1, ej⟩ := S.cov _ re.a0 re.a1 (hv.2 i i0 i1 e.symm)
      exact ⟨j, j0, by omega, by rw [rk j j0 j1]; exact ej⟩

/-- The program looks for the least node that may come. -/
theorem order_l2 (n : Int) (E : List S41) (hR : Right n E) (O : List Int) (B : List Bool) (S : St n E O B) (w : List Int) (W : Waits n E B w) (o : List (List Int)) (ho : (o.length : Int) = n)
    (hout : ∀ v : Int, 0 ≤ v → v < n → rd_L2 o v = outL E E.length v) (x : Int) (d : Nat) : ∀ v : Int, 0 ≤ v → v + d = n → (∀ u, 0 ≤ u → u < v → ¬ Ready E B u) →
    (∃ u, 0 ≤ u ∧ u < n ∧ Ready E B u ∧ (∀ y, 0 ≤ y → y < u → ¬ Ready E B y) ∧ ∃ w', Waits n E (B.set u.toNat true) w' ∧ ∀ r, Evl (fun k => walk_Order.l1 k (O ++ [u]) w' (B.set u.toNat true) o n (wrap64 (x + 1)) n E) r → Evl (fun k => walk_Order.l2 k O w B o n x n v n E) r) ∨
    ((∀ u, 0 ≤ u → u < n → ¬ Ready E B u) ∧ ∀ r, Evl (fun k => (walk_round.f k n E B).bind fun t192 => some (([] : List Int), t192, (71 : Int))) r → Evl (fun k => walk_Order.l2 k O w B o n x n v n E) r) := by
  have n1 := hR.n1
  have m1 := hR.m1
  have hB := S.len
  have hw := W.1
  have hnum := S.num
  have hun := undone_nonneg B
  induction d with
  | zero =>
    intro v v0 hv hno
    refine Or.inr ⟨fun u a b => hno u a (by omega), fun r H => H.step fun k => ?_⟩
    rw [walk_Order.l2, if_neg (by omega)]
  | succ d ih =>
    intro v v0 hv hno
    have wv := w1 (i := v) (by omega) (by omega)
    have skip : ¬ Ready E B v → (∀ r, Evl (fun k => walk_Order.l2 k O w B o n x n (v + 1) n E) r → Evl (fun k => walk_Order.l2 k O w B o n x n v n E) r) →
        (∃ u, 0 ≤ u ∧ u < n ∧ Ready E B u ∧ (∀ y, 0 ≤ y → y < u → ¬ Ready E B y) ∧ ∃ w', Waits n E (B.set u.toNat true) w' ∧ ∀ r, Evl (fun k => walk_Order.l1 k (O ++ [u]) w' (B.set u.toNat true) o n (wrap64 (x + 1)) n E) r → Evl (fun k => walk_Order.l2 k O w B o n x n v n E) r) ∨
        ((∀ u, 0 ≤ u → u < n → ¬ Ready E B u) ∧ ∀ r, Evl (fun k => (walk_round.f k n E B).bind fun t192 => some (([] : List Int), t192, (71 : Int))) r → Evl (fun k => walk_Order.l2 k O w B o n x n v n E) r) := by
      intro hn hstep
      rcases ih (v + 1) (by omega) (by omega) (fun u a b => by
        by_cases e : u = v
        · rw [e]; exact hn
        · exact hno u a (by omega)) with ⟨u, u0, u1, hu, hl, w', W', R⟩ | ⟨hall, R⟩
      · exact Or.inl ⟨u, u0, u1, hu, hl, w', W', fun r H => hstep r (R r H)⟩
      · exact Or.inr ⟨hall, fun r H => hstep r (R r H)⟩
    by_cases hd : rdOf false B v = true
    · refine skip (fun h => by rw [h.1] at hd; cases hd) fun r H => ?_
      refine (H.step (g := fun k => walk_Order.j3 k O w B o v n x n v false n E) fun k => ?_).step fun k => ?_
      · rw [walk_Order.j3, if_neg (by simp), wv]
      · rw [walk_Order.l2, if_pos (by omega), if_pos v0, if_pos (by omega), if_pos hd]
    · have hdf : rdOf false B v = false := by simpa using hd
      have wc := W.2 v v0 (by omega)
      by_cases hz : rd w v = 0
      · have hr : Ready E B v := ⟨hdf, (cnt_zero E B v).mp (by rw [← wc]; exact hz)⟩
        obtain ⟨w', l', c', R⟩ := order_l3 n E hR (O ++ [v]) (B.set v.toNat true) o x v (outL E E.length v).length 0 w (by omega) hw (fun y y0 y1 => by
          rw [W.2 y y0 y1]; have := cnt_nonneg E B y; have := cnt_le E B y; omega)
        refine Or.inl ⟨v, v0, by omega, hr, hno, w', ⟨l', fun y y0 y1 => ?_⟩, fun r H => ?_⟩
        · rw [c' y y0 y1, W.2 y y0 y1, cnt_set n E hR B hB v y v0 (by omega) hdf, List.drop_zero]
        · refine ((R r H).step (g := fun k => walk_Order.j3 k O w B o v n x n v true n E) fun k => ?_).step fun k => ?_
          · rw [walk_Order.j3, if_pos rfl, if_pos v0, if_pos (by omega), if_pos (by omega), if_pos (by omega), hout v v0 (by omega)]
            rfl
          · rw [walk_Order.l2, if_pos (by omega), if_pos v0, if_pos (by omega), if_neg hd, if_pos (by omega), hz]
            rfl
      · refine skip (fun h => hz (by rw [wc]; exact (cnt_zero E B v).mpr h.2)) fun r H => ?_
        refine (H.step (g := fun k => walk_Order.j3 k O w B o v n x n v false n E) fun k => ?_).step fun k => ?_
        · rw [walk_Order.j3, if_neg (by simp), wv]
        · have : (rd w v == 0) = false := by simpa using hz
          rw [walk_Order.l2, if_pos (by omega), if_pos v0, if_pos (by omega), if_neg hd, if_pos (by omega), this]

/-- The document asks whether a node may come. -/
theorem may_f (n : Int) (E : List S41) (hR : Right n E) (B : List Bool) (hB : (B.length : Int) = n) (v : Int) :
    ((∀ i, 0 ≤ i → i < (E.length : Int) → (rd_T41 E i).f1 = v → rdOf false B (rd_T41 E i).f0 = true) → Evl (fun k => compassref04_may.f k n E B v) true) ∧
    ((¬ ∀ i, 0 ≤ i → i < (E.length : Int) → (rd_T41 E i).f1 = v → rdOf false B (rd_T41 E i).f0 = true) → Evl (fun k => compassref04_may.f k n E B v) false) := by
  have m1 := hR.m1
  have loop : ∀ (d : Nat) (i : Int), 0 ≤ i → i + d = (E.length : Int) → (∀ j, 0 ≤ j → j < i → (rd_T41 E j).f1 = v → rdOf false B (rd_T41 E j).f0 = true) →
      ((∀ i, 0 ≤ i → i < (E.length : Int) → (rd_T41 E i).f1 = v → rdOf false B (rd_T41 E i).f0 = true) → Evl (fun k => compassref04_may.l0 k B v i n E) true) ∧
      ((¬ ∀ i, 0 ≤ i → i < (E.length : Int) → (rd_T41 E i).f1 = v → rdOf false B (rd_T41 E i).f0 = true) → Evl (fun k => compassref04_may.l0 k B v i n E) false) := by
    intro d
    induction d with
    | zero =>
      intro i i0 hi hp
      exact ⟨fun _ => Evl.here fun k => by rw [compassref04_may.l0, if_neg (by omega)], fun h => absurd (fun j a b => hp j a (by omega)) h⟩
    | succ d ih =>
      intro i i0 hi hp
      have i1 : i < (E.length : Int) := by omega
      obtain ⟨a0, a1, b0, b1, -, -, -, -⟩ := hR.e i i0 i1
      have w := w1 (i := i) (by omega) (by omega)
      by_cases e : (rd_T41 E i).f1 = v
      · by_cases f : rdOf false B (rd_T41 E i).f0 = true
        · obtain ⟨h1, h2⟩ := ih (i + 1) (by omega) (by omega) (fun j a b q => by
            by_cases r : j = i
            · rw [r]; exact f
            · exact hp j a (by omega) q)
          have st : ∀ k, compassref04_may.l0 (k + 1) B v i n E = compassref04_may.l0 k B v (i + 1) n E := fun k => by
            rw [compassref04_may.l0, if_pos i1, if_pos i0, if_pos e, if_pos a0, if_pos (by omega), if_pos f, w]
          exact ⟨fun h => (h1 h).step st, fun h => (h2 h).step st⟩
        · exact ⟨fun h => absurd (h i i0 i1 e) f, fun _ => Evl.here fun k => by rw [compassref04_may.l0, if_pos i1, if_pos i0, if_pos e, if_pos a0, if_pos (by omega), if_neg f]⟩
      · obtain ⟨h1, h2⟩ := ih (i + 1) (by omega) (by omega) (fun j a b q => by
          by_cases r : j = i
          · rw [r] at q; exact absurd q e
          · exact hp j a (by omega) q)
        have st : ∀ k, compassref04_may.l0 (k + 1) B v i n E = compassref04_may.l0 k B v (i + 1) n E := fun k => by
          rw [compassref04_may.l0, if_pos i1, if_pos i0, if_neg e, w]
        exact ⟨fun h => (h1 h).step st, fun h => (h2 h).step st⟩
  obtain ⟨h1, h2⟩ := loop E.length 0 (Int.le_refl 0) (by omega) (fun j a b => by omega)
  exact ⟨fun h => (h1 h).congr fun k => rfl, fun h => (h2 h).congr fun k => rfl⟩

/-- The document's round, from node v down. -/
theorem ref_order_step (n : Int) (E : List S41) (hR : Right n E) (O : List Int) (B : List Bool) (hB : (B.length : Int) = n) (v : Int) (v0 : 0 ≤ v) (v1 : v < n) (x : Int) (r : List Int × Int) :
    (Ready E B v → Evl (fun k => compassref04_Order.l1 k B O v (v - 1) n E) r → Evl (fun k => compassref04_Order.l1 k B O x v n E) r) ∧
    (¬ Ready E B v → Evl (fun k => compassref04_Order.l1 k B O x (v - 1) n E) r → Evl (fun k => compassref04_Order.l1 k B O x v n E) r) := by
  have n1 := hR.n1
  have wv := wm (i := v) (by omega) (by omega)
  obtain ⟨h1, h2⟩ := may_f n E hR B hB v
  constructor
  · intro hr H
    refine (Evl.bind (h1 hr.2) (h := fun k t => if t = true then compassref04_Order.l1 k B O v (wrap64 (v - 1)) n E else compassref04_Order.l1 k B O x (wrap64 (v - 1)) n E) (r := r) (H.congr fun k => by rw [if_pos rfl, wv])).step fun k => ?_
    rw [compassref04_Order.l1, if_pos (by omega), if_pos v0, if_pos (by omega), if_neg (by rw [hr.1]; simp)]
  · intro hr H
    by_cases hd : rdOf false B v = true
    · exact H.step fun k => by rw [compassref04_Order.l1, if_pos (by omega), if_pos v0, if_pos (by omega), if_pos hd, wv]
    · refine (Evl.bind (h2 fun h => hr ⟨by simpa using hd, h⟩) (h := fun k t => if t = true then compassref04_Order.l1 k B O v (wrap64 (v - 1)) n E else compassref04_Order.l1 k B O x (wrap64 (v - 1)) n E) (r := r) (H.congr fun k => by rw [if_neg (by simp), wv])).step fun k => ?_
      rw [compassref04_Order.l1, if_pos (by omega), if_pos v0, if_pos (by omega), if_neg hd]
theorem ref_order_none (n : Int) (E : List S41) (hR : Right n E) (O : List Int) (B : List Bool) (hB : (B.length : Int) = n) (hno : ∀ u, 0 ≤ u → u < n → ¬ Ready E B u) (d : Nat) : ∀ v : Int, v + 1 = d → v < n →
    Evl (fun k => compassref04_Order.l1 k B O (-1) v n E) ([], 71) := by
  induction d with
  | zero => intro v hv h; exact Evl.here fun k => by rw [compassref04_Order.l1, if_neg (by omega), if_pos (by decide)]
  | succ d ih => intro v hv h; exact (ref_order_step n E hR O B hB v (by omega) h (-1) _).2 (hno v (by omega) h) (ih (v - 1) (by omega) (by omega))
theorem ref_order_below (n : Int) (E : List S41) (hR : Right n E) (O : List Int) (hO : (O.length : Int) ≤ 5000) (B : List Bool) (hB : (B.length : Int) = n) (u : Int) (u0 : 0 ≤ u) (u1 : u < n) (hno : ∀ y, 0 ≤ y → y < u → ¬ Ready E B y) (r : List Int × Int)
    (H : Evl (fun k => compassref04_Order.l0 k (B.set u.toNat true) (O ++ [u]) n E) r) (d : Nat) : ∀ v : Int, v + 1 = d → v < u → Evl (fun k => compassref04_Order.l1 k B O u v n E) r := by
  induction d with
  | zero => intro v hv h; exact H.step fun k => by rw [compassref04_Order.l1, if_neg (by omega), if_neg (by omega), if_pos u0, if_pos (by omega), if_pos (by omega)]
  | succ d ih => intro v hv h; exact (ref_order_step n E hR O B hB v (by omega) (by omega) u _).2 (hno v (by omega) h) (ih (v - 1) (by omega) (by omega))
theorem ref_order_some (n : Int) (E : List S41) (hR : Right n E) (O : List Int) (hO : (O.length : Int) ≤ 5000) (B : List Bool) (hB : (B.length : Int) = n) (u : Int) (u0 : 0 ≤ u) (u1 : u < n) (hu : Ready E B u) (hno : ∀ y, 0 ≤ y → y < u → ¬ Ready E B y) (r : List Int × Int)
    (H : Evl (fun k => compassref04_Order.l0 k (B.set u.toNat true) (O ++ [u]) n E) r) (d : Nat) : ∀ v x : Int, v = u + d → v < n → Evl (fun k => compassref04_Order.l1 k B O x v n E) r := by
  induction d with
  | zero =>
    intro v x hv h
    obtain rfl : v = u := by omega
    exact (ref_order_step n E hR O B hB v u0 h x _).1 hu (ref_order_below n E hR O hO B hB v u0 u1 hno r H v.toNat (v - 1) (by omega) (by omega))
  | succ d ih =>
    intro v x hv h
    by_cases hr : Ready E B v
    · exact (ref_order_step n E hR O B hB v (by omega) h x _).1 hr (ih (v - 1) v (by omega) (by omega))
    · exact (ref_order_step n E hR O B hB v (by omega) h x _).2 hr (ih (v - 1) x (by omega) (by omega))

/-- Both go on alike. -/
theorem order_main (n : Int) (E : List S41) (hR : Right n E) (o : List (List Int)) (ho : (o.length : Int) = n) (hout : ∀ v : Int, 0 ≤ v → v < n → rd_L2 o v = outL E E.length v) (d : Nat) :
    ∀ (O : List Int) (B : List Bool) (w : List Int), (O.length : Int) + d = n → St n E O B → Waits n E B w →
    (∃ O' B', Evl (fun k => walk_Order.l1 k O w B o n (O.length : Int) n E) (O', [], 0) ∧ Evl (fun k => compassref04_Order.l0 k B O n E) (O', 0) ∧ St n E O' B' ∧ (O'.length : Int) = n) ∨
    (∃ C, Evl (fun k => walk_Order.l1 k O w B o n (O.length : Int) n E) ([], C, 71) ∧ Evl (fun k => compassref04_Order.l0 k B O n E) ([], 71) ∧ IsCircle n E C) := by
  have n1 := hR.n1
  induction d with
  | zero =>
    intro O B w hd S W
    exact Or.inl ⟨O, B, Evl.here fun k => by rw [walk_Order.l1, if_neg (by omega)], Evl.here fun k => by rw [compassref04_Order.l0, if_neg (by omega)], S, by omega⟩
  | succ d ih =>
    intro O B w hd S W
    have hB := S.len
    have wn := wm (i := n) (by omega) (by omega)
    rcases order_l2 n E hR O B S w W o ho hout (O.length : Int) n.toNat 0 (Int.le_refl 0) (by omega) (fun u a b => by omega) with ⟨u, u0, u1, hu, hno, w', W', R⟩ | ⟨hall, R⟩
    · have hO : ((O ++ [u]).length : Int) = O.length + 1 := by simp
      rw [w1 (by omega) (by omega), ← hO] at R
      rcases ih (O ++ [u]) (B.set u.toNat true) w' (by omega) (S.push hR u0 u1 hu) W' with ⟨O', B', H1, H2, S', e⟩ | ⟨C, H1, H2, c⟩
      · refine Or.inl ⟨O', B', (R _ H1).step fun k => by rw [walk_Order.l1, if_pos (by omega)], ?_, S', e⟩
        exact (ref_order_some n E hR O (by omega) B hB u u0 u1 hu hno _ H2 (n - 1 - u).toNat (n - 1) (-1) (by omega) (by omega)).step fun k => by rw [compassref04_Order.l0, if_pos (by omega), wn]
      · refine Or.inr ⟨C, (R _ H1).step fun k => by rw [walk_Order.l1, if_pos (by omega)], ?_, c⟩
        exact (ref_order_some n E hR O (by omega) B hB u u0 u1 hu hno _ H2 (n - 1 - u).toNat (n - 1) (-1) (by omega) (by omega)).step fun k => by rw [compassref04_Order.l0, if_pos (by omega), wn]
    · have hnum := S.num
      have stuck : Stuck n E B := by
        refine ⟨hB, ?_, fun v v0 v1 hv => ?_⟩
        · refine Classical.byContradiction fun h => ?_
          have all : B.countP (fun b => !b) = 0 := List.countP_eq_zero.mpr fun b hb => by
            obtain ⟨j, hj, e⟩ := List.mem_iff_getElem.mp hb
            by_cases q : rdOf false B (j : Int) = false
            · exact absurd ⟨(j : Int), by omega, by omega, q⟩ h
            · unfold rdOf at q
              rw [Int.toNat_natCast, List.getD_eq_getElem?_getD, List.getElem?_eq_getElem hj] at q
              rw [← e]; simpa using q
          have : undone B = 0 := by unfold undone; omega
          omega
        · refine Classical.byContradiction fun h => hall v v0 v1 ⟨hv, fun i i0 i1 e => ?_⟩
          by_cases q : rdOf false B (rd_T41 E i).f0 = true
          · exact q
          · exact absurd ⟨i, i0, i1, e, by simpa using q⟩ h
      obtain ⟨C, H, c⟩ := round_f n E hR B stuck
      refine Or.inr ⟨C, (R _ (Evl.bind H (h := fun k t => some (([] : List Int), t, (71 : Int))) Evl.pure)).step fun k => by rw [walk_Order.l1, if_pos (by omega)], ?_, c⟩
      exact (ref_order_none n E hR O B hB hall n.toNat (n - 1) (by omega) (by omega)).step fun k => by rw [compassref04_Order.l0, if_pos (by omega), wn]

/-- Order: the program's and the document's answer. -/
theorem order_f (n : Int) (E : List S41) : ∃ O C c, Evl (fun k => walk_Order.f k n E) (O, C, c) ∧ Evl (fun k => compassref04_Order.f k n E) (O, c) ∧ (O.length : Int) ≤ 5000 ∧
    ((c = 71 ∧ O = [] ∧ Right n E ∧ IsCircle n E C) ∨ (c = 0 ∧ C = [] ∧ Right n E ∧ (O.length : Int) = n ∧ ∃ B, St n E O B) ∨ (c ≠ 0 ∧ c ≠ 71 ∧ O = [] ∧ C = [])) := by
  obtain ⟨c, a, C1, C2, hz, ho, -⟩ := check_f n E
  by_cases hc : c = 0
  · obtain ⟨-, hR⟩ := hz hc
    subst hc
    have n0 := hR.n0
    have n1 := hR.n1
    obtain ⟨o, Ho, lo, hout⟩ := outs_f n E hR
    obtain ⟨w, W, R⟩ := order_l0 n E hR E.length 0 (List.replicate n.toNat 0) (by omega) (by rw [List.length_replicate]; omega) (fun v v0 v1 => by rw [rd_replicate _ _ _ v0 (by omega)]; rfl)
    have key : ∀ r, Evl (fun k => walk_Order.l1 k [] w (List.replicate n.toNat false) o n 0 n E) r → Evl (fun k => walk_Order.f k n E) r := fun r H => by
      refine (Evl.bind C1 (h := fun k bt => if bt.1 = 0 then (if 0 ≤ n then (if n.toNat ≤ 35184372088832 then walk_Order.l0 k (List.replicate n.toNat 0) E (E.length : Int) 0 n E else none) else none) else some (([] : List Int), ([] : List Int), bt.1)) ?_).congr fun k => rfl
      refine Evl.congr (R r ?_) (fun k => by rw [if_pos rfl, if_pos n0, if_pos (by omega)]; rfl)
      exact (Evl.bind Ho (h := fun k t => walk_Order.l1 k [] w (List.replicate n.toNat false) t n 0 n E) H).congr fun k => by rw [if_pos n0, if_pos (by omega)]
    have key2 : ∀ r, Evl (fun k => compassref04_Order.l0 k (List.replicate n.toNat false) [] n E) r → Evl (fun k => compassref04_Order.f k n E) r := fun r H => by
      refine (Evl.bind C2 (h := fun k bt => if bt.1 = 0 then (if 0 ≤ n then (if n.toNat ≤ 281474976710656 then compassref04_Order.l0 k (List.replicate n.toNat false) [] n E else none) else none) else some (([] : List Int), bt.1)) ?_).congr fun k => rfl
      exact H.congr fun k => by rw [if_pos rfl, if_pos n0, if_pos (by omega)]
    rcases order_main n E hR o lo hout n.toNat [] (List.replicate n.toNat false) w (by simp; omega) (St.start n E n0) W with ⟨O, B, H1, H2, S, e⟩ | ⟨C, H1, H2, cc⟩
    · exact ⟨O, [], 0, key _ H1, key2 _ H2, by omega, Or.inr (Or.inl ⟨rfl, rfl, hR, e, B, S⟩)⟩
    · exact ⟨[], C, 71, key _ H1, key2 _ H2, by simp, Or.inl ⟨rfl, rfl, hR, cc⟩⟩
  · refine ⟨[], [], c, ?_, ?_, by simp, Or.inr (Or.inr ⟨hc, by omega, rfl, rfl⟩)⟩
    · refine (Evl.bind C1 (h := fun k bt => if bt.1 = 0 then (if 0 ≤ n then (if n.toNat ≤ 35184372088832 then walk_Order.l0 k (List.replicate n.toNat 0) E (E.length : Int) 0 n E else none) else none) else some (([] : List Int), ([] : List Int), bt.1)) ?_).congr fun k => rfl
      exact Evl.pure.congr fun k => by rw [if_neg hc]
    · refine (Evl.bind C2 (h := fun k bt => if bt.1 = 0 then (if 0 ≤ n then (if n.toNat ≤ 281474976710656 then compassref04_Order.l0 k (List.replicate n.toNat false) [] n E else none) else none) else some (([] : List Int), bt.1)) ?_).congr fun k => rfl
      exact Evl.pure.congr fun k => by rw [if_neg hc]
end Go.Proofs.Ytacklfnnpiobgaa.G
