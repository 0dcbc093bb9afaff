/- The circuit: going on as long as one can, and putting in the rounds that were left out, gives a closed walk over all edges that hang together, each once. -/
import Derived.Test.YtplbkggdnonfbaaQ0
import Derived.Test.YtplbkggdnonfbaaQ9
import Derived.Test.YtplbkggdnonfbaaWalks
namespace Go.Proofs.Ytplbkggdnonfbaa.G
open Go.RowKit Go.Proofs.Ytplbkggdnonfbaa.Q Go.Proofs.YtplbkggdnonfbaaW.PrintWords Go.Proofs.YtplbkggdnonfbaaW.PrintLast
set_option linter.unusedVariables false

/-! ### Lists -/
theorem sub_len : ∀ (l m : List Int), l.Nodup → (∀ x ∈ l, x ∈ m) → l.length ≤ m.length := by
  intro l
  induction l with
  | nil => intro m _ _; exact Nat.zero_le _
  | cons a t ih =>
    intro m h hs
    obtain ⟨ha, ht⟩ := List.nodup_cons.mp h
    have hm : a ∈ m := hs a (by simp)
    have := ih (m.erase a) ht (fun x hx => (List.mem_erase_of_ne (fun e => ha (by rw [← e]; exact hx))).mpr (hs x (by simp [hx])))
    rw [List.length_erase_of_mem hm] at this
    have := List.length_pos_of_mem hm
    rw [List.length_cons]; omega
def rng (m : Nat) : List Int := (List.range m).map Int.ofNat
theorem mem_rng (m : Nat) (x : Int) : x ∈ rng m ↔ 0 ≤ x ∧ x < (m : Int) := by
  unfold rng
  rw [List.mem_map]
  constructor
  · rintro ⟨i, hi, rfl⟩
    rw [List.mem_range] at hi
    exact ⟨Int.natCast_nonneg i, Int.ofNat_lt.mpr hi⟩
  · rintro ⟨h0, h1⟩
    exact ⟨x.toNat, List.mem_range.mpr (by omega), by show ((x.toNat : Nat) : Int) = x; omega⟩
theorem len_rng (m : Nat) : (rng m).length = m := by unfold rng; rw [List.length_map, List.length_range]
theorem nodup_rng (m : Nat) : (rng m).Nodup := by
  unfold rng
  refine List.pairwise_map.mpr (List.Pairwise.imp (fun {a b} h e => h (Int.ofNat.inj e)) List.nodup_range)
theorem cnt_le (m : Nat) (U : List Int) (h : U.Nodup) (hr : ∀ x ∈ U, 0 ≤ x ∧ x < (m : Int)) (g : Int → Bool) : U.countP g ≤ (rng m).countP g := by
  rw [List.countP_eq_length_filter, List.countP_eq_length_filter]
  refine sub_len _ _ (h.filter _) fun x hx => ?_
  rw [List.mem_filter] at hx ⊢
  exact ⟨(mem_rng m x).mpr (hr x hx.1), hx.2⟩
theorem cnt_ge (m : Nat) (U : List Int) (g : Int → Bool) (h : ∀ x, 0 ≤ x → x < (m : Int) → g x = true → x ∈ U) : (rng m).countP g ≤ U.countP g := by
  rw [List.countP_eq_length_filter, List.countP_eq_length_filter]
  refine sub_len _ _ ((nodup_rng m).filter _) fun x hx => ?_
  rw [List.mem_filter] at hx ⊢
  obtain ⟨a, b⟩ := (mem_rng m x).mp hx.1
  exact ⟨h x a b hx.2, hx.2⟩
theorem cnt_lt (m : Nat) (U : List Int) (h : U.Nodup) (hr : ∀ x ∈ U, 0 ≤ x ∧ x < (m : Int)) (g : Int → Bool) (i : Int) (i0 : 0 ≤ i) (i1 : i < (m : Int)) (hg : g i = true) (hi : i ∉ U) : U.countP g + 1 ≤ (rng m).countP g := by
  have := cnt_le m (i :: U) (List.nodup_cons.mpr ⟨hi, h⟩) (fun x hx => by
    rcases List.mem_cons.mp hx with rfl | hx
    · exact ⟨i0, i1⟩
    · exact hr x hx) g
  rw [List.countP_cons_of_pos hg] at this; exact this

/-! ### Steps and walks -/
def src (E : List S45) (s : S51) : Int := if s.f1 = true then (rd_T45 E s.f0).f1 else (rd_T45 E s.f0).f0
def dst (E : List S45) (s : S51) : Int := if s.f1 = true then (rd_T45 E s.f0).f0 else (rd_T45 E s.f0).f1
def walkTo (E : List S45) : Int → List S51 → Int → Prop
  | x, [], y => x = y
  | x, s :: t, y => src E s = x ∧ 0 ≤ s.f0 ∧ s.f0 < (E.length : Int) ∧ walkTo E (dst E s) t y
theorem walkTo_append (E : List S45) : ∀ (l m : List S51) (x y z : Int), walkTo E x l y → walkTo E y m z → walkTo E x (l ++ m) z := by
  intro l
  induction l with
  | nil => intro m x y z h1 h2; have h : x = y := h1; rw [h]; exact h2
  | cons s t ih => intro m x y z h1 h2; obtain ⟨a, b, c, d⟩ := h1; exact ⟨a, b, c, ih m _ _ _ d h2⟩
theorem walkTo_split (E : List S45) : ∀ (l m : List S51) (x z : Int), walkTo E x (l ++ m) z → ∃ y, walkTo E x l y ∧ walkTo E y m z := by
  intro l
  induction l with
  | nil => intro m x z h; exact ⟨x, rfl, h⟩
  | cons s t ih =>
    intro m x z h
    obtain ⟨a, b, c, d⟩ := h
    obtain ⟨y, p, q⟩ := ih m _ _ d
    exact ⟨y, ⟨a, b, c, p⟩, q⟩
def ind (a b : Int) : Nat := if a = b then 1 else 0
theorem tel (E : List S45) (v : Int) : ∀ (l : List S51) (x y : Int), walkTo E x l y → l.countP (fun s => decide (src E s = v)) + ind y v = l.countP (fun s => decide (dst E s = v)) + ind x v := by
  intro l
  induction l with
  | nil => intro x y h; have h' : x = y := h; rw [h']; rfl
  | cons s t ih =>
    intro x y h
    obtain ⟨a, -, -, d⟩ := h
    have := ih _ _ d
    rw [List.countP_cons, List.countP_cons]
    unfold ind at this ⊢
    simp only [decide_eq_true_eq, a] at this ⊢
    omega

/-- How many edges go out of a node, come into it. -/
def dout (E : List S45) (v : Int) : Nat := (rng E.length).countP fun i => decide ((rd_T45 E i).f0 = v)
def din (E : List S45) (v : Int) : Nat := (rng E.length).countP fun i => decide ((rd_T45 E i).f1 = v)
/-- As many out as in; or an even number. -/
def Bal (n : Int) (E : List S45) (d : Bool) : Prop := ∀ v, 0 ≤ v → v < n → if d = true then dout E v = din E v else (dout E v + din E v) % 2 = 0

theorem cs_directed (E : List S45) (v : Int) (l : List S51) (h : ∀ s ∈ l, s.f1 = false) :
    l.countP (fun s => decide (src E s = v)) = (l.map S51.f0).countP (fun i => decide ((rd_T45 E i).f0 = v)) ∧ l.countP (fun s => decide (dst E s = v)) = (l.map S51.f0).countP (fun i => decide ((rd_T45 E i).f1 = v)) := by
  rw [List.countP_map, List.countP_map]
  constructor
  · refine List.countP_congr fun s hs => ?_
    show decide (src E s = v) = true ↔ decide ((rd_T45 E s.f0).f0 = v) = true
    unfold src; rw [if_neg (by rw [h s hs]; simp)]
  · refine List.countP_congr fun s hs => ?_
    show decide (dst E s = v) = true ↔ decide ((rd_T45 E s.f0).f1 = v) = true
    unfold dst; rw [if_neg (by rw [h s hs]; simp)]
theorem cs_both (E : List S45) (v : Int) (l : List S51) : l.countP (fun s => decide (src E s = v)) + l.countP (fun s => decide (dst E s = v)) =
    (l.map S51.f0).countP (fun i => decide ((rd_T45 E i).f0 = v)) + (l.map S51.f0).countP (fun i => decide ((rd_T45 E i).f1 = v)) := by
  induction l with
  | nil => rfl
  | cons s t ih =>
    rw [List.map_cons, List.countP_cons, List.countP_cons, List.countP_cons, List.countP_cons]
    unfold src dst at ih ⊢
    simp only [decide_eq_true_eq] at ih ⊢
    by_cases b : s.f1 = true
    · simp only [b, if_true] at ih ⊢; omega
    · simp only [b, if_false, Bool.false_eq_true] at ih ⊢; omega

/-- The ways that lead out of each node. -/
structure Ways (n : Int) (E : List S45) (d : Bool) (Y : List (List S51)) : Prop where
  len : (Y.length : Int) = n
  mem : ∀ v, 0 ≤ v → v < n → ∀ s ∈ rd_L5 Y v, 0 ≤ s.f0 ∧ s.f0 < (E.length : Int) ∧ src E s = v ∧ (d = true → s.f1 = false)
  fwd : ∀ i, 0 ≤ i → i < (E.length : Int) → (⟨i, false⟩ : S51) ∈ rd_L5 Y (rd_T45 E i).f0
  bwd : d = false → ∀ i, 0 ≤ i → i < (E.length : Int) → (⟨i, true⟩ : S51) ∈ rd_L5 Y (rd_T45 E i).f1
  bnd : ∀ v, 0 ≤ v → v < n → ((rd_L5 Y v).length : Int) ≤ 10000

theorem rd_L5_set (l : List (List S51)) (x : List S51) (i j : Int) (h0 : 0 ≤ i) (h : i < (l.length : Int)) (hj : 0 ≤ j) : rd_L5 (l.set i.toNat x) j = if j = i then x else rd_L5 l j := by
  unfold rd_L5
  rw [getD_set l [] x i.toNat j.toNat (by omega)]
  by_cases e : j = i
  · rw [if_pos e, if_pos (by rw [e])]
  · rw [if_neg e, if_neg (by omega)]

theorem countP_setB (p : Bool → Bool) (l : List Bool) : ∀ (i : Nat) (x : Bool), i < l.length → p (l.getD i false) = true → p x = false → (l.set i x).countP p + 1 = l.countP p := by
  induction l with
  | nil => intro i x h; exact absurd h (by simp)
  | cons a t ih =>
    intro i x h hp hx
    cases i with
    | zero => simp at hp; simp [hp, hx]
    | succ i =>
      have := ih i x (by simpa using h) (by simpa using hp) hx
      simp only [List.set_cons_succ, List.countP_cons]
      omega
def unused (B : List Bool) : Nat := B.countP fun b => !b
theorem unused_set (B : List Bool) (i : Int) (h0 : 0 ≤ i) (h : i < (B.length : Int)) (hn : rdOf false B i = false) : unused (B.set i.toNat true) + 1 = unused B :=
  countP_setB (fun b => !b) B i.toNat true (by omega) (by unfold rdOf at hn; rw [hn]; rfl) rfl

/-- The state: ways left, edges used, steps taken, steps put out; the walk stands at top; what was put out leads from z to the start. -/
structure Inv (n : Int) (E : List S45) (d : Bool) (Y W : List (List S51)) (B : List Bool) (start top z : Int) (T O : List S51) : Prop where
  wl : (W.length : Int) = n
  bl : (B.length : Int) = E.length
  t0 : 0 ≤ top
  t1 : top < n
  wsub : ∀ v, 0 ≤ v → v < n → ∀ s ∈ rd_L5 W v, s ∈ rd_L5 Y v
  wall : ∀ v, 0 ≤ v → v < n → ∀ s ∈ rd_L5 Y v, s ∈ rd_L5 W v ∨ rdOf false B s.f0 = true
  used : ∀ i, 0 ≤ i → i < (E.length : Int) → (rdOf false B i = true ↔ i ∈ (T ++ O).map S51.f0)
  nd : ((T ++ O).map S51.f0).Nodup
  inr : ∀ s ∈ T ++ O, 0 ≤ s.f0 ∧ s.f0 < (E.length : Int) ∧ (d = true → s.f1 = false)
  pt : walkTo E start T top
  po : walkTo E z O.reverse start
  done : ∀ s ∈ O, rd_L5 W (dst E s) = []

theorem Inv.stuck {n : Int} {E : List S45} {d : Bool} {Y W : List (List S51)} {B : List Bool} {start top z : Int} {T O : List S51} (hR : Right n E) (hY : Ways n E d Y) (hB : Bal n E d)
    (I : Inv n E d Y W B start top z T O) (hw : rd_L5 W top = []) : top = z := by
  refine Classical.byContradiction fun hne => ?_
  have h1 := tel E top T start top I.pt
  have h2 := tel E top O.reverse z start I.po
  rw [List.countP_reverse, List.countP_reverse] at h2
  have hU1 : (T ++ O).countP (fun s => decide (src E s = top)) = T.countP (fun s => decide (src E s = top)) + O.countP (fun s => decide (src E s = top)) := List.countP_append
  have hU2 : (T ++ O).countP (fun s => decide (dst E s = top)) = T.countP (fun s => decide (dst E s = top)) + O.countP (fun s => decide (dst E s = top)) := List.countP_append
  have i1 : ind top top = 1 := by unfold ind; rw [if_pos rfl]
  have i2 : ind z top = 0 := by unfold ind; rw [if_neg (fun e => hne e.symm)]
  have key : (T ++ O).countP (fun s => decide (src E s = top)) + 1 = (T ++ O).countP (fun s => decide (dst E s = top)) := by omega
  have usedF : ∀ i, 0 ≤ i → i < (E.length : Int) → (rd_T45 E i).f0 = top → i ∈ (T ++ O).map S51.f0 := fun i a b e => by
    have := hY.fwd i a b
    rw [e] at this
    rcases I.wall top I.t0 I.t1 _ this with h | h
    · rw [hw] at h; simp at h
    · exact (I.used i a b).mp h
  have hr : ∀ x ∈ (T ++ O).map S51.f0, 0 ≤ x ∧ x < (E.length : Int) := fun x hx => by
    obtain ⟨s, hs, rfl⟩ := List.mem_map.mp hx
    exact ⟨(I.inr s hs).1, (I.inr s hs).2.1⟩
  have bal := hB top I.t0 I.t1
  have g0 := cnt_ge E.length ((T ++ O).map S51.f0) (fun i => decide ((rd_T45 E i).f0 = top)) (fun x a b h => usedF x a b (by simpa using h))
  have l1 := cnt_le E.length ((T ++ O).map S51.f0) I.nd hr (fun i => decide ((rd_T45 E i).f1 = top))
  have l0 := cnt_le E.length ((T ++ O).map S51.f0) I.nd hr (fun i => decide ((rd_T45 E i).f0 = top))
  unfold dout din at bal
  by_cases hd : d = true
  · rw [if_pos hd] at bal
    obtain ⟨c1, c2⟩ := cs_directed E top (T ++ O) (fun s hs => (I.inr s hs).2.2 hd)
    rw [c1, c2] at key
    omega
  · rw [if_neg hd] at bal
    have usedB : ∀ i, 0 ≤ i → i < (E.length : Int) → (rd_T45 E i).f1 = top → i ∈ (T ++ O).map S51.f0 := fun i a b e => by
      have := hY.bwd (by simpa using hd) i a b
      rw [e] at this
      rcases I.wall top I.t0 I.t1 _ this with h | h
      · rw [hw] at h; simp at h
      · exact (I.used i a b).mp h
    have g1 := cnt_ge E.length ((T ++ O).map S51.f0) (fun i => decide ((rd_T45 E i).f1 = top)) (fun x a b h => usedB x a b (by simpa using h))
    have cb := cs_both E top (T ++ O)
    omega

/-- What comes out: a closed walk; no edge twice; the nodes on it are a closed set, all of whose edges are taken. -/
structure Fin (n : Int) (E : List S45) (d : Bool) (start : Int) (R : List S51) : Prop where
  w : walkTo E start R start
  nd : (R.map S51.f0).Nodup
  inr : ∀ s ∈ R, 0 ≤ s.f0 ∧ s.f0 < (E.length : Int) ∧ (d = true → s.f1 = false)
  cl : ∃ X : Int → Prop, X start ∧ (∀ i, 0 ≤ i → i < (E.length : Int) → (X (rd_T45 E i).f0 ↔ X (rd_T45 E i).f1)) ∧ ∀ i, 0 ≤ i → i < (E.length : Int) → X (rd_T45 E i).f0 → i ∈ R.map S51.f0

/-- Each step of a walk begins at its start or where another one ends. -/
theorem walk_src (E : List S45) : ∀ (l : List S51) (x y : Int), walkTo E x l y → ∀ s ∈ l, src E s = x ∨ ∃ t ∈ l, dst E t = src E s := by
  intro l
  induction l with
  | nil => intro x y _ s hs; simp at hs
  | cons a t ih =>
    intro x y h s hs
    obtain ⟨h1, -, -, h2⟩ := h
    rcases List.mem_cons.mp hs with rfl | hs
    · exact Or.inl h1
    · rcases ih _ _ h2 s hs with q | ⟨u, hu, e⟩
      · exact Or.inr ⟨a, by simp, q.symm⟩
      · exact Or.inr ⟨u, by simp [hu], e⟩

theorem Inv.fin {n : Int} {E : List S45} {d : Bool} {Y W : List (List S51)} {B : List Bool} {start top z : Int} {O : List S51} (hR : Right n E) (hY : Ways n E d Y) (hB : Bal n E d)
    (I : Inv n E d Y W B start top z [] O) (hw : rd_L5 W top = []) : Fin n E d start O.reverse := by
  have hz := I.stuck hR hY hB hw
  have ht : start = top := I.pt
  have po := I.po
  rw [← hz, ← ht] at po
  have used := I.used
  have nd := I.nd
  have inr := I.inr
  rw [List.nil_append] at used nd inr
  rw [← ht] at hw
  have s0 : 0 ≤ start := by rw [ht]; exact I.t0
  have s1 : start < n := by rw [ht]; exact I.t1
  -- the nodes on the walk have no way left
  have empty : ∀ v, (v = start ∨ ∃ s ∈ O, dst E s = v) → rd_L5 W v = [] := fun v hv => by
    rcases hv with rfl | ⟨s, hs, rfl⟩
    · exact hw
    · exact I.done s hs
  have ends : ∀ s ∈ O, (src E s = start ∨ ∃ t ∈ O, dst E t = src E s) := fun s hs => by
    rcases walk_src E O.reverse start start po s (by simp [hs]) with h | ⟨t, h, e⟩
    · exact Or.inl h
    · exact Or.inr ⟨t, by simpa using h, e⟩
  have rngX : ∀ v, (v = start ∨ ∃ s ∈ O, dst E s = v) → 0 ≤ v ∧ v < n := fun v hv => by
    rcases hv with rfl | ⟨s, hs, rfl⟩
    · exact ⟨s0, s1⟩
    · obtain ⟨a, b, -⟩ := inr s hs
      obtain ⟨a0, a1, b0, b1, -, -, -, -⟩ := hR.e _ a b
      unfold dst; split
      · exact ⟨a0, a1⟩
      · exact ⟨b0, b1⟩
  have outU : ∀ i, 0 ≤ i → i < (E.length : Int) → ((rd_T45 E i).f0 = start ∨ ∃ s ∈ O, dst E s = (rd_T45 E i).f0) → i ∈ O.map S51.f0 := fun i a b hx => by
    obtain ⟨v0, v1⟩ := rngX _ hx
    rcases I.wall _ v0 v1 _ (hY.fwd i a b) with h | h
    · rw [empty _ hx] at h; simp at h
    · exact (used i a b).mp h
  have bothX : ∀ i, i ∈ O.map S51.f0 → ((rd_T45 E i).f0 = start ∨ ∃ s ∈ O, dst E s = (rd_T45 E i).f0) ∧ ((rd_T45 E i).f1 = start ∨ ∃ s ∈ O, dst E s = (rd_T45 E i).f1) := fun i hi => by
    obtain ⟨s, hs, rfl⟩ := List.mem_map.mp hi
    have h1 := ends s hs
    have h2 : dst E s = start ∨ ∃ t ∈ O, dst E t = dst E s := Or.inr ⟨s, hs, rfl⟩
    by_cases b : s.f1 = true
    · have e1 : src E s = (rd_T45 E s.f0).f1 := by unfold src; rw [if_pos b]
      have e2 : dst E s = (rd_T45 E s.f0).f0 := by unfold dst; rw [if_pos b]
      rw [e1] at h1; rw [e2] at h2
      exact ⟨h2, h1⟩
    · have e1 : src E s = (rd_T45 E s.f0).f0 := by unfold src; rw [if_neg b]
      have e2 : dst E s = (rd_T45 E s.f0).f1 := by unfold dst; rw [if_neg b]
      rw [e1] at h1; rw [e2] at h2
      exact ⟨h1, h2⟩
  have inU : ∀ i, 0 ≤ i → i < (E.length : Int) → ((rd_T45 E i).f1 = start ∨ ∃ s ∈ O, dst E s = (rd_T45 E i).f1) → i ∈ O.map S51.f0 := fun i a b hx => by
    obtain ⟨v0, v1⟩ := rngX _ hx
    by_cases hd : d = true
    · refine Classical.byContradiction fun hi => ?_
      have hr : ∀ x ∈ O.map S51.f0, 0 ≤ x ∧ x < (E.length : Int) := fun x hx => by
        obtain ⟨s, hs, rfl⟩ := List.mem_map.mp hx
        exact ⟨(inr s hs).1, (inr s hs).2.1⟩
      have lt := cnt_lt E.length (O.map S51.f0) nd hr (fun j => decide ((rd_T45 E j).f1 = (rd_T45 E i).f1)) i a b (by simp) hi
      have ge := cnt_ge E.length (O.map S51.f0) (fun j => decide ((rd_T45 E j).f0 = (rd_T45 E i).f1)) (fun x p q h => outU x p q (by
        have h' : (rd_T45 E x).f0 = (rd_T45 E i).f1 := by simpa using h
        rw [h']; exact hx))
      have t := tel E (rd_T45 E i).f1 O.reverse start start po
      rw [List.countP_reverse, List.countP_reverse] at t
      obtain ⟨c1, c2⟩ := cs_directed E (rd_T45 E i).f1 O (fun s hs => (inr s hs).2.2 hd)
      have bal := hB _ v0 v1
      rw [if_pos hd] at bal
      unfold dout din at bal
      omega
    · rcases I.wall _ v0 v1 _ (hY.bwd (by simpa using hd) i a b) with h | h
      · rw [empty _ hx] at h; simp at h
      · exact (used i a b).mp h
  refine ⟨po, ?_, fun s hs => inr s (by simpa using hs), fun v => v = start ∨ ∃ s ∈ O, dst E s = v, Or.inl rfl, fun i a b => ⟨fun h => (bothX i (outU i a b h)).2, fun h => (bothX i (inU i a b h)).1⟩, fun i a b h => ?_⟩
  · rw [List.map_reverse]; exact List.pairwise_reverse.mpr (nd.imp fun h e => h e.symm)
  · rw [List.map_reverse, List.mem_reverse]; exact outU i a b h
end Go.Proofs.Ytplbkggdnonfbaa.G
