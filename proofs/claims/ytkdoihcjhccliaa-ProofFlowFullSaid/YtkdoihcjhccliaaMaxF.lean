/- The document's plain way to a greatest flow: way after way; it ends, with a flow that fills its cut. -/
import Derived.Test.YtkdoihcjhccliaaQ64
import Derived.Test.YtkdoihcjhccliaaReach
import Derived.Test.YtkdoihcjhccliaaDual
namespace Go.Proofs.Ytkdoihcjhccliaa.G
open Go.RowKit Go.Proofs.Ytkdoihcjhccliaa.Q Go.Proofs.YtkdoihcjhccliaaW.PrintWords Go.Proofs.YtkdoihcjhccliaaW.PrintLast
set_option linter.unusedVariables false

/-- The way back from a node to s. -/
inductive Way (E : List S98) (V : List Int) (s : Int) : Int → List Int → Prop
  | nil : Way E V s s []
  | cons {v : Int} {L : List Int} : v ≠ s → Way E V s (rf E (rd V v)) L → Way E V s v (rd V v :: L)

theorem Tree.way {n : Int} {E : List S98} (R : Right n E) {A V : List Int} {s : Int} {h : Int → Nat} (T : Tree n E A s V h) : ∀ (N : Nat) (v : Int), h v ≤ N → 0 ≤ v → v < n → -1 ≤ rd V v → ∃ L, Way E V s v L := by
  intro N
  induction N with
  | zero =>
    intro v hv v0 v1 r
    rcases T.el v v0 v1 with a | a | a
    · omega
    · rw [a.1]; exact ⟨[], Way.nil⟩
    · have := a.2.2.2.2.2.2; omega
  | succ N ih =>
    intro v hv v0 v1 r
    rcases T.el v v0 v1 with a | a | ⟨a1, a2, a3, a4, a5, a6, a7⟩
    · omega
    · rw [a.1]; exact ⟨[], Way.nil⟩
    · obtain ⟨f0, f1⟩ := rf_in R a2 a3
      obtain ⟨L, hL⟩ := ih (rf E (rd V v)) (by omega) f0 f1 a6
      exact ⟨_, Way.cons a1 hL⟩

/-- What a way is good for. -/
structure Good (E : List S98) (A : List Int) (V : List Int) (s : Int) (h : Int → Nat) (v : Int) (L : List Int) : Prop where
  el : ∀ i ∈ L, 0 ≤ i ∧ i < 2 * (E.length : Int) ∧ 0 < rc E A i ∧ h (rf E i) < h (rt E i) ∧ h (rt E i) ≤ h v
  one : L.Pairwise fun a b => a / 2 ≠ b / 2
  len : L.length ≤ h v
  fl : ∀ w : Int, flux E w L = (if s = w then 1 else 0) - (if v = w then 1 else 0)
theorem Tree.good {n : Int} {E : List S98} (R : Right n E) {A V : List Int} {s : Int} {h : Int → Nat} (T : Tree n E A s V h) {v : Int} {L : List Int} (W : Way E V s v L) : 0 ≤ v → v < n → -1 ≤ rd V v → Good E A V s h v L := by
  induction W with
  | nil => exact fun v0 v1 r => ⟨fun i hi => (by cases hi), List.Pairwise.nil, Nat.zero_le _, fun w => (by rw [flux]; omega)⟩
  | @cons v L vs W ih =>
    intro v0 v1 r
    rcases T.el v v0 v1 with a | a | ⟨a1, a2, a3, a4, a5, a6, a7⟩
    · omega
    · exact absurd a.1 vs
    · obtain ⟨f0, f1⟩ := rf_in R a2 a3
      have G := ih f0 f1 a6
      refine ⟨fun i hi => ?_, List.pairwise_cons.mpr ⟨fun j hj e => ?_, G.one⟩, ?_, fun w => ?_⟩
      · rcases List.mem_cons.mp hi with rfl | hi
        · exact ⟨a2, a3, a5, by rw [a4]; exact a7, by rw [a4]; exact Nat.le_refl _⟩
        · obtain ⟨b1, b2, b3, b4, b5⟩ := G.el i hi
          exact ⟨b1, b2, b3, b4, by omega⟩
      · obtain ⟨b1, b2, b3, b4, b5⟩ := G.el j hj
        by_cases q : rd V v = j
        · rw [← q, a4] at b5; omega
        · have c : rf E j = rt E (rd V v) ∧ rt E j = rf E (rd V v) := by
            unfold rf rt
            rw [← e]
            by_cases z : rd V v % 2 = 0
            · rw [if_neg (show ¬ j % 2 = 0 by omega), if_neg (show ¬ j % 2 = 0 by omega), if_pos z, if_pos z]; exact ⟨rfl, rfl⟩
            · rw [if_pos (show j % 2 = 0 by omega), if_pos (show j % 2 = 0 by omega), if_neg z, if_neg z]; exact ⟨rfl, rfl⟩
          rw [c.1, a4] at b4
          omega
      · have := G.len; rw [List.length_cons]; omega
      · rw [flux, G.fl w, a4]
        by_cases u1 : s = w <;> by_cases u2 : rf E (rd V v) = w <;> by_cases u3 : v = w <;> simp only [u1, u2, u3, if_true, if_false] <;> omega

/-- A flow that is on its way. -/
structure Mid (n : Int) (E : List S98) (s t : Int) (A : List Int) : Prop where
  len : A.length = E.length
  fit : Amts E A
  kept : ∀ v : Int, 0 ≤ v → v < n → v ≠ s → v ≠ t → net E A v E.length = 0
/-- A side that a flow fills. -/
structure Side (n : Int) (E : List S98) (s t : Int) (A : List Int) (B : List Bool) : Prop where
  len : (B.length : Int) = n
  src : rdOf false B s = true
  snk : rdOf false B t = false
  full : ∀ i : Int, 0 ≤ i → i < (E.length : Int) → rdOf false B (rd_T98 E i).f0 = true → rdOf false B (rd_T98 E i).f1 = false → rd A i = (rd_T98 E i).f2
  bare : ∀ i : Int, 0 ≤ i → i < (E.length : Int) → rdOf false B (rd_T98 E i).f0 = false → rdOf false B (rd_T98 E i).f1 = true → rd A i = 0

theorem maxflow_l1 {n : Int} {E : List S98} (n1 : n ≤ 1024) {A V : List Int} (hV : (V.length : Int) = n) (d : Nat) : ∀ (i : Nat) (B : List Bool), ((i + d : Nat) : Int) = n → (B.length : Int) = n → (∀ j : Int, 0 ≤ j → j < (i : Int) → rdOf false B j = decide (-1 ≤ rd V j)) →
    ∃ B', Evl (fun k => compassref11_MaxFlow.l1 k A V B i n E) (A, B') ∧ (B'.length : Int) = n ∧ ∀ j : Int, 0 ≤ j → j < n → rdOf false B' j = decide (-1 ≤ rd V j) := by
  induction d with
  | zero =>
    intro i B hi hB h
    exact ⟨B, Evl.here fun k => by rw [compassref11_MaxFlow.l1, if_neg (by omega)], hB, fun j j0 j1 => h j j0 (by omega)⟩
  | succ d ih =>
    intro i B hi hB h
    have w : wrap64 ((i : Int) + 1) = ((i + 1 : Nat) : Int) := by rw [w1 (by omega) (by omega)]; rfl
    obtain ⟨B', b1, b2, b3⟩ := ih (i + 1) (B.set (i : Int).toNat (decide (rd V i ≥ -1))) (by omega) (by rw [List.length_set]; exact hB) (fun j j0 j1 => by
      rw [rdOf_set _ _ _ _ _ (by omega) (by omega) j0]
      by_cases q : j = i
      · rw [if_pos q, q]
      · rw [if_neg q]; exact h j j0 (by omega))
    exact ⟨B', b1.step fun k => by rw [compassref11_MaxFlow.l1, if_pos (by omega), if_pos (by omega), if_pos (by omega), if_pos (by omega), w], b2, b3⟩

/-- The walk back along the ways. -/
theorem maxflow_l2 {n : Int} {E : List S98} (R : Right n E) {A V : List Int} {s t : Int} {h : Int → Nat} {X : List S98} (hX : Resid E A X) (T : Tree n E A s V h) {v : Int} {L : List Int} (W : Way E V s v L) : 0 ≤ v → v < n → -1 ≤ rd V v → ∀ (M : List Int), (M.length : Int) + h v ≤ 1000000 →
    ∀ r, Evl (fun k => (compassref11_room.f k n X (M ++ L)).bind fun t390 => ((compassref11_change.f k A (M ++ L) t390).bind fun t391 => (compassref11_MaxFlow.l0 k s t t391 n E))) r → Evl (fun k => compassref11_MaxFlow.l2 k s t A V M v n E n X) r := by
  induction W with
  | nil =>
    intro v0 v1 r M hM r hr
    rw [List.append_nil] at hr
    exact hr.step fun k => by rw [compassref11_MaxFlow.l2, if_pos rfl]
  | @cons v L vs W ih =>
    intro v0 v1 r M hM r hr
    rcases T.el v v0 v1 with a | a | ⟨a1, a2, a3, a4, a5, a6, a7⟩
    · omega
    · exact absurd a.1 vs
    · obtain ⟨f0, f1⟩ := rf_in R a2 a3
      have hx := hX.len
      have hl := T.len
      have x0 : (rd_T98 X (rd V v)).f0 = rf E (rd V v) := by rw [hX.el _ a2 a3]
      have ml : ((M ++ [rd V v]).length : Int) = (M.length : Int) + 1 := by rw [List.length_append]; rfl
      refine (ih f0 f1 a6 (M ++ [rd V v]) (by omega) r (by rw [List.append_assoc]; exact hr)).step fun k => ?_
      rw [compassref11_MaxFlow.l2, if_neg vs, if_pos v0, if_pos (by omega), if_pos (by omega), if_pos a2, if_pos (by omega), x0]

theorem net_top {n : Int} {E : List S98} (R : Right n E) {A : List Int} (fit : Amts E A) (v : Int) : net E A v E.length ≤ 4294967296 := by
  have := (net_le (E := E) (v := v) (fit.labs R) E.length (Nat.le_refl _)).2
  have := R.m1
  omega

theorem maxflow_step {n : Int} {E : List S98} (R : Right n E) {s t : Int} (s0 : 0 ≤ s) (s1 : s < n) (t0 : 0 ≤ t) (t1 : t < n) (st : s ≠ t) {A : List Int} (M : Mid n E s t A) :
    (∃ B, Evl (fun k => compassref11_MaxFlow.l0 k s t A n E) (A, B) ∧ Side n E s t A B) ∨
      ∃ A', Mid n E s t A' ∧ net E A s E.length < net E A' s E.length ∧ ∀ r, Evl (fun k => compassref11_MaxFlow.l0 k s t A' n E) r → Evl (fun k => compassref11_MaxFlow.l0 k s t A n E) r := by
  have n0 := R.n0
  have n1 := R.n1
  have m1 := R.m1
  obtain ⟨X, x1, hX⟩ := resid_f R M.len M.fit
  obtain ⟨V, h, v1, T, C⟩ := reach_f R hX s0 s1
  have hl := T.len
  have start : ∀ {r}, Evl (fun k => if rd V t = -2 then (if 0 ≤ n then (if (n : Int).toNat ≤ 281474976710656 then (compassref11_MaxFlow.l1 k A V (List.replicate (n : Int).toNat false) 0 n E) else (none)) else (none)) else (compassref11_MaxFlow.l2 k s t A V ([] : List Int) t n E n X)) r → Evl (fun k => compassref11_MaxFlow.l0 k s t A n E) r := fun hr =>
    (Evl.bind (h := fun k bt376 => (compassref11_reach.f k bt376.1 bt376.2 s).bind fun t381 => (if 0 ≤ t then (if t < (t381.length : Int) then (if rd t381 t = (-2) then (if 0 ≤ n then (if (n : Int).toNat ≤ 281474976710656 then (compassref11_MaxFlow.l1 k A t381 (List.replicate (n : Int).toNat false) 0 n E) else (none)) else (none)) else (compassref11_MaxFlow.l2 k s t A t381 ([] : List Int) t n E bt376.1 bt376.2)) else (none)) else (none))) x1
      (Evl.bind (h := fun k t381 => if 0 ≤ t then (if t < (t381.length : Int) then (if rd t381 t = (-2) then (if 0 ≤ n then (if (n : Int).toNat ≤ 281474976710656 then (compassref11_MaxFlow.l1 k A t381 (List.replicate (n : Int).toNat false) 0 n E) else (none)) else (none)) else (compassref11_MaxFlow.l2 k s t A t381 ([] : List Int) t n E n X)) else (none)) else (none)) v1 (hr.congr fun k => by rw [if_pos t0, if_pos (by omega)]))).step fun k => by rw [compassref11_MaxFlow.l0]
  by_cases q : rd V t = -2
  · left
    obtain ⟨B, b1, b2, b3⟩ := maxflow_l1 n1 (A := A) (E := E) hl n.toNat 0 (List.replicate n.toNat false) (by omega) (by rw [List.length_replicate]; omega) (fun j j0 j1 => by omega)
    refine ⟨B, start (b1.congr fun k => by rw [if_pos q, if_pos n0, if_pos (by omega)]; rfl), b2, by rw [b3 s s0 s1, T.src]; rfl, by rw [b3 t t0 t1, q]; rfl, fun i i0 i1 z0 z1 => ?_, fun i i0 i1 z0 z1 => ?_⟩
    · have e := R.e i i0 i1
      have c := C (2 * i) (by omega) (by omega)
      have a := M.fit i i0 i1
      rw [b3 _ e.a0 e.a1] at z0
      rw [b3 _ e.b0 e.b1] at z1
      have z0 := of_decide_eq_true z0
      have z1 := of_decide_eq_false z1
      unfold rc rf rt at c
      rw [if_pos (by omega), if_pos (by omega), if_pos (by omega), show 2 * i / 2 = i by omega] at c
      rcases T.el _ e.b0 e.b1 with y | y | y
      · by_cases g : 0 < (rd_T98 E i).f2 - rd A i
        · exact absurd y (c g z0)
        · omega
      · omega
      · omega
    · have e := R.e i i0 i1
      have c := C (2 * i + 1) (by omega) (by omega)
      have a := M.fit i i0 i1
      rw [b3 _ e.a0 e.a1] at z0
      rw [b3 _ e.b0 e.b1] at z1
      have z0 := of_decide_eq_false z0
      have z1 := of_decide_eq_true z1
      unfold rc rf rt at c
      rw [if_neg (by omega), if_neg (by omega), if_neg (by omega), show (2 * i + 1) / 2 = i by omega] at c
      rcases T.el _ e.a0 e.a1 with y | y | y
      · by_cases g : 0 < rd A i
        · exact absurd y (c g z1)
        · omega
      · omega
      · omega
  · right
    have rt1 : -1 ≤ rd V t := by
      rcases T.el t t0 t1 with y | y | y
      · exact absurd y q
      · omega
      · omega
    obtain ⟨L, W⟩ := T.way R (h t) t (Nat.le_refl _) t0 t1 rt1
    have G := T.good R W t0 t1 rt1
    have ht := T.top t
    have Ln : L ≠ [] := by
      cases W with
      | nil => exact absurd rfl st
      | cons _ _ => simp
    have Ll : (L.length : Int) ≤ 1000000 := by have := G.len; omega
    obtain ⟨x, r1, r2, j, r3, r4⟩ := room_f n hX Ll Ln (fun i hi => ⟨(G.el i hi).1, (G.el i hi).2.1⟩)
    have xp : 0 < x := by rw [r4]; exact (G.el j r3).2.2.1
    have F : Fit E A L x := ⟨by omega, fun i hi => ⟨(G.el i hi).1, (G.el i hi).2.1, r2 i hi⟩, G.one⟩
    have net' : ∀ w, net E (chg x A L) w E.length = net E A w E.length + x * flux E w L := fun w => net_chg L A M.len F
    refine ⟨chg x A L, ⟨by rw [chg_len]; exact M.len, chg_fit L A M.len M.fit F, fun v v0 v1 a b => ?_⟩, ?_, fun r hr => ?_⟩
    · rw [net', G.fl, M.kept v v0 v1 a b, if_neg (fun e => a e.symm), if_neg (fun e => b e.symm)]; omega
    · rw [net', G.fl, if_pos rfl, if_neg (fun e => st e.symm)]; omega
    · refine start ((maxflow_l2 R hX T W t0 t1 rt1 [] (by rw [List.length_nil]; omega) r ?_).congr fun k => by rw [if_neg q])
      rw [List.nil_append]
      exact Evl.bind (h := fun k t390 => (compassref11_change.f k A L t390).bind fun t391 => compassref11_MaxFlow.l0 k s t t391 n E) r1 (Evl.bind (h := fun k t391 => compassref11_MaxFlow.l0 k s t t391 n E) (change_f R Ll M.len M.fit F) hr)

theorem maxflow_l0 {n : Int} {E : List S98} (R : Right n E) {s t : Int} (s0 : 0 ≤ s) (s1 : s < n) (t0 : 0 ≤ t) (t1 : t < n) (st : s ≠ t) (N : Nat) : ∀ A : List Int, (4294967296 - net E A s E.length).toNat ≤ N → Mid n E s t A →
    ∃ A' B, Evl (fun k => compassref11_MaxFlow.l0 k s t A n E) (A', B) ∧ Mid n E s t A' ∧ Side n E s t A' B := by
  induction N with
  | zero =>
    intro A hN M
    rcases maxflow_step R s0 s1 t0 t1 st M with ⟨B, b1, b2⟩ | ⟨A', a1, a2, a3⟩
    · exact ⟨A, B, b1, M, b2⟩
    · have := net_top R a1.fit s; omega
  | succ N ih =>
    intro A hN M
    rcases maxflow_step R s0 s1 t0 t1 st M with ⟨B, b1, b2⟩ | ⟨A', a1, a2, a3⟩
    · exact ⟨A, B, b1, M, b2⟩
    · obtain ⟨A2, B, c1, c2, c3⟩ := ih A' (by have := net_top R a1.fit s; omega) a1
      exact ⟨A2, B, a3 _ c1, c2, c3⟩
theorem net_bare (E : List S98) (k : Nat) (v : Int) : ∀ i : Nat, net E (List.replicate k 0) v i = 0 := by
  have z : ∀ j : Int, rd (List.replicate k (0 : Int)) j = 0 := fun j => by
    unfold rd; rw [List.getD_eq_getElem?_getD, List.getElem?_replicate]; split <;> rfl
  intro i
  induction i with
  | zero => rfl
  | succ i ih => simp only [net]; rw [ih, z]; split <;> split <;> rfl
/-- There is a greatest flow, and the document finds it, with its side. -/
theorem maxflow_f {n : Int} {E : List S98} (R : Right n E) {s t : Int} (s0 : 0 ≤ s) (s1 : s < n) (t0 : 0 ≤ t) (t1 : t < n) (st : s ≠ t) :
    ∃ A B, Evl (fun k => compassref11_MaxFlow.f k n E s t) (A, B) ∧ Mid n E s t A ∧ Side n E s t A B := by
  have m1 := R.m1
  have M : Mid n E s t (List.replicate E.length 0) := ⟨by rw [List.length_replicate], fun i i0 i1 => by
    have c0 := (R.e i i0 i1).c0
    rw [rd_replicate _ _ _ i0 i1]; exact ⟨Int.le_refl _, c0⟩, fun v _ _ _ _ => net_bare E _ v _⟩
  obtain ⟨A, B, a1, a2, a3⟩ := maxflow_l0 R s0 s1 t0 t1 st _ _ (Nat.le_refl _) M
  refine ⟨A, B, a1.congr fun k => ?_, a2, a3⟩
  rw [compassref11_MaxFlow.f, if_pos (by omega), if_pos (by omega)]; rfl
theorem esum_full {n : Int} {E : List S98} (R : Right n E) {s t : Int} {B : List Bool} {A : List Int} (S : Side n E s t A B) : ∀ i : Nat, i ≤ E.length → esum (ind B) E A i = cut E B i := by
  intro i
  induction i with
  | zero => intro _; rfl
  | succ i ih =>
    intro hi
    have a := ih (by omega)
    simp only [esum, cut, ind]
    rw [a]
    by_cases q0 : rdOf false B (rd_T98 E i).f0 = true
    · by_cases q1 : rdOf false B (rd_T98 E i).f1 = true
      · rw [if_pos q0, if_pos q1, if_neg (by rw [q1]; simp)]; omega
      · have f := S.full i (by omega) (by omega) q0 (by simpa using q1)
        rw [if_pos q0, if_neg q1, if_pos ⟨q0, by simpa using q1⟩, f]; omega
    · rw [if_neg q0, if_neg (show ¬ (rdOf false B (rd_T98 E i).f0 = true ∧ rdOf false B (rd_T98 E i).f1 = false) from fun h => q0 h.1)]
      by_cases q1 : rdOf false B (rd_T98 E i).f1 = true
      · have f := S.bare i (by omega) (by omega) (by simpa using q0) q1
        rw [if_pos q1, f]; omega
      · rw [if_neg q1]; omega
theorem side_cut {n : Int} {E : List S98} (R : Right n E) {s t : Int} (s0 : 0 ≤ s) (s1 : s < n) {B : List Bool} {A : List Int} (M : Mid n E s t A) (S : Side n E s t A B) : net E A s E.length = cut E B E.length := by
  have n0 := R.n0
  have a := wsum_flow (E := E) (A := A) (i := E.length) S.src S.snk s0 n.toNat (fun u a b c d => M.kept u a (by omega) c d)
  rw [if_pos (by omega), wsum_esum R (ind B) A E.length (Nat.le_refl _)] at a
  rw [← a]
  exact esum_full R S E.length (Nat.le_refl _)
end Go.Proofs.Ytkdoihcjhccliaa.G
